/- RotateDue: the plain law, with what the cases' generator gives. -/
import Derived.Test.YtgcigcbhilcgoaaDoorRBack
import Derived.Test.YtgcigcbhilcgoaaDoorY3
import Derived.Test.YtgcigcbhilcgoaaDoorY14
namespace Go.Proofs.YtgcigcbhilcgoaaDoor.Gx
open Go.Gx Go.RowKit
set_option maxRecDepth 100000
def Bytes (l : List Int) : Prop := ∀ c ∈ l, 0 ≤ c ∧ c < 256
theorem int_ok (l : List Int) (a n : Int) (hl : l.length ≤ 1000) (hb : Bytes l) (h0 : 0 ≤ a) (h1 : a ≤ 1000) (hn : 1 ≤ n) : ∃ v a', f_kauditmill_Case_Int ⟨l, a⟩ n = some (v, a') ∧ 0 ≤ v ∧ v < n ∧ 0 ≤ a' ∧ a' ≤ 1000 := by
  unfold f_kauditmill_Case_Int
  by_cases h : n < 2
  · exact ⟨0, a, ite_t (by simpa using h) rfl, by omega, by omega, h0, h1⟩
  · by_cases h2 : a ≥ (l.length : Int)
    · exact ⟨0, a, ite_f (by simpa using h) (ite_t (by simpa using h2) rfl), by omega, by omega, h0, h1⟩
    · obtain ⟨j, rfl⟩ := Int.eq_ofNat_of_zero_le h0
      obtain ⟨u, hu, mu⟩ := got (l := l) (i := j) (by omega)
      have b := hb u mu
      have e : IntKind.wrap .i64 ((IntKind.wrap .i64 ((j : Int) + 1)) - 1) = (j : Int) := by rw [wrap_id (n := (j : Int) + 1) (by omega) (by omega), wrap_id (by omega) (by omega)]; omega
      refine ⟨u.tmod n, (j : Int) + 1, ite_f (by simpa using h) (ite_f (by simpa using h2) ?_), ?_, ?_, by omega, by omega⟩
      · show (at_ l (IntKind.wrap .i64 ((IntKind.wrap .i64 ((j : Int) + 1)) - 1))).bind _ = _
        rw [e]
        refine bind_of (at_nat hu) (ck_of (by omega) ?_)
        show some (((IntKind.wrap .i64 u) : Int).tmod n, IntKind.wrap .i64 ((j : Int) + 1)) = _
        rw [wrap_id (n := u) (by omega) (by omega), wrap_id (by omega) (by omega)]
      · exact Int.tmod_nonneg _ b.1
      · exact Int.tmod_lt_of_pos _ (by omega)
theorem pick_ok (l : List Int) (a : Int) (xs : List Int) (hl : l.length ≤ 1000) (hb : Bytes l) (h0 : 0 ≤ a) (h1 : a ≤ 1000) (hx : xs ≠ []) : ∃ v a', f_kauditmill_Case_Pick ⟨l, a⟩ xs = some (v, a') ∧ v ∈ xs ∧ 0 ≤ a' ∧ a' ≤ 1000 := by
  have := List.length_pos_iff.2 hx
  obtain ⟨v, a', e, v0, v1, a0, a1⟩ := int_ok l a xs.length hl hb h0 h1 (by omega)
  obtain ⟨j, rfl⟩ := Int.eq_ofNat_of_zero_le v0
  obtain ⟨u, hu, mu⟩ := got (l := xs) (i := j) (by omega)
  exact ⟨u, a', by unfold f_kauditmill_Case_Pick; exact bind_of e (bind_of (at_nat hu) rfl), mu, a0, a1⟩
theorem rotation_ok (l : List Int) (hl : l.length ≤ 1000) (hb : Bytes l) : ∃ x a', f_kauditmill_Case_Rotation ⟨l, 0⟩ = some (x, a') ∧ (64 ≤ x.Most ∧ x.Most ≤ 1048576) ∧ (2 ≤ x.Keep ∧ x.Keep ≤ 5) ∧ (1 ≤ x.Action ∧ x.Action ≤ 4) ∧ 0 ≤ a' ∧ a' ≤ 1000 := by
  obtain ⟨m, a1, e1, m1, b1, b2⟩ := pick_ok l 0 [64, 150, 300, 600, 1500, 1048576] hl hb (by omega) (by omega) (by simp)
  obtain ⟨k, a2, e2, k1, k2, c1, c2⟩ := int_ok l a1 4 hl hb b1 b2 (by omega)
  obtain ⟨v, a3, e3, v1, v2, d1, d2⟩ := int_ok l a2 4 hl hb c1 c2 (by omega)
  have hm : 64 ≤ m ∧ m ≤ 1048576 := by simp at m1; omega
  refine ⟨⟨m, 2 + k, 1 + v⟩, a3, ?_, hm, ⟨by show 2 ≤ 2 + k; omega, by show 2 + k ≤ 5; omega⟩, ⟨by show 1 ≤ 1 + v; omega, by show 1 + v ≤ 4; omega⟩, d1, d2⟩
  unfold f_kauditmill_Case_Rotation
  refine bind_of e1 (bind_of e2 (bind_of e3 ?_))
  rw [wrap_id (n := 2 + k) (by omega) (by omega), wrap_id (n := 1 + v) (by omega) (by omega)]
theorem valid_same (r : api_Rotation) : f_kauditref26_RotateValid r = f_rotate_Valid r := rfl
theorem valid_ok (r : api_Rotation) : ∃ b, f_rotate_Valid r = some b ∧ (b = true → (64 ≤ r.Most ∧ r.Most ≤ 1048576) ∧ (2 ≤ r.Keep ∧ r.Keep ≤ 16) ∧ (1 ≤ r.Action ∧ r.Action ≤ 4)) := by
  unfold f_rotate_Valid
  simp only [decide_eq_true_eq]
  by_cases h1 : r.Most ≥ 64
  · by_cases h2 : r.Most ≤ 1048576
    · by_cases h3 : r.Keep ≥ 2
      · by_cases h4 : r.Keep ≤ 16
        · by_cases h5 : r.Action ≥ 1
          · refine ⟨decide (r.Action ≤ 4), by simp [h1, h2, h3, h4, h5], fun k => ?_⟩
            have := of_decide_eq_true k
            omega
          · exact ⟨false, by simp [h1, h2, h3, h4, h5], fun k => by cases k⟩
        · exact ⟨false, by simp [h1, h2, h3, h4], fun k => by cases k⟩
      · exact ⟨false, by simp [h1, h2, h3], fun k => by cases k⟩
    · exact ⟨false, by simp [h1, h2], fun k => by cases k⟩
  · exact ⟨false, by simp [h1], fun k => by cases k⟩
theorem valid_yes {r : api_Rotation} (h1 : 64 ≤ r.Most ∧ r.Most ≤ 1048576) (h2 : 2 ≤ r.Keep ∧ r.Keep ≤ 16) (h3 : 1 ≤ r.Action ∧ r.Action ≤ 4) : f_rotate_Valid r = some true := by
  unfold f_rotate_Valid
  simp only [decide_eq_true_eq]
  rw [if_pos h1.1, if_pos h1.2, if_pos h2.1, if_pos h2.2, if_pos h3.1, decide_eq_true h3.2]
theorem cut_bytes {l : List Int} (hb : Bytes l) (k : Int) : Bytes (cut l 0 k) ∧ (cut l 0 k).length ≤ k.toNat := by
  unfold cut
  refine ⟨fun c hc => hb c (List.mem_of_mem_take (by simpa using hc)), ?_⟩
  simp; omega
def is64 (n : Int) : Prop := -9223372036854775808 ≤ n ∧ n ≤ 9223372036854775807
theorem exceeds_ok {a b c : Int} (ha : is64 a) (hb : is64 b) (hc : 64 ≤ c ∧ c ≤ 1048576) : f_rotate_exceeds a b c = some (decide (a + b > c)) := by
  unfold is64 at ha hb
  unfold f_rotate_exceeds
  simp only [decide_eq_true_eq]
  by_cases h1 : b > 0
  · rw [if_pos h1, wrap_id (n := 9223372036854775807 - b) (by omega) (by omega)]
    by_cases h2 : a > 9223372036854775807 - b
    · rw [if_pos h2]; congr 1; symm; rw [decide_eq_true_eq]; omega
    · rw [if_neg h2, if_neg (by omega), wrap_id (by omega) (by omega)]
  · rw [if_neg h1]
    by_cases h3 : b < 0
    · rw [if_pos h3, wrap_id (n := -9223372036854775808 - b) (by omega) (by omega)]
      by_cases h2 : a < -9223372036854775808 - b
      · rw [if_pos h2]; congr 1; symm; rw [decide_eq_false_iff_not]; omega
      · rw [if_neg h2, wrap_id (by omega) (by omega)]
    · rw [if_neg h3, wrap_id (by omega) (by omega)]
theorem due_ok (r : api_Rotation) {a b : Int} (ha : is64 a) (hb : is64 b) : ∃ d, f_rotate_Due r a b = some d ∧ f_kauditref26_Due r a b = some d := by
  obtain ⟨v, hv, hvt⟩ := valid_ok r
  unfold f_rotate_Due f_kauditref26_Due
  rw [valid_same, hv]
  simp only [Option.bind_some]
  cases v with
  | false => exact ⟨false, rfl, rfl⟩
  | true =>
    obtain ⟨hm, _, _⟩ := hvt rfl
    rw [if_pos rfl, if_pos rfl]
    by_cases h3 : r.Action = 3
    · exact ⟨false, by simp [h3], by simp [h3]⟩
    · rw [if_pos (by simpa using h3), if_neg (by simpa using h3), exceeds_ok ha hb hm]
      refine ⟨decide (a + b > r.Most), rfl, ?_⟩
      unfold is64 at ha hb
      simp only [decide_eq_true_eq]
      by_cases h4 : b ≥ 0
      · rw [if_pos h4, wrap_id (by omega) (by omega)]
        congr 1
        rw [decide_eq_decide]; omega
      · rw [if_neg h4]
        by_cases h5 : a > r.Most
        · rw [if_pos h5, wrap_id (by omega) (by omega)]
        · rw [if_neg h5]; congr 1; symm; rw [decide_eq_false_iff_not]; omega
theorem due_l2 {z1 z2 x : Int} {el : api_Rotation} {y y' : Int × Int} {rec : Int → Int → Option Bool} (h1 : is64 z1) (h2 : is64 z2) (hy : is64 y.1) (hy' : is64 y'.1) (hr : rec y'.2 (IntKind.wrap .i64 (x + 1)) = some true) :
    ∀ (k i : Nat), 6 - i + 1 ≤ k → i ≤ 6 → f_kauditlaw26_RotateDue_l2 z1 z2 x el y y' rec k i = some true := by
  intro k
  induction k with
  | zero => intro i h; omega
  | succ k ih =>
    intro i hk hi
    rw [f_kauditlaw26_RotateDue_l2]
    by_cases h : i < 6
    · have hel : ∃ p : St29, ([(⟨z1, z2⟩ : St29), (⟨y.1, y'.1⟩ : St29), (⟨z1, 1⟩ : St29), (⟨1, z2⟩ : St29), (⟨9223372036854775807, z2⟩ : St29), (⟨z1, (-9223372036854775808)⟩ : St29)])[i]? = some p ∧ is64 p.c0 ∧ is64 p.c1 := by
        have c1 : is64 1 := by unfold is64; omega
        have c2 : is64 9223372036854775807 := by unfold is64; omega
        have c3 : is64 (-9223372036854775808) := by unfold is64; omega
        match i, h with
        | 0, _ => exact ⟨_, rfl, h1, h2⟩
        | 1, _ => exact ⟨_, rfl, hy, hy'⟩
        | 2, _ => exact ⟨_, rfl, h1, c1⟩
        | 3, _ => exact ⟨_, rfl, c1, h2⟩
        | 4, _ => exact ⟨_, rfl, c2, h2⟩
        | 5, _ => exact ⟨_, rfl, h1, c3⟩
      obtain ⟨p, hp, q1, q2⟩ := hel
      obtain ⟨d, d1, d2⟩ := due_ok el q1 q2
      refine ite_t (by simp only [decide_eq_true_eq]; omega) (bind_of (at_nat hp) (bind_of d1 (bind_of d2 (ite_f (by simp) ?_))))
      rw [up (by omega)]
      exact ih (i + 1) (by omega) (by omega)
    · exact ite_f (by simp only [decide_eq_false_iff_not]; omega) hr
theorem due_l1 {z0 : api_Rotation} {z1 z2 : Int} {l : List Int} {x : api_Rotation} {a : Int} (hl : l.length ≤ 1000) (hb : Bytes l) (h1 : is64 z1) (h2 : is64 z2) (hx : f_rotate_Valid x = some true) :
    ∀ (k i : Nat) (c : Int), 2 - i + 1 ≤ k → i ≤ 2 → 0 ≤ c → c ≤ 1000 → f_kauditlaw26_RotateDue_l1 z0 z1 z2 l (x, a) k c i = some true := by
  intro k
  induction k with
  | zero => intro i c h; omega
  | succ k ih =>
    intro i c hk hi c0 c1
    rw [f_kauditlaw26_RotateDue_l1]
    by_cases h : i < 2
    · obtain ⟨u, hu, _⟩ := got (l := [z0, x]) (i := i) (by simpa using h)
      obtain ⟨v, a1, e1, m1, b1, b2⟩ := pick_ok l c [0, 60, 64, 149, 150, 300] hl hb c0 c1 (by simp)
      obtain ⟨v', a2, e2, m2, d1, d2⟩ := pick_ok l a1 [1, 4, 150] hl hb b1 b2 (by simp)
      refine ite_t (by simp only [decide_eq_true_eq]; omega) (bind_of (at_nat hu) (bind_of e1 (bind_of e2 ?_)))
      refine due_l2 h1 h2 ?_ ?_ ?_ _ 0 (by omega) (by omega)
      · unfold is64; simp at m1; show _ ≤ v ∧ v ≤ _; omega
      · unfold is64; simp at m2; show _ ≤ v' ∧ v' ≤ _; omega
      · rw [up (by omega)]
        exact ih (i + 1) a2 (by omega) (by omega) d1 d2
    · refine ite_f (by simp only [decide_eq_false_iff_not]; omega) ?_
      unfold f_kauditlaw26_RotateDue_j3
      obtain ⟨b, hb, _⟩ := valid_ok z0
      exact bind_of hb (bind_of ((valid_same z0).trans hb) (ite_t (by simp) (bind_of hx (ite_t rfl (bind_of begun_ok rfl)))))
theorem due_j1 (z0 : api_Rotation) (z1 z2 : Int) (l : List Int) (h1 : is64 z1) (h2 : is64 z2) (hl : l.length ≤ 1000) (hb : Bytes l) : f_kauditlaw26_RotateDue_j1 z0 z1 z2 l = some true := by
  obtain ⟨x, a, e, v1, v2, v3, a0, a1⟩ := rotation_ok l hl hb
  unfold f_kauditlaw26_RotateDue_j1 f_kauditlaw26_RotateDue_j2
  refine bind_of e ?_
  exact due_l1 hl hb h1 h2 (valid_yes v1 ⟨v2.1, by omega⟩ v3) _ 0 a (by omega) (by omega) a0 a1
theorem due_law (z0 : api_Rotation) (z1 z2 : Int) (z3 : List Int) (h1 : is64 z1) (h2 : is64 z2) (hb : Bytes z3) : f_kauditlaw26_RotateDue z0 z1 z2 z3 = some true := by
  unfold f_kauditlaw26_RotateDue
  by_cases h : z3.length > 30
  · have c := cut_bytes hb 30
    exact ite_t (by simp only [decide_eq_true_eq]; omega) (ck_of ⟨by omega, by omega, by omega⟩ (due_j1 z0 z1 z2 _ h1 h2 (by have := c.2; omega) c.1))
  · exact ite_f (by simp only [decide_eq_false_iff_not]; omega) (due_j1 z0 z1 z2 _ h1 h2 (by omega) hb)
end Go.Proofs.YtgcigcbhilcgoaaDoor.Gx
