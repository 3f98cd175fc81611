/- RotateKeeps: the plain law, with what it wants of ascending lists. -/
import Derived.Test.YtgcigcbhilcgoaaDoorRBack
import Derived.Test.YtgcigcbhilcgoaaDoorY4
import Derived.Test.YtgcigcbhilcgoaaDoorY14
namespace Go.Proofs.YtgcigcbhilcgoaaDoor.Gx
open Go.Gx Go.RowKit
set_option maxRecDepth 100000
def Bytes (l : List Int) : Prop := ∀ c ∈ l, 0 ≤ c ∧ c < 256
theorem int_ok (l : List Int) (a n : Int) (hl : l.length ≤ 1000) (hb : Bytes l) (h0 : 0 ≤ a) (h1 : a ≤ 1000) (hn : 1 ≤ n) : ∃ v a', f_kauditmill_Case_Int ⟨l, a⟩ n = some (v, a') ∧ 0 ≤ v ∧ v < n ∧ 0 ≤ a' ∧ a' ≤ 1000 := by
  unfold f_kauditmill_Case_Int
  by_cases h : n < 2
  · exact ⟨0, a, ite_t (by simpa using h) rfl, by omega, by omega, h0, h1⟩
  · by_cases h2 : a ≥ (l.length : Int)
    · exact ⟨0, a, ite_f (by simpa using h) (ite_t (by simpa using h2) rfl), by omega, by omega, h0, h1⟩
    · obtain ⟨j, rfl⟩ := Int.eq_ofNat_of_zero_le h0
      obtain ⟨u, hu, mu⟩ := got (l := l) (i := j) (by omega)
      have b := hb u mu
      have e : IntKind.wrap .i64 ((IntKind.wrap .i64 ((j : Int) + 1)) - 1) = (j : Int) := by rw [wrap_id (n := (j : Int) + 1) (by omega) (by omega), wrap_id (by omega) (by omega)]; omega
      refine ⟨u.tmod n, (j : Int) + 1, ite_f (by simpa using h) (ite_f (by simpa using h2) ?_), ?_, ?_, by omega, by omega⟩
      · show (at_ l (IntKind.wrap .i64 ((IntKind.wrap .i64 ((j : Int) + 1)) - 1))).bind _ = _
        rw [e]
        refine bind_of (at_nat hu) (ck_of (by omega) ?_)
        show some (((IntKind.wrap .i64 u) : Int).tmod n, IntKind.wrap .i64 ((j : Int) + 1)) = _
        rw [wrap_id (n := u) (by omega) (by omega), wrap_id (by omega) (by omega)]
      · exact Int.tmod_nonneg _ b.1
      · exact Int.tmod_lt_of_pos _ (by omega)
theorem pick_ok (l : List Int) (a : Int) (xs : List Int) (hl : l.length ≤ 1000) (hb : Bytes l) (h0 : 0 ≤ a) (h1 : a ≤ 1000) (hx : xs ≠ []) : ∃ v a', f_kauditmill_Case_Pick ⟨l, a⟩ xs = some (v, a') ∧ v ∈ xs ∧ 0 ≤ a' ∧ a' ≤ 1000 := by
  have := List.length_pos_iff.2 hx
  obtain ⟨v, a', e, v0, v1, a0, a1⟩ := int_ok l a xs.length hl hb h0 h1 (by omega)
  obtain ⟨j, rfl⟩ := Int.eq_ofNat_of_zero_le v0
  obtain ⟨u, hu, mu⟩ := got (l := xs) (i := j) (by omega)
  exact ⟨u, a', by unfold f_kauditmill_Case_Pick; exact bind_of e (bind_of (at_nat hu) rfl), mu, a0, a1⟩
theorem rotation_ok (l : List Int) (hl : l.length ≤ 1000) (hb : Bytes l) : ∃ x a', f_kauditmill_Case_Rotation ⟨l, 0⟩ = some (x, a') ∧ (64 ≤ x.Most ∧ x.Most ≤ 1048576) ∧ (2 ≤ x.Keep ∧ x.Keep ≤ 5) ∧ (1 ≤ x.Action ∧ x.Action ≤ 4) ∧ 0 ≤ a' ∧ a' ≤ 1000 := by
  obtain ⟨m, a1, e1, m1, b1, b2⟩ := pick_ok l 0 [64, 150, 300, 600, 1500, 1048576] hl hb (by omega) (by omega) (by simp)
  obtain ⟨k, a2, e2, k1, k2, c1, c2⟩ := int_ok l a1 4 hl hb b1 b2 (by omega)
  obtain ⟨v, a3, e3, v1, v2, d1, d2⟩ := int_ok l a2 4 hl hb c1 c2 (by omega)
  have hm : 64 ≤ m ∧ m ≤ 1048576 := by simp at m1; omega
  refine ⟨⟨m, 2 + k, 1 + v⟩, a3, ?_, hm, ⟨by show 2 ≤ 2 + k; omega, by show 2 + k ≤ 5; omega⟩, ⟨by show 1 ≤ 1 + v; omega, by show 1 + v ≤ 4; omega⟩, d1, d2⟩
  unfold f_kauditmill_Case_Rotation
  refine bind_of e1 (bind_of e2 (bind_of e3 ?_))
  rw [wrap_id (n := 2 + k) (by omega) (by omega), wrap_id (n := 1 + v) (by omega) (by omega)]
theorem valid_same (r : api_Rotation) : f_kauditref26_RotateValid r = f_rotate_Valid r := rfl
theorem valid_ok (r : api_Rotation) : ∃ b, f_rotate_Valid r = some b ∧ (b = true → (64 ≤ r.Most ∧ r.Most ≤ 1048576) ∧ (2 ≤ r.Keep ∧ r.Keep ≤ 16) ∧ (1 ≤ r.Action ∧ r.Action ≤ 4)) := by
  unfold f_rotate_Valid
  simp only [decide_eq_true_eq]
  by_cases h1 : r.Most ≥ 64
  · by_cases h2 : r.Most ≤ 1048576
    · by_cases h3 : r.Keep ≥ 2
      · by_cases h4 : r.Keep ≤ 16
        · by_cases h5 : r.Action ≥ 1
          · refine ⟨decide (r.Action ≤ 4), by simp [h1, h2, h3, h4, h5], fun k => ?_⟩
            have := of_decide_eq_true k
            omega
          · exact ⟨false, by simp [h1, h2, h3, h4, h5], fun k => by cases k⟩
        · exact ⟨false, by simp [h1, h2, h3, h4], fun k => by cases k⟩
      · exact ⟨false, by simp [h1, h2, h3], fun k => by cases k⟩
    · exact ⟨false, by simp [h1, h2], fun k => by cases k⟩
  · exact ⟨false, by simp [h1], fun k => by cases k⟩
theorem valid_yes {r : api_Rotation} (h1 : 64 ≤ r.Most ∧ r.Most ≤ 1048576) (h2 : 2 ≤ r.Keep ∧ r.Keep ≤ 16) (h3 : 1 ≤ r.Action ∧ r.Action ≤ 4) : f_rotate_Valid r = some true := by
  unfold f_rotate_Valid
  simp only [decide_eq_true_eq]
  rw [if_pos h1.1, if_pos h1.2, if_pos h2.1, if_pos h2.2, if_pos h3.1, decide_eq_true h3.2]
theorem cut_bytes {l : List Int} (hb : Bytes l) (k : Int) : Bytes (cut l 0 k) ∧ (cut l 0 k).length ≤ k.toNat := by
  unfold cut
  refine ⟨fun c hc => hb c (List.mem_of_mem_take (by simpa using hc)), ?_⟩
  simp; omega
def asc (l : List Int) : Prop := l.Pairwise fun a b => a < b
/-- A number into a list, once. -/
def insF (n : Int) : List Int → List Int
  | [] => [n]
  | x :: xs => if n ≤ x then n :: (x :: xs).filter (fun y => y != n) else x :: insF n xs
theorem drop_up {α : Type} {l : List α} {i : Nat} {u : α} (h : l[i]? = some u) : l.drop i = u :: l.drop (i + 1) := by
  obtain ⟨hi, rfl⟩ := List.getElem?_eq_some_iff.1 h
  exact List.drop_eq_getElem_cons hi
def roomy (n : Nat) : Prop := n ≤ 1000000000000
theorem fits8 {n : Nat} (h : roomy n) : fits (n + 1) 8 = true := by unfold fits roomy at *; simp only [decide_eq_true_eq]; omega
theorem add_loop (l : List Int) (n : Int) (hl : l.length ≤ 100000000000) : ∀ (k i : Nat) (out : List Int) (d : Bool), l.length - i + 1 ≤ k → i ≤ l.length → out.length ≤ 2 * i + 1 →
    f_kauditref26_Add_l1 l n k out d i = some (out ++ (if d = true then (l.drop i).filter (fun y => y != n) else insF n (l.drop i))) := by
  intro k
  induction k with
  | zero => intro i out d h; omega
  | succ k ih =>
    intro i out d hk hi ho
    rw [f_kauditref26_Add_l1]
    by_cases h : i < l.length
    · obtain ⟨u, hu, _⟩ := got h
      refine ite_t (by simp only [decide_eq_true_eq]; omega) (bind_of (at_nat hu) ?_)
      have ju : ∀ (out : List Int) (d : Bool), out.length ≤ 2 * i + 2 → f_kauditref26_Add_j1 n i u (f_kauditref26_Add_l1 l n k) out d = some (out ++ (if u != n then [u] else []) ++ (if d = true then (l.drop (i + 1)).filter (fun y => y != n) else insF n (l.drop (i + 1)))) := by
        intro out d ho
        unfold f_kauditref26_Add_j1
        rw [up (by omega)]
        by_cases e : u = n
        · refine ite_f (by simp [e]) ((ih (i + 1) out d (by omega) (by omega) (by omega)).trans ?_)
          simp [e]
        · refine ite_t (by simpa using e) (ck_of (fits8 (by unfold roomy; omega)) ((ih (i + 1) (out ++ [u]) d (by omega) (by omega) (by simp; omega)).trans ?_))
          simp [e]
      rw [drop_up hu]
      cases d with
      | true =>
        refine ite_t rfl ((ju out true (by omega)).trans ?_)
        by_cases e : u = n <;> simp [e]
      | false =>
        refine ite_f rfl ?_
        by_cases e : n ≤ u
        · refine ite_t (by simpa using e) (ck_of (fits8 (by unfold roomy; omega)) ((ju (out ++ [n]) true (by simp; omega)).trans ?_))
          by_cases e2 : u = n
          · simp [insF, e2]
          · simp [insF, e, e2]
        · refine ite_f (by simpa using e) ((ju out false (by omega)).trans ?_)
          have e2 : u ≠ n := by omega
          simp [insF, e, e2]
    · refine ite_f (by simp only [decide_eq_false_iff_not]; omega) ?_
      obtain rfl : i = l.length := by omega
      unfold f_kauditref26_Add_j2
      rw [List.drop_length]
      cases d with
      | true => exact ite_t rfl (by simp)
      | false => exact ite_f rfl (ck_of (fits8 (by unfold roomy; omega)) (by simp [insF]))
theorem add_ok (l : List Int) (n : Int) (hl : l.length ≤ 100000000000) : f_kauditref26_Add l n = some (insF n l) := by
  unfold f_kauditref26_Add
  have := add_loop l n hl ((((l.length : Int) : Int) - 0).toNat + 1) 0 [] false (by omega) (by omega) (by simp)
  simpa using this
theorem mem_insF (n x : Int) : ∀ l : List Int, x ∈ insF n l ↔ x = n ∨ x ∈ l
  | [] => by simp [insF]
  | y :: ys => by
    unfold insF
    split
    · simp only [List.mem_cons, List.mem_filter, bne_iff_ne, ne_eq]
      constructor
      · rintro (h | ⟨h, _⟩)
        · exact .inl h
        · exact .inr h
      · rintro (h | h)
        · exact .inl h
        · by_cases e : x = n
          · exact .inl e
          · exact .inr ⟨h, e⟩
    · rw [List.mem_cons, mem_insF n x ys, List.mem_cons]
      constructor
      · rintro (h | h | h)
        · exact .inr (.inl h)
        · exact .inl h
        · exact .inr (.inr h)
      · rintro (h | h | h)
        · exact .inr (.inl h)
        · exact .inl h
        · exact .inr (.inr h)
theorem asc_insF (n : Int) : ∀ l : List Int, asc l → asc (insF n l)
  | [], _ => List.pairwise_singleton _ _
  | y :: ys, h => by
    unfold asc at h
    rw [List.pairwise_cons] at h
    unfold insF
    split
    · rename_i hn
      unfold asc
      rw [List.pairwise_cons]
      refine ⟨fun b hb => ?_, (List.pairwise_cons.2 h).filter _⟩
      have hb2 := List.mem_filter.1 hb
      have hne : b ≠ n := by simpa using hb2.2
      rcases List.mem_cons.1 hb2.1 with rfl | k
      · omega
      · have := h.1 b k; omega
    · rename_i hn
      unfold asc
      rw [List.pairwise_cons]
      refine ⟨fun b hb => ?_, asc_insF n ys h.2⟩
      rcases (mem_insF n b ys).1 hb with rfl | k
      · omega
      · exact h.1 b k
theorem len_insF (n : Int) : ∀ l : List Int, (insF n l).length ≤ l.length + 1
  | [] => by simp [insF]
  | y :: ys => by
    unfold insF
    split
    · have := List.length_filter_le (fun y => y != n) (y :: ys)
      simp only [List.length_cons] at *; omega
    · have := len_insF n ys
      simp only [List.length_cons]; omega
theorem unique_asc {l : List Int} (h : asc l) (hl : l.length ≤ 100000000000) : f_rotate_unique_int l = some l := by
  unfold f_rotate_unique_int f_slices_Clone_int_int f_slices_Sort_int_int f_slices_Compact_int_int
  refine bind_of (ck_of (by unfold fits; simp only [decide_eq_true_eq]; omega) rfl) (bind_of (y := l) (ck_of (by omega) ?_) (bind_of (y := l) (ck_of (by omega) ?_) rfl))
  · congr 1
    refine List.mergeSort_of_pairwise ?_
    exact h.imp fun k => by simpa using Int.le_of_lt k
  · congr 1
    refine Lib.compact_all l fun j hj => ?_
    unfold Lib.keeps
    rw [decide_eq_true_eq]
    by_cases e : j = 0
    · exact .inl e
    · right
      have := List.pairwise_iff_getElem.1 h (j - 1) j (by omega) hj (by omega)
      rw [getElem!_pos _ j (by simpa using hj), getElem!_pos _ (j - 1) (by simp; omega)]
      simp only [List.getElem_toArray]
      omega
theorem cut0 {l : List Int} (k : Nat) (_ : k ≤ l.length) : (cut l 0 (k : Int)) = l.take k := by unfold cut; simp
theorem keeps_l2 (x : List Int) (k0 : Nat) (hx : x.length ≤ 1000) (h0 : k0 ≤ x.length) : ∀ (k i : Nat), k0 - i + 1 ≤ k → i ≤ k0 → f_kauditlaw26_RotateKeeps_l2 x (x.take k0) k i = some true := by
  have hl : (x.take k0).length = k0 := by simp; omega
  intro k
  induction k with
  | zero => intro i h; omega
  | succ k ih =>
    intro i hk hi
    rw [f_kauditlaw26_RotateKeeps_l2]
    by_cases h : i < k0
    · obtain ⟨u, hu, _⟩ := got (l := x) (i := i) (by omega)
      have hu' : (x.take k0)[i]? = some u := by rw [List.getElem?_take_of_lt h]; exact hu
      refine ite_t (by simp only [decide_eq_true_eq]; omega) (bind_of (at_nat hu') (bind_of (at_nat hu) (ite_f (by simp) ?_)))
      rw [up (by omega)]
      exact ih (i + 1) (by omega) (by omega)
    · refine ite_f (by simp only [decide_eq_false_iff_not]; omega) ?_
      unfold f_kauditlaw26_RotateKeeps_j5
      exact bind_of begun_ok rfl
theorem keeps_j3 (r : api_Rotation) (a : Int) (x : List Int) (hx : x.length ≤ 1000) (ha : asc x) (h1 : 64 ≤ r.Most ∧ r.Most ≤ 1048576) (h2 : 2 ≤ r.Keep ∧ r.Keep ≤ 5) : f_kauditlaw26_RotateKeeps_j3 (r, a) x = some true := by
  unfold f_kauditlaw26_RotateKeeps_j3
  have hm : ∃ k : Nat, (max (0 : Int) (IntKind.wrap .i64 ((IntKind.wrap .i64 ((x.length : Int) + 1)) - r.Keep))) = (k : Int) ∧ k ≤ x.length ∧ (k : Int) = max 0 ((x.length : Int) + 1 - r.Keep) := by
    rw [wrap_id (n := (x.length : Int) + 1) (by omega) (by omega), wrap_id (by omega) (by omega)]
    exact ⟨(max 0 ((x.length : Int) + 1 - r.Keep)).toNat, by omega, by omega, by omega⟩
  obtain ⟨k, e, hk, hke⟩ := hm
  have hd : f_rotate_Drop ⟨r.Most, r.Keep, 1⟩ x = some (x.take k) := by
    unfold f_rotate_Drop
    refine bind_of (valid_yes (r := ⟨r.Most, r.Keep, 1⟩) h1 ⟨h2.1, by show r.Keep ≤ 16; omega⟩ ⟨by show (1 : Int) ≤ 1; omega, by show (1 : Int) ≤ 4; omega⟩) (ite_t rfl (ite_f rfl (bind_of (unique_asc ha (by omega)) ?_)))
    show ck (cutOk x 0 (max (0 : Int) (IntKind.wrap .i64 ((IntKind.wrap .i64 ((x.length : Int) + 1)) - r.Keep)))) _ = _
    rw [e]
    exact ck_of ⟨by omega, by omega, by omega⟩ (by rw [cut0 k hk])
  have hl : (x.take k).length = k := by simp; omega
  refine bind_of hd ?_
  rw [hl, wrap_id (n := (x.length : Int) - (k : Int)) (by omega) (by omega), wrap_id (by omega) (by omega)]
  have fin : f_kauditlaw26_RotateKeeps_j4 x (x.take k) = some true := by
    unfold f_kauditlaw26_RotateKeeps_j4
    exact keeps_l2 x k hx hk _ 0 (by rw [hl]; omega) (by omega)
  refine ite_f (by simp only [decide_eq_false_iff_not]; omega) (ite_f (by simp only [decide_eq_false_iff_not]; omega) ?_)
  by_cases h0 : k = 0
  · exact ite_f (by simp only [decide_eq_false_iff_not]; omega) fin
  · refine ite_t (by simp only [decide_eq_true_eq]; omega) (ite_f ?_ fin)
    simp only [bne_eq_false_iff_eq]; omega
theorem keeps_l1 (l : List Int) (r : api_Rotation) (a0 : Int) (hl : l.length ≤ 1000) (hb : Bytes l) (h1 : 64 ≤ r.Most ∧ r.Most ≤ 1048576) (h2 : 2 ≤ r.Keep ∧ r.Keep ≤ 5) : ∀ (k v : Nat) (a : Int) (x : List Int), v + 1 ≤ k → v ≤ 20 → 0 ≤ a → a ≤ 1000 → asc x → x.length + v ≤ 20 →
    f_kauditlaw26_RotateKeeps_l1 l (r, a0) k a x v = some true := by
  intro k
  induction k with
  | zero => intro v a x h; omega
  | succ k ih =>
    intro v a x hk hv ha0 ha1 hx hlen
    rw [f_kauditlaw26_RotateKeeps_l1]
    by_cases h : v > 0
    · obtain ⟨u, a1, e, u0, u1, c0, c1⟩ := int_ok l a 200 hl hb ha0 ha1 (by omega)
      refine ite_t (by simp only [decide_eq_true_eq]; omega) (bind_of e (bind_of (add_ok x _ (by omega)) ?_))
      have w : IntKind.wrap .i64 ((v : Int) - 1) = ((v - 1 : Nat) : Int) := by rw [wrap_id (by omega) (by omega)]; omega
      rw [w]
      have := len_insF (IntKind.wrap .i64 (1 + u)) x
      exact ih (v - 1) a1 _ (by omega) (by omega) c0 c1 (asc_insF _ x hx) (by show (insF (IntKind.wrap .i64 (1 + u)) x).length + (v - 1) ≤ 20; omega)
    · refine ite_f (by simp only [decide_eq_false_iff_not]; omega) ?_
      exact keeps_j3 r a0 x (by omega) hx h1 h2
theorem keeps_j1 (l : List Int) (hl : l.length ≤ 1000) (hb : Bytes l) : f_kauditlaw26_RotateKeeps_j1 l = some true := by
  obtain ⟨x, a, e, v1, v2, v3, a0, a1⟩ := rotation_ok l hl hb
  obtain ⟨v, a', e', u0, u1, c0, c1⟩ := int_ok l a 14 hl hb a0 a1 (by omega)
  obtain ⟨v, rfl⟩ := Int.eq_ofNat_of_zero_le u0
  unfold f_kauditlaw26_RotateKeeps_j1 f_kauditlaw26_RotateKeeps_j2
  refine bind_of e (bind_of e' ?_)
  exact keeps_l1 l x a hl hb v1 v2 _ v a' [] (by show v + 1 ≤ ((v : Int) - 0).toNat + 1; omega) (by omega) c0 c1 List.Pairwise.nil (by simp; omega)
theorem keeps_law (z0 : List Int) (hb : Bytes z0) : f_kauditlaw26_RotateKeeps z0 = some true := by
  unfold f_kauditlaw26_RotateKeeps
  by_cases h : z0.length > 60
  · have c := cut_bytes hb 60
    exact ite_t (by simp only [decide_eq_true_eq]; omega) (ck_of ⟨by omega, by omega, by omega⟩ (keeps_j1 _ (by have := c.2; omega) c.1))
  · exact ite_f (by simp only [decide_eq_false_iff_not]; omega) (keeps_j1 _ (by omega) hb)
end Go.Proofs.YtgcigcbhilcgoaaDoor.Gx
