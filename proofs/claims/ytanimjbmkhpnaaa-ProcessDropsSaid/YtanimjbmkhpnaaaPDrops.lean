/- ProcessDrops: the plain law. -/
import Derived.Test.YtanimjbmkhpnaaaX3
import Derived.Test.YtanimjbmkhpnaaaPTable
namespace Go.Proofs.Ytanimjbmkhpnaaa.Gx
open Go.Gx Go.RowKit
/-- The first process, and its child with these identities. -/
def one1 : api_Process := ⟨1, 0, 0, 0, 0, 0, 4294967295, 4294967295, ⟨0, 1⟩, ⟨#[105, 110, 105, 116]⟩, ⟨#[47, 105, 110, 105, 116]⟩, [], true⟩
def two2 (x e : Int) : api_Process := ⟨2, 1, x, e, 0, 0, 4294967295, 4294967295, ⟨0, 1⟩, ⟨#[105, 110, 105, 116]⟩, ⟨#[47, 105, 110, 105, 116]⟩, [], true⟩
def dT (x e : Int) : api_Table := ⟨3, 1, [one1, two2 x e]⟩
theorem d_place (x e : Int) : f_process_place (dT x e) 2 = some (1, true) := by kernel_rfl
theorem d_table (x e : Int) : f_own_Table (dT x e) = some (dT x e) := by kernel_rfl
theorem d_copy (x e : Int) : f_kauditref09_Copy (dT x e) = some (dT x e) := by kernel_rfl
theorem d_get (x e : Int) : f_process_Get (dT x e) 2 = some (two2 x e, true) := by kernel_rfl
theorem d_new : f_process_New ⟨0, 1⟩ = some ⟨2, 1, [one1]⟩ := by kernel_rfl
theorem d_fork : f_process_Fork ⟨2, 1, [one1]⟩ 1 = some (dT 0 0, 2, 0) := by kernel_rfl
theorem d_awake : f_kauditlaw09_awake = some true := by kernel_rfl
theorem d_between {u : Int} (h0 : 0 ≤ u) (h1 : u ≤ 4294967294) : f_process_between 4294967294 [u] = some true := by
  have a : decide (u < 0) = false := by simpa using h0
  have b : decide (u > 4294967294) = false := by simpa using h1
  have e1 : f_process_between_l1 4294967294 [u] 1 1 = some (Sum.inl ()) := by kernel_rfl
  have e2 : f_process_between_l1 4294967294 [u] 2 0 = some (Sum.inl ()) := by
    refine (show f_process_between_l1 4294967294 [u] 2 0 = (if decide (u < 0) = true then some (Sum.inr (!(decide ((0 : Int) ≥ 0)))) else if decide (u > 4294967294) = true then some (Sum.inr (!(decide ((0 : Int) ≥ 0)))) else f_process_between_l1 4294967294 [u] 1 1) by kernel_rfl).trans ?_
    rw [a, b]
    exact e1
  exact bind_of e2 rfl
theorem d_setuid (x e u : Int) (he : e ≠ 0) (h0 : 0 ≤ u) (h1 : u ≤ 4294967294) :
    f_process_Setuid (dT x e) 2 u = some (if u = x ∨ u = e then (dT x u, 0) else (⟨0, 0, []⟩, 1)) := by
  unfold f_process_Setuid
  have at1 : at_ (dT x e).Processes 1 = some (two2 x e) := by kernel_rfl
  have e0 : ((two2 x e).EUID == 0) = false := by simpa [two2] using he
  simp only [d_place, d_table, d_between h0 h1, Option.bind_some, at1, e0, if_true, Bool.false_eq_true, if_false]
  by_cases hx : u = x
  · have : (u == (two2 x e).UID) = true := by simp [two2, hx]
    rw [if_pos this, if_pos (.inl hx)]; rfl
  · have : ¬ (u == (two2 x e).UID) = true := by simp [two2, hx]
    rw [if_neg this]
    by_cases hy : u = e
    · have : (u == (two2 x e).EUID) = true := by simp [two2, hy]
      rw [if_pos this, if_pos (.inr hy)]; rfl
    · have : ¬ (u == (two2 x e).EUID) = true := by simp [two2, hy]
      rw [if_neg this, if_neg (by rintro (h | h); exact hx h; exact hy h)]
theorem d_loop (a0 : List Int) (a1 a2 : Int) (h1 : 0 ≤ a1 ∧ a1 ≤ 65535) (h2 : 0 ≤ a2 ∧ a2 ≤ 65535) : ∀ (k : Nat) (i at_ : Int) (e : Int), 0 ≤ i → i ≤ 8 → 9 - i ≤ k → 0 ≤ at_ → at_ ≤ i → (e = 1 + a1 ∨ e = 1 + a2) →
    f_kauditlaw09_ProcessDrops_l1 a0 a1 a2 (dT 0 0, 2, 0) k i at_ (dT (1 + a1) e).Next (dT (1 + a1) e).NextSession (dT (1 + a1) e).Processes = some (Sum.inl ()) := by
  intro k
  induction k with
  | zero => intro i at_ e hi hi' hk; omega
  | succ k ih =>
    intro i at' e hi hi' hk ha ha' he
    have w1 : IntKind.wrap .i64 (1 + IntKind.wrap .i64 a1) = 1 + a1 := by rw [wrap_id (n := a1) (by omega) (by omega), wrap_id (by omega) (by omega)]
    have w2 : IntKind.wrap .i64 (1 + IntKind.wrap .i64 a2) = 1 + a2 := by rw [wrap_id (n := a2) (by omega) (by omega), wrap_id (by omega) (by omega)]
    have w3 : IntKind.wrap .i64 (i + 1) = i + 1 := wrap_id (by omega) (by omega)
    rw [f_kauditlaw09_ProcessDrops_l1]
    simp only [w1, w2, w3]
    by_cases h8 : i < 8
    · rw [if_pos (by simpa using h8)]
      obtain ⟨u, hu, hm⟩ := Pick_ok ⟨a0, at'⟩ [0, 1 + a1, 1 + a2, 7, 4294967294] (by simp) (by simp) ha (by show at' < _; omega)
      have hT : (⟨(dT (1 + a1) e).Next, (dT (1 + a1) e).NextSession, (dT (1 + a1) e).Processes⟩ : api_Table) = dT (1 + a1) e := rfl
      have hu0 : 0 ≤ u ∧ u ≤ 4294967294 := by
        simp only [List.mem_cons, List.not_mem_nil, or_false] at hm
        omega
      rw [hu]
      simp only [Option.bind_some, hT]
      rw [d_setuid _ _ _ (by omega) hu0.1 hu0.2]
      simp only [Option.bind_some]
      by_cases hc : u = 1 + a1 ∨ u = e
      · rw [if_pos hc]
        have c0 : ((dT (1 + a1) u, (0 : Int)).2 == 0) = true := rfl
        rw [if_pos c0, d_get]
        have g1 : ((two2 (1 + a1) u, true).1.UID != 1 + a1) = false := by simp [two2]
        have := ih (i + 1) (at' + 1) u (by omega) (by omega) (by omega) (by omega) (by omega) (by omega)
        simp only [Option.bind_some, if_true, g1, Bool.false_eq_true, if_false]
        by_cases hx : u = 1 + a1
        · have g2 : ((two2 (1 + a1) u, true).1.EUID != 1 + a1) = false := by simp [two2, hx]
          simp only [g2, Bool.false_eq_true, if_false]; exact this
        · have hy : u = 1 + a2 := by omega
          have g2 : ((two2 (1 + a1) u, true).1.EUID != 1 + a1) = true := by simp [two2, hx]
          have g3 : ((two2 (1 + a1) u, true).1.EUID != 1 + a2) = false := by simp [two2, hy]
          simp only [g2, g3, if_true, Bool.false_eq_true, if_false]; exact this
      · rw [if_neg hc]
        have c0 : ¬ (((⟨0, 0, []⟩ : api_Table), (1 : Int)).2 == 0) = true := by simp
        rw [if_neg c0, d_get]
        have g1 : ((two2 (1 + a1) e, true).1.UID != 1 + a1) = false := by simp [two2]
        have := ih (i + 1) (at' + 1) e (by omega) (by omega) (by omega) (by omega) (by omega) he
        simp only [Option.bind_some, if_true, g1, Bool.false_eq_true, if_false]
        by_cases hx : e = 1 + a1
        · have g2 : ((two2 (1 + a1) e, true).1.EUID != 1 + a1) = false := by simp [two2, hx]
          simp only [g2, Bool.false_eq_true, if_false]; exact this
        · have hy : e = 1 + a2 := by omega
          have g2 : ((two2 (1 + a1) e, true).1.EUID != 1 + a1) = true := by simp [two2, hx]
          have g3 : ((two2 (1 + a1) e, true).1.EUID != 1 + a2) = false := by simp [two2, hy]
          simp only [g2, g3, if_true, Bool.false_eq_true, if_false]; exact this
    · rw [if_neg (by simpa using h8)]
theorem at_two (l : List api_Process) (p q : api_Process) (h : l = [p, q]) : at_ l 1 = some q := by subst h; rfl
theorem set_two (p q r : api_Process) : [p, q].set (1 : Int).toNat r = [p, r] := rfl
theorem drops (a0 : List Int) (a1 a2 : Int) (h1 : 0 ≤ a1 ∧ a1 ≤ 65535) (h2 : 0 ≤ a2 ∧ a2 ≤ 65535) : f_kauditlaw09_ProcessDrops a0 a1 a2 = some true := by
  unfold f_kauditlaw09_ProcessDrops
  have w1 : IntKind.wrap .i64 (1 + IntKind.wrap .i64 a1) = 1 + a1 := by rw [wrap_id (n := a1) (by omega) (by omega), wrap_id (by omega) (by omega)]
  have w2 : IntKind.wrap .i64 (1 + IntKind.wrap .i64 a2) = 1 + a2 := by rw [wrap_id (n := a2) (by omega) (by omega), wrap_id (by omega) (by omega)]
  have t0 : (dT 0 0).Processes = [one1, two2 0 0] := rfl
  have loop := d_loop a0 a1 a2 h1 h2 9 0 0 (1 + a2) (by omega) (by omega) (by omega) (by omega) (by omega) (.inr rfl)
  refine bind_of d_new ?_
  refine bind_of d_fork ?_
  refine (if_neg (by simp)).trans ?_
  refine (if_neg (by simp [t0])).trans ?_
  refine bind_of (d_copy 0 0) ?_
  rw [t0]
  refine bind_of (at_two _ one1 _ rfl) ?_
  rw [w1, w2, set_two]
  refine bind_of (at_two _ one1 (two2 (1 + a1) 0) rfl) ?_
  rw [set_two]
  have e9 : ((8 : Int) - 0).toNat + 1 = 9 := rfl
  rw [e9]
  refine bind_of loop ?_
  exact bind_of d_awake rfl
end Go.Proofs.Ytanimjbmkhpnaaa.Gx
namespace Go.Proofs.Ytanimjbmkhpnaaa.Gx
open Go.Gx Go.RowKit
theorem u16_of {a : Int} (h : (Lit.int .u16 a).wf = true) : 0 ≤ a ∧ a ≤ 65535 := by
  simp only [Lit.wf, Bool.and_eq_true, decide_eq_true_eq] at h
  exact h
theorem drops_law (a0 : List Int) (a1 a2 : Int) (_ : ∀ n ∈ a0, (Lit.int .i64 n).wf = true) (_ : a0.length ≤ maxLen) (h1 : (Lit.int .u16 a1).wf = true) (h2 : (Lit.int .u16 a2).wf = true) : f_kauditlaw09_ProcessDrops a0 a1 a2 = some true :=
  drops a0 a1 a2 (u16_of h1) (u16_of h2)
end Go.Proofs.Ytanimjbmkhpnaaa.Gx
