/- RotateNames: the plain law. -/
import Derived.Test.YtgcigcbhilcgoaaDoorRNum
import Derived.Test.YtgcigcbhilcgoaaDoorY5
namespace Go.Proofs.YtgcigcbhilcgoaaDoor.Gx
open Go.Gx Go.RowKit
set_option maxRecDepth 100000
theorem names_law (z0 z1 : Int) (z2 z3 : ByteArray) (h1 : 0 ≤ z1 ∧ z1 < 65536) (h2 : z2.size ≤ 140737488351232) (h3 : z3.size ≤ 140737488351232) : f_kauditlaw26_RotateNames z0 z1 z2 z3 = some true := by
  unfold f_kauditlaw26_RotateNames
  obtain ⟨s, s1, s2, s3, _⟩ := name_tot ((IntKind.wrap .i64 z1 : Int).tmod 1003)
  obtain ⟨t, t1, t2, t3⟩ := packed_tot ((IntKind.wrap .i64 z1 : Int).tmod 1003)
  have e4 : (⟨#[108, 111, 103, 45]⟩ : ByteArray).size = 4 := rfl
  refine bind_of s1 (bind_of t1 (bind_of s1 (ck_of (by unfold maxStr; omega) (ck_of (by rw [e4]; unfold maxStr; omega) ?_))))
  have loop : ∀ (k i : Nat), 5 - i + 1 ≤ k → i ≤ 5 → f_kauditlaw26_RotateNames_l1 z0 z1 z2 z3 s t s k i = some true := by
    intro k
    induction k with
    | zero => intro i h; omega
    | succ k ih =>
      intro i hk hi
      rw [f_kauditlaw26_RotateNames_l1]
      by_cases h : i < 5
      · have hel : ∃ q : ByteArray, ([z2, s, t, (s ++ z3), ((⟨#[108, 111, 103, 45]⟩ : ByteArray) ++ z3)])[i]? = some q ∧ small q := by
          match i, h with
          | 0, _ => exact ⟨_, rfl, by unfold small; omega⟩
          | 1, _ => exact ⟨_, rfl, by unfold small; omega⟩
          | 2, _ => exact ⟨_, rfl, by unfold small; omega⟩
          | 3, _ => exact ⟨_, rfl, by unfold small; rw [ByteArray.size_append]; omega⟩
          | 4, _ => exact ⟨_, rfl, by unfold small; rw [ByteArray.size_append, e4]; omega⟩
        obtain ⟨q, hq, sq⟩ := hel
        obtain ⟨R, r1, r2, _⟩ := number_same q sq
        refine ite_t (by simp only [decide_eq_true_eq]; omega) (bind_of (at_nat hq) (bind_of r1 (bind_of r2 (ite_f (by simp) (ite_f (by simp) (ite_f (by simp) ?_))))))
        rw [up (by omega)]
        exact ih (i + 1) (by omega) (by omega)
      · refine ite_f (by simp only [decide_eq_false_iff_not]; omega) ?_
        unfold f_kauditlaw26_RotateNames_j1
        obtain ⟨u, u1, u2, _⟩ := name_tot z0
        obtain ⟨v, v1, v2, _⟩ := packed_tot z0
        exact bind_of u1 (bind_of u2 (ite_t (by simp) (bind_of v1 (bind_of v2 (ite_t (by simp) (bind_of s1 (bind_of s2 (ite_t (by simp) (bind_of t1 (bind_of t2 (ite_t (by simp) (bind_of begun_ok rfl))))))))))))
  exact loop _ 0 (by omega) (by omega)
end Go.Proofs.YtgcigcbhilcgoaaDoor.Gx
