/- The example; RotateBack: the plain law. -/
import Derived.Test.YtgcigcbhilcgoaaDoorRBase
namespace Go.Proofs.YtgcigcbhilcgoaaDoor.Gx
open Go.Gx Go.RowKit
set_option maxRecDepth 100000
theorem begun_ok : f_kauditlaw26_begun = some true := by
  unfold f_kauditlaw26_begun
  refine bind_of (y := [4]) ?_ (bind_of (y := (12, true, true)) (by kernel_rfl) (by kernel_rfl))
  unfold f_rotate_Drop
  refine bind_of (y := true) (by kernel_rfl) (ite_t rfl (ite_f rfl (bind_of (y := [4, 5, 6]) ?_ (by kernel_rfl))))
  unfold f_rotate_unique_int
  refine bind_of (y := [5, 4, 6]) (by kernel_rfl) (bind_of (y := [4, 5, 6]) ?_ (bind_of (y := [4, 5, 6]) (by kernel_rfl) rfl))
  unfold f_slices_Sort_int_int
  refine ck_of (by decide) ?_
  simp [List.mergeSort]
/-- What is known of the names of one number. -/
structure Nm (n : Nat) (s t : ByteArray) : Prop where
  name : f_rotate_Name n = some s
  packed : f_rotate_Packed n = some t
  size : s.size = 8
  last : s.toList.getLast? ≠ some 122
  tail : t = s ++ ⟨#[46, 122]⟩
  rname : f_kauditref26_Name n = some s
  rpacked : f_kauditref26_Packed n = some t
  num : ∀ pk, numP s pk = some ((n : Int), true, pk)
  rnum : ∀ pk, f_kauditref26_Number_j1 s pk = some ((n : Int), true, pk)
  number : f_rotate_Number s = some ((n : Int), true, false)
  numberP : f_rotate_Number t = some ((n : Int), true, true)
theorem nm_of {n : Nat} (h1 : 1 ≤ n) (h2 : n ≤ 1000) : ∃ s t, Nm n s t := by
  have h := check_of h1 h2
  unfold check checkG at h
  split at h
  · rename_i s t e1 e2
    simp only [Bool.and_eq_true, decide_eq_true_eq] at h
    obtain ⟨⟨⟨⟨⟨⟨⟨⟨⟨⟨a1, a2⟩, a3⟩, a4⟩, a5⟩, a6⟩, a7⟩, a8⟩, a9⟩, a10⟩, a11⟩ := h
    exact ⟨s, t, e1, e2, a1, a2, a3, a4, a5, (fun pk => by cases pk <;> assumption), (fun pk => by cases pk <;> assumption), a10, a11⟩
  · cases h
theorem nm_inj {n m : Nat} {s t s' t' : ByteArray} (h : Nm n s t) (h' : Nm m s' t') : s.toList = s'.toList ↔ n = m := by
  constructor
  · intro e
    have e : s = s' := by
      apply ByteArray.ext
      apply Array.ext'
      simpa [ByteArray.toList_eq] using e
    subst e
    have := h.number.symm.trans h'.number
    simp at this; omega
  · intro e
    subst e
    have := h.name.symm.trans h'.name
    rw [Option.some.inj this]
theorem mod_of {a : Int} (h0 : 0 ≤ a) (h1 : a < 65536) : ∃ n : Nat, 1 ≤ n ∧ n ≤ 1000 ∧ IntKind.wrap .i64 (1 + ((IntKind.wrap .i64 a) : Int).tmod 1000) = (n : Int) := by
  rw [wrap_id (n := a) (by omega) (by omega), Int.tmod_eq_emod_of_nonneg h0, wrap_id (by omega) (by omega)]
  exact ⟨(1 + a % 1000).toNat, by omega, by omega, by omega⟩
theorem back_law (a b : Int) (ha : 0 ≤ a ∧ a < 65536) (hb : 0 ≤ b ∧ b < 65536) : f_kauditlaw26_RotateBack a b = some true := by
  obtain ⟨n, n1, n2, en⟩ := mod_of ha.1 ha.2
  obtain ⟨m, m1, m2, em⟩ := mod_of hb.1 hb.2
  obtain ⟨s, t, N⟩ := nm_of n1 n2
  obtain ⟨s', t', M⟩ := nm_of m1 m2
  unfold f_kauditlaw26_RotateBack
  rw [en, em]
  refine bind_of N.name (bind_of N.number (bind_of N.packed (bind_of N.numberP (ite_t rfl (ite_f rfl (ite_t (by simp) (ite_t rfl (ite_t rfl (ite_t (by simp) (bind_of N.name (bind_of M.name (ite_t ?_ (bind_of begun_ok rfl)))))))))))))
  have e := nm_inj N M
  by_cases h : n = m
  · have h' := e.2 h
    simp [h', h]
  · have h' : ¬ s.toList = s'.toList := fun k => h (e.1 k)
    have h2 : ¬ (n : Int) = m := by omega
    have e1 : (s.toList == s'.toList) = false := by simpa using h'
    have e2 : ((n : Int) == m) = false := by simpa using h2
    rw [e1, e2]; rfl
end Go.Proofs.YtgcigcbhilcgoaaDoor.Gx
