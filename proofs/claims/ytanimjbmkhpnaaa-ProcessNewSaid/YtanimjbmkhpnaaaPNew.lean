/- ProcessNew: the plain law. -/
import Derived.Test.YtanimjbmkhpnaaaX5
import Derived.Test.YtanimjbmkhpnaaaPTable
namespace Go.Proofs.Ytanimjbmkhpnaaa.Gx
open Go.Gx Go.RowKit
def n_one (f : api_File) : api_Process := ⟨1, 0, 0, 0, 0, 0, 4294967295, 4294967295, f, ⟨#[105, 110, 105, 116]⟩, ⟨#[47, 105, 110, 105, 116]⟩, [], true⟩
def nT (f : api_File) : api_Table := ⟨2, 1, [n_one f]⟩
theorem n_new (f : api_File) : f_process_New f = some (nT f) := by kernel_rfl
theorem n_ref (f : api_File) : f_kauditref09_New f = some (nT f) := by kernel_rfl
theorem n_valid (f : api_File) : f_process_Valid (nT f) = some true := by kernel_rfl
theorem n_awake : f_kauditlaw09_awake = some true := by kernel_rfl
theorem n_sameP (f : api_File) : f_kauditref09_SameProcess (n_one f) (n_one f) = some true := by
  unfold f_kauditref09_SameProcess
  refine ite_f rfl (ite_f rfl (ite_f rfl (ite_f rfl (ite_f rfl (ite_f rfl (ite_f rfl (ite_f rfl (ite_t (by simp) (ite_t (by simp) (ite_t (by simp) (ite_f rfl (ite_f rfl ?_))))))))))))
  exact bind_of (y := Sum.inl ()) (by kernel_rfl) rfl
theorem n_same (f : api_File) : f_kauditref09_Same (nT f) (nT f) = some true := by
  unfold f_kauditref09_Same
  refine ite_f rfl (ite_f rfl (ite_f rfl (bind_of (y := Sum.inl ()) ?_ rfl)))
  have e : f_kauditref09_Same_l1 (nT f) (nT f) 1 1 = some (Sum.inl ()) := by kernel_rfl
  refine (show f_kauditref09_Same_l1 (nT f) (nT f) 2 0 = (f_kauditref09_SameProcess (n_one f) (n_one f)).bind fun y => if y = true then f_kauditref09_Same_l1 (nT f) (nT f) 1 1 else some (Sum.inr false) by kernel_rfl).trans ?_
  exact bind_of (n_sameP f) e
theorem new_law (f : api_File) : f_kauditlaw09_ProcessNew f = some true := by
  unfold f_kauditlaw09_ProcessNew
  exact bind_of (n_new f) (bind_of (n_ref f) (bind_of (n_same f) (ite_t rfl (bind_of (n_new f) (bind_of (n_valid f) (ite_t rfl (bind_of n_awake rfl)))))))
end Go.Proofs.Ytanimjbmkhpnaaa.Gx
