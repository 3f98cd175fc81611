/- Function 70, slices.Clone[[]kaudit/api.Descriptor,kaudit/api.Descriptor]: what it answers as a plain function, and that the Go code comes to exactly that (where the plain function gives an answer). -/
import Derived.Test.YtanimjbmkhpnaaaYT
set_option linter.unusedVariables false
set_option linter.unusedSimpArgs false
namespace Go.Proofs.Ytanimjbmkhpnaaa.Gx
open Go.Gx Go.RowKit
/-! ### slices.Clone[[]kaudit/api.Descriptor,kaudit/api.Descriptor]: by hand -/
def f_slices_Clone_api_Descriptor_api_Descriptor (z0 : List api_Descriptor) : Option (List api_Descriptor) := ck (fits z0.length 32 = true) <| some z0
set_option maxHeartbeats 4000000 in
set_option maxRecDepth 100000 in
theorem C70 (z0 : List api_Descriptor) (p : Option Addr) (m c : Nat) (r : List api_Descriptor) (h : f_slices_Clone_api_Descriptor_api_Descriptor z0 = some r) : FunG Try.prog 70 #[.slice p m c] [vw (kSlice 81 k_api_Descriptor) z0 [.slice p m c]] [] (fun t : Option Addr × Nat × Nat => .slice t.1 t.2.1 t.2.2) (fun _ => []) (fun t => [[row 81 k_api_Descriptor r (.slice t.1 t.2.1 t.2.2)]]) := by
  unfold f_slices_Clone_api_Descriptor_api_Descriptor at h
  obtain ⟨hc, h⟩ := ck_out h
  obtain rfl := Option.some.inj h
  refine t_begin (args := [.slice p m c]) Try.func70 rfl Try.ntmps70 rfl fun c R hR => ?_
  refine t_seq fun K1 hK1 => ?_
  refine t_region ?_
  refine c_p (r_as rfl) rfl ?_
  refine t_nil ?_
  refine t_then hK1 ?_
  refine t_seq fun K2 hK2 => ?_
  refine t_seq fun K3 hK3 => ?_
  refine t_region ?_
  refine c_p (r_mv rfl) rfl ?_
  refine c_p (r_eqn Try.underlying36 rfl rfl) rfl ?_
  refine t_nil ?_
  refine t_then hK3 ?_
  rcases p with _ | ad
  · refine t_T rfl rfl ?_
    refine t_seq fun K4 hK4 => ?_
    refine t_region ?_
    refine c_p (r_as rfl) rfl ?_
    refine t_nil ?_
    refine t_then hK4 ?_
    refine t_ret ?_
    refine t_n0 a0 fun hx => ?_
    subst hx
    refine t_nr 81 k_api_Descriptor ?_
    exact tr (ret1 rfl (v_t rfl) (t_leave hR (none, 0, 0) rfl (fun w Z hA => V0) (.cons e0 .nil)))
  · refine t_F rfl rfl ?_
    refine t_skip ?_
    refine t_then hK2 ?_
    refine t_seq fun K5 hK5 => ?_
    refine t_region ?_
    refine nx (t_bs (ps := []) (cs := []) Try.underlying36 ti81 rfl rfl (by kernel_rfl) rfl fun g => ?_)
    refine c_p (r_mv rfl) rfl ?_
    refine t_tr (Kd := k_api_Descriptor) (xs := ([] : List api_Descriptor)) (.cons e0 .nil) rfl (fun w Z S hA hN => flat_EO (S := Nil) k_api_Descriptor_flatK er0) ?_
    refine nx (t_app (Kd := k_api_Descriptor) (xs := ([] : List api_Descriptor)) (ys := z0) (.cons e0 .nil) rfl rfl Try.underlying36 Try.underlying36 ti81 rfl rfl (by rw [List.length_nil, Nat.zero_add]; exact hc) (srcA k_api_Descriptor_flatK a0) rfl fun t => ?_)
    refine c_p (r_as rfl) rfl ?_
    refine t_nil ?_
    refine t_then hK5 ?_
    refine t_ret ?_
    exact ret1 rfl (v_t rfl) (t_leave hR t rfl (fun w Z hA => V0) (.cons e0 .nil))
end Go.Proofs.Ytanimjbmkhpnaaa.Gx
