/- Function 55, kaudit/own.List[kaudit/api.Descriptor]: what it answers as a plain function, and that the Go code comes to exactly that (where the plain function gives an answer). -/
import Derived.Test.YtanimjbmkhpnaaaYT
import Derived.Test.YtanimjbmkhpnaaaY70
set_option linter.unusedVariables false
set_option linter.unusedSimpArgs false
namespace Go.Proofs.Ytanimjbmkhpnaaa.Gx
open Go.Gx Go.RowKit
/-! ### kaudit/own.List[kaudit/api.Descriptor]: function 55 -/
def f_own_List_api_Descriptor (z0 : (List api_Descriptor)) : Option ((List api_Descriptor)) := if ((z0.length : Int) == 0) = true then (some ([] : List api_Descriptor)) else ((f_slices_Clone_api_Descriptor_api_Descriptor z0).bind fun y15 => some y15)
set_option maxHeartbeats 4000000 in
set_option maxRecDepth 100000 in
theorem C55 (z0 : (List api_Descriptor)) (p1 : Option Addr) (m2 : Nat) (c3 : Nat) (r : (List api_Descriptor)) (h : f_own_List_api_Descriptor z0 = some r) : FunG Try.prog 55 #[.slice p1 m2 c3] [vw (kSlice 81 k_api_Descriptor) z0 [.slice p1 m2 c3]] [] (fun t : (Option Addr × Nat × Nat) => .slice t.1 t.2.1 t.2.2) (fun t => []) (fun t => [[row 81 k_api_Descriptor r (.slice t.1 t.2.1 t.2.2)]]) := by
  unfold f_own_List_api_Descriptor at h
  refine t_begin (args := [.slice p1 m2 c3]) Try.func55 rfl Try.ntmps55 rfl fun c R hR => ?_
  have hQ : ∀ X, X = r → ∀ w2 (t : (Option Addr × Nat × Nat)), PostG c.w0 w2 c.M c.Y [] [[row 81 k_api_Descriptor X (.slice t.1 t.2.1 t.2.2)]] → R (.returned (.slice t.1 t.2.1 t.2.2)) w2 := fun X e => by subst e; exact hR
  refine t_seq fun K4 hK5 => ?_
  refine t_region ?_
  refine c_p (r_as rfl) rfl ?_
  refine t_nil ?_
  refine t_then hK5 ?_
  refine t_seq fun K6 hK7 => ?_
  refine t_seq fun K8 hK9 => ?_
  refine t_region ?_
  refine c_p (r_mv rfl) rfl ?_
  refine c_s (r_lnA a0 Try.underlying36 rfl) rfl ?_
  refine c_p (r_i rfl rfl rfl) rfl ?_
  refine t_nil ?_
  refine t_then hK9 ?_
  rcases Bool.eq_false_or_eq_true ((z0.length : Int) == 0) with hb10 | hb10
  · replace h := itT hb10 h
    refine t_T rfl hb10 ?_
    refine t_seq fun K11 hK12 => ?_
    refine t_region ?_
    refine c_p (r_as rfl) rfl ?_
    refine t_nil ?_
    refine t_then hK12 ?_
    refine t_ret ?_
    refine t_nr 81 k_api_Descriptor ?_
    exact tr (ret1 rfl (v_t rfl) (t_leave (hQ _ (Option.some.inj h)) (none, 0, 0) rfl (fun w Z hA => V0) (.cons e0 .nil)))
  · replace h := itF hb10 h
    refine t_F rfl hb10 ?_
    refine t_skip ?_
    refine t_then hK7 ?_
    refine t_seq fun K13 hK14 => ?_
    refine t_region ?_
    refine c_p (r_mv rfl) rfl ?_
    obtain ⟨y15, hy15, h⟩ := bs h
    refine nx (t_ca (C70 _ _ _ _ _ hy15) Try.func70 nm70 rfl rfl rfl .nil (fun w Z hA => (V1 a0 hA V0)) rfl fun t16 => ?_)
    refine c_p (r_as rfl) rfl ?_
    refine t_nil ?_
    refine t_then hK14 ?_
    refine t_ret ?_
    exact ret1 rfl (v_t rfl) (t_leave (hQ _ (Option.some.inj h)) (t16.1, t16.2.1, t16.2.2) rfl (fun w Z hA => V0) (.cons e0 .nil))
end Go.Proofs.Ytanimjbmkhpnaaa.Gx
