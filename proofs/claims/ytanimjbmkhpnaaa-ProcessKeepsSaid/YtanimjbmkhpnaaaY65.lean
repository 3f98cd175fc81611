/- Function 65, kaudit/kauditref09.identity: what it answers as a plain function, and that the Go code comes to exactly that (where the plain function gives an answer). -/
import Derived.Test.YtanimjbmkhpnaaaYT
set_option linter.unusedVariables false
set_option linter.unusedSimpArgs false
namespace Go.Proofs.Ytanimjbmkhpnaaa.Gx
open Go.Gx Go.RowKit
/-! ### kaudit/kauditref09.identity: function 65 -/
def f_kauditref09_identity (z0 : Int) : Option (Bool) := if (decide (z0 ≥ 0)) = true then (some (decide (z0 < 4294967295))) else (some false)
set_option maxHeartbeats 4000000 in
set_option maxRecDepth 100000 in
theorem C65 (z0 : Int) (r : Bool) (h : f_kauditref09_identity z0 = some r) : FunG Try.prog 65 #[.int .i64 z0] [] [] (fun (_ : Unit) => .bool r) (fun _ => []) (fun _ => []) := by
  unfold f_kauditref09_identity at h
  refine t_begin (args := [.int .i64 z0]) Try.func65 rfl Try.ntmps65 rfl fun c R hR => ?_
  have hQ : ∀ X, X = r → ∀ w2 (_ : Unit), PostG c.w0 w2 c.M c.Y [] [] → R (.returned (.bool X)) w2 := fun X e => by subst e; exact hR
  refine t_seq fun K1 hK2 => ?_
  refine t_region ?_
  refine c_p (r_as rfl) rfl ?_
  refine t_nil ?_
  refine t_then hK2 ?_
  refine t_seq fun K3 hK4 => ?_
  refine t_region ?_
  refine c_p (r_mv rfl) rfl ?_
  refine c_p (r_i rfl rfl rfl) rfl ?_
  refine c_p (r_mv rfl) rfl ?_
  rcases Bool.eq_false_or_eq_true (decide (z0 ≥ 0)) with hb5 | hb5
  · replace h := itT hb5 h
    refine nx (gd rfl rfl hb5 (sp (r_mv rfl) rfl ?_))
    refine nx (gd rfl rfl hb5 (sp (r_i rfl rfl rfl) rfl ?_))
    refine c_p (r_pT rfl hb5 rfl) rfl ?_
    refine c_p (r_as rfl) rfl ?_
    refine t_nil ?_
    refine t_then hK4 ?_
    refine t_ret ?_
    exact ret1 rfl (v_t rfl) (t_leave (hQ _ (Option.some.inj h)) () rfl (fun w Z hA => V0) .nil)
  · replace h := itF hb5 h
    refine nx (pass rfl rfl hb5 rfl ?_)
    refine nx (pass rfl rfl hb5 rfl ?_)
    refine c_p (r_pF rfl hb5 rfl) rfl ?_
    refine c_p (r_as rfl) rfl ?_
    refine t_nil ?_
    refine t_then hK4 ?_
    refine t_ret ?_
    exact ret1 rfl (v_t rfl) (t_leave (hQ _ (Option.some.inj h)) () rfl (fun w Z hA => V0) .nil)
end Go.Proofs.Ytanimjbmkhpnaaa.Gx
