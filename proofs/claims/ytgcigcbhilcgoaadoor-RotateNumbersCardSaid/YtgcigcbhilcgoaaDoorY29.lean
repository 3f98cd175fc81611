/- Function 29, kaudit/rotate.exceeds: what it answers as a plain function, and that the Go code comes to exactly that (where the plain function gives an answer). -/
import Derived.Test.YtgcigcbhilcgoaaDoorYT
set_option linter.unusedVariables false
set_option linter.unusedSimpArgs false
namespace Go.Proofs.YtgcigcbhilcgoaaDoor.Gx
open Go.Gx Go.RowKit
/-! ### kaudit/rotate.exceeds: function 29 -/
def f_rotate_exceeds (z0 : Int) (z1 : Int) (z2 : Int) : Option (Bool) := if (decide (z1 > 0)) = true then (if (decide (z0 > (IntKind.wrap .i64 (9223372036854775807 - z1)))) = true then (some true) else (if (decide (z1 < 0)) = true then (if (decide (z0 < (IntKind.wrap .i64 ((-9223372036854775808) - z1)))) = true then (some false) else (some (decide ((IntKind.wrap .i64 (z0 + z1)) > z2)))) else (some (decide ((IntKind.wrap .i64 (z0 + z1)) > z2))))) else (if (decide (z1 < 0)) = true then (if (decide (z0 < (IntKind.wrap .i64 ((-9223372036854775808) - z1)))) = true then (some false) else (some (decide ((IntKind.wrap .i64 (z0 + z1)) > z2)))) else (some (decide ((IntKind.wrap .i64 (z0 + z1)) > z2))))
set_option maxHeartbeats 4000000 in
set_option maxRecDepth 100000 in
theorem C29 (z0 : Int) (z1 : Int) (z2 : Int) (r : Bool) (h : f_rotate_exceeds z0 z1 z2 = some r) : FunG Tryd.prog 29 #[.int .i64 z0, .int .i64 z1, .int .i64 z2] [g_pow10, g_errs] [] (fun (_ : Unit) => .bool r) (fun _ => []) (fun _ => []) := by
  unfold f_rotate_exceeds at h
  refine t_begin (args := [.int .i64 z0, .int .i64 z1, .int .i64 z2]) Tryd.func29 rfl Tryd.ntmps29 rfl fun c R hR => ?_
  have hQ : ∀ X, X = r → ∀ w2 (_ : Unit), PostG c.w0 w2 c.M c.Y [] [] → R (.returned (.bool X)) w2 := fun X e => by subst e; exact hR
  refine t_seq fun K1 hK2 => ?_
  refine t_region ?_
  refine c_p (r_as rfl) rfl ?_
  refine t_nil ?_
  refine t_then hK2 ?_
  refine t_seq fun K3 hK4 => ?_
  refine t_block ?_
  refine t_seq fun K5 hK6 => ?_
  refine t_region ?_
  refine c_p (r_mv rfl) rfl ?_
  refine c_p (r_i rfl rfl rfl) rfl ?_
  refine c_p (r_mv rfl) rfl ?_
  rcases Bool.eq_false_or_eq_true (decide (z1 > 0)) with hb7 | hb7
  · replace h := itT hb7 h
    refine nx (gd rfl rfl hb7 (sp (r_mv rfl) rfl ?_))
    refine nx (gd rfl rfl hb7 (sp (r_mv rfl) rfl ?_))
    refine nx (gd rfl rfl hb7 (sp (r_i rfl rfl rfl) rfl ?_))
    refine nx (gd rfl rfl hb7 (sp (r_i rfl rfl rfl) rfl ?_))
    refine c_p (r_pT rfl hb7 rfl) rfl ?_
    refine c_p (r_as rfl) rfl ?_
    refine t_nil ?_
    refine t_then hK6 ?_
    rcases Bool.eq_false_or_eq_true (decide (z0 > (IntKind.wrap .i64 (9223372036854775807 - z1)))) with hb8 | hb8
    · replace h := itT hb8 h
      refine t_T rfl hb8 ?_
      refine t_seq fun K9 hK10 => ?_
      refine t_region ?_
      refine c_p (r_as rfl) rfl ?_
      refine t_nil ?_
      refine t_then hK10 ?_
      refine t_ret ?_
      exact br (tr (ret1 rfl (v_t rfl) (t_leave (hQ _ (Option.some.inj h)) () rfl (fun w Z hA => V0) .nil)))
    · replace h := itF hb8 h
      refine t_F rfl hb8 ?_
      refine t_seq fun K11 hK12 => ?_
      refine t_region ?_
      refine c_p (r_mv rfl) rfl ?_
      refine c_p (r_i rfl rfl rfl) rfl ?_
      refine c_p (r_mv rfl) rfl ?_
      rcases Bool.eq_false_or_eq_true (decide (z1 < 0)) with hb13 | hb13
      · replace h := itT hb13 h
        refine nx (gd rfl rfl hb13 (sp (r_mv rfl) rfl ?_))
        refine nx (gd rfl rfl hb13 (sp (r_mv rfl) rfl ?_))
        refine nx (gd rfl rfl hb13 (sp (r_i rfl rfl rfl) rfl ?_))
        refine nx (gd rfl rfl hb13 (sp (r_i rfl rfl rfl) rfl ?_))
        refine c_p (r_pT rfl hb13 rfl) rfl ?_
        refine c_p (r_as rfl) rfl ?_
        refine t_nil ?_
        refine t_then hK12 ?_
        rcases Bool.eq_false_or_eq_true (decide (z0 < (IntKind.wrap .i64 ((-9223372036854775808) - z1)))) with hb14 | hb14
        · replace h := itT hb14 h
          refine t_T rfl hb14 ?_
          refine t_seq fun K15 hK16 => ?_
          refine t_region ?_
          refine c_p (r_as rfl) rfl ?_
          refine t_nil ?_
          refine t_then hK16 ?_
          refine t_ret ?_
          exact br (tr (ret1 rfl (v_t rfl) (t_leave (hQ _ (Option.some.inj h)) () rfl (fun w Z hA => V0) .nil)))
        · replace h := itF hb14 h
          refine t_F rfl hb14 ?_
          refine t_skip ?_
          refine t_blockN ?_
          refine t_then hK4 ?_
          refine t_seq fun K23 hK24 => ?_
          refine t_region ?_
          refine c_p (r_mv rfl) rfl ?_
          refine c_p (r_mv rfl) rfl ?_
          refine c_p (r_i rfl rfl rfl) rfl ?_
          refine c_p (r_mv rfl) rfl ?_
          refine c_p (r_i rfl rfl rfl) rfl ?_
          refine c_p (r_as rfl) rfl ?_
          refine t_nil ?_
          refine t_then hK24 ?_
          refine t_ret ?_
          exact ret1 rfl (v_t rfl) (t_leave (hQ _ (Option.some.inj h)) () rfl (fun w Z hA => V0) .nil)
      · replace h := itF hb13 h
        refine nx (pass rfl rfl hb13 rfl ?_)
        refine nx (pass rfl rfl hb13 rfl ?_)
        refine nx (pass rfl rfl hb13 rfl ?_)
        refine nx (pass rfl rfl hb13 rfl ?_)
        refine c_p (r_pF rfl hb13 rfl) rfl ?_
        refine c_p (r_as rfl) rfl ?_
        refine t_nil ?_
        refine t_then hK12 ?_
        refine t_F rfl rfl ?_
        refine t_skip ?_
        refine t_blockN ?_
        refine t_then hK4 ?_
        refine t_seq fun K25 hK26 => ?_
        refine t_region ?_
        refine c_p (r_mv rfl) rfl ?_
        refine c_p (r_mv rfl) rfl ?_
        refine c_p (r_i rfl rfl rfl) rfl ?_
        refine c_p (r_mv rfl) rfl ?_
        refine c_p (r_i rfl rfl rfl) rfl ?_
        refine c_p (r_as rfl) rfl ?_
        refine t_nil ?_
        refine t_then hK26 ?_
        refine t_ret ?_
        exact ret1 rfl (v_t rfl) (t_leave (hQ _ (Option.some.inj h)) () rfl (fun w Z hA => V0) .nil)
  · replace h := itF hb7 h
    refine nx (pass rfl rfl hb7 rfl ?_)
    refine nx (pass rfl rfl hb7 rfl ?_)
    refine nx (pass rfl rfl hb7 rfl ?_)
    refine nx (pass rfl rfl hb7 rfl ?_)
    refine c_p (r_pF rfl hb7 rfl) rfl ?_
    refine c_p (r_as rfl) rfl ?_
    refine t_nil ?_
    refine t_then hK6 ?_
    refine t_F rfl rfl ?_
    refine t_seq fun K17 hK18 => ?_
    refine t_region ?_
    refine c_p (r_mv rfl) rfl ?_
    refine c_p (r_i rfl rfl rfl) rfl ?_
    refine c_p (r_mv rfl) rfl ?_
    rcases Bool.eq_false_or_eq_true (decide (z1 < 0)) with hb19 | hb19
    · replace h := itT hb19 h
      refine nx (gd rfl rfl hb19 (sp (r_mv rfl) rfl ?_))
      refine nx (gd rfl rfl hb19 (sp (r_mv rfl) rfl ?_))
      refine nx (gd rfl rfl hb19 (sp (r_i rfl rfl rfl) rfl ?_))
      refine nx (gd rfl rfl hb19 (sp (r_i rfl rfl rfl) rfl ?_))
      refine c_p (r_pT rfl hb19 rfl) rfl ?_
      refine c_p (r_as rfl) rfl ?_
      refine t_nil ?_
      refine t_then hK18 ?_
      rcases Bool.eq_false_or_eq_true (decide (z0 < (IntKind.wrap .i64 ((-9223372036854775808) - z1)))) with hb20 | hb20
      · replace h := itT hb20 h
        refine t_T rfl hb20 ?_
        refine t_seq fun K21 hK22 => ?_
        refine t_region ?_
        refine c_p (r_as rfl) rfl ?_
        refine t_nil ?_
        refine t_then hK22 ?_
        refine t_ret ?_
        exact br (tr (ret1 rfl (v_t rfl) (t_leave (hQ _ (Option.some.inj h)) () rfl (fun w Z hA => V0) .nil)))
      · replace h := itF hb20 h
        refine t_F rfl hb20 ?_
        refine t_skip ?_
        refine t_blockN ?_
        refine t_then hK4 ?_
        refine t_seq fun K27 hK28 => ?_
        refine t_region ?_
        refine c_p (r_mv rfl) rfl ?_
        refine c_p (r_mv rfl) rfl ?_
        refine c_p (r_i rfl rfl rfl) rfl ?_
        refine c_p (r_mv rfl) rfl ?_
        refine c_p (r_i rfl rfl rfl) rfl ?_
        refine c_p (r_as rfl) rfl ?_
        refine t_nil ?_
        refine t_then hK28 ?_
        refine t_ret ?_
        exact ret1 rfl (v_t rfl) (t_leave (hQ _ (Option.some.inj h)) () rfl (fun w Z hA => V0) .nil)
    · replace h := itF hb19 h
      refine nx (pass rfl rfl hb19 rfl ?_)
      refine nx (pass rfl rfl hb19 rfl ?_)
      refine nx (pass rfl rfl hb19 rfl ?_)
      refine nx (pass rfl rfl hb19 rfl ?_)
      refine c_p (r_pF rfl hb19 rfl) rfl ?_
      refine c_p (r_as rfl) rfl ?_
      refine t_nil ?_
      refine t_then hK18 ?_
      refine t_F rfl rfl ?_
      refine t_skip ?_
      refine t_blockN ?_
      refine t_then hK4 ?_
      refine t_seq fun K29 hK30 => ?_
      refine t_region ?_
      refine c_p (r_mv rfl) rfl ?_
      refine c_p (r_mv rfl) rfl ?_
      refine c_p (r_i rfl rfl rfl) rfl ?_
      refine c_p (r_mv rfl) rfl ?_
      refine c_p (r_i rfl rfl rfl) rfl ?_
      refine c_p (r_as rfl) rfl ?_
      refine t_nil ?_
      refine t_then hK30 ?_
      refine t_ret ?_
      exact ret1 rfl (v_t rfl) (t_leave (hQ _ (Option.some.inj h)) () rfl (fun w Z hA => V0) .nil)
end Go.Proofs.YtgcigcbhilcgoaaDoor.Gx
