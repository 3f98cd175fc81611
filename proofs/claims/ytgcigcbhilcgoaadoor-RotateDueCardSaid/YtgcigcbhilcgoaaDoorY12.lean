/- Function 12, kaudit/kauditref26.Due: what it answers as a plain function, and that the Go code comes to exactly that (where the plain function gives an answer). -/
import Derived.Test.YtgcigcbhilcgoaaDoorYT
import Derived.Test.YtgcigcbhilcgoaaDoorY14
set_option linter.unusedVariables false
set_option linter.unusedSimpArgs false
namespace Go.Proofs.YtgcigcbhilcgoaaDoor.Gx
open Go.Gx Go.RowKit
/-! ### kaudit/kauditref26.Due: function 12 -/
def f_kauditref26_Due (z0 : api_Rotation) (z1 : Int) (z2 : Int) : Option (Bool) := (f_kauditref26_RotateValid z0).bind fun y8 => if y8 = true then (if (z0.Action == 3) = true then (some false) else (if (decide (z2 ≥ 0)) = true then (some (decide (z1 > (IntKind.wrap .i64 (z0.Most - z2))))) else (if (decide (z1 > z0.Most)) = true then (some (decide ((IntKind.wrap .i64 (z1 + z2)) > z0.Most))) else (some false)))) else (some false)
set_option maxHeartbeats 4000000 in
set_option maxRecDepth 100000 in
theorem C12 (z0 : api_Rotation) (z1 : Int) (z2 : Int) (r : Bool) (h : f_kauditref26_Due z0 z1 z2 = some r) : FunG Tryd.prog 12 #[.agg #[.int .i64 z0.Most, .int .i64 z0.Keep, .int .i64 z0.Action], .int .i64 z1, .int .i64 z2] [g_pow10, g_errs] [] (fun (_ : Unit) => .bool r) (fun _ => []) (fun _ => []) := by
  unfold f_kauditref26_Due at h
  refine t_begin (args := [.agg #[.int .i64 z0.Most, .int .i64 z0.Keep, .int .i64 z0.Action], .int .i64 z1, .int .i64 z2]) Tryd.func12 rfl Tryd.ntmps12 rfl fun c R hR => ?_
  have hQ : ∀ X, X = r → ∀ w2 (_ : Unit), PostG c.w0 w2 c.M c.Y [] [] → R (.returned (.bool X)) w2 := fun X e => by subst e; exact hR
  refine t_seq fun K1 hK2 => ?_
  refine t_region ?_
  refine nx (t_bx (cs := [.int .i64 z0.Most, .int .i64 z0.Keep, .int .i64 z0.Action]) rfl rfl rfl fun g3 => ?_)
  refine c_p (r_as rfl) rfl ?_
  refine t_nil ?_
  refine t_then hK2 ?_
  refine t_seq fun K4 hK5 => ?_
  refine t_seq fun K6 hK7 => ?_
  refine t_region ?_
  refine c_s (r_ldA a0 Tryd.underlying23 rfl ti23 rfl rfl) rfl ?_
  obtain ⟨y8, hy8, h⟩ := bs h
  refine nx (t_ca (C14 _ _ hy8) Tryd.func14 nm14 rfl rfl rfl .nil (fun w Z hA => (V1 a0 hA (V1 a1 hA V0))) rfl fun t9 => ?_)
  refine c_p (r_not rfl) rfl ?_
  refine c_p (r_mv rfl) rfl ?_
  rcases Bool.eq_false_or_eq_true y8 with hb10 | hb10
  · replace h := itT hb10 h
    refine nx (gd rfl rfl (congrArg Bool.not hb10) (sp (r_fa (off' := 2) Tryd.underlying23 rfl ti3 rfl rfl) rfl ?_))
    refine nx (gd rfl rfl (congrArg Bool.not hb10) (ss (r_ld a0 Tryd.underlying3 rfl rfl rfl) rfl ?_))
    refine nx (gd rfl rfl (congrArg Bool.not hb10) (sp (r_i rfl rfl rfl) rfl ?_))
    refine c_p (r_pF rfl (congrArg Bool.not hb10) rfl) rfl ?_
    refine t_nil ?_
    refine t_then hK7 ?_
    rcases Bool.eq_false_or_eq_true (z0.Action == 3) with hb11 | hb11
    · replace h := itT hb11 h
      refine t_T rfl hb11 ?_
      refine t_seq fun K12 hK13 => ?_
      refine t_region ?_
      refine c_p (r_as rfl) rfl ?_
      refine t_nil ?_
      refine t_then hK13 ?_
      refine t_ret ?_
      exact tr (ret1 rfl (v_t rfl) (t_leave (hQ _ (Option.some.inj h)) () rfl (fun w Z hA => V0) .nil))
    · replace h := itF hb11 h
      refine t_F rfl hb11 ?_
      refine t_skip ?_
      refine t_then hK5 ?_
      refine t_seq fun K16 hK17 => ?_
      refine t_seq fun K18 hK19 => ?_
      refine t_region ?_
      refine c_p (r_mv rfl) rfl ?_
      refine c_p (r_i rfl rfl rfl) rfl ?_
      refine t_nil ?_
      refine t_then hK19 ?_
      rcases Bool.eq_false_or_eq_true (decide (z2 ≥ 0)) with hb20 | hb20
      · replace h := itT hb20 h
        refine t_T rfl hb20 ?_
        refine t_seq fun K21 hK22 => ?_
        refine t_region ?_
        refine c_p (r_mv rfl) rfl ?_
        refine c_p (r_fa (off' := 0) Tryd.underlying23 rfl ti3 rfl rfl) rfl ?_
        refine c_s (r_ld a0 Tryd.underlying3 rfl rfl rfl) rfl ?_
        refine c_p (r_mv rfl) rfl ?_
        refine c_p (r_i rfl rfl rfl) rfl ?_
        refine c_p (r_i rfl rfl rfl) rfl ?_
        refine c_p (r_as rfl) rfl ?_
        refine t_nil ?_
        refine t_then hK22 ?_
        refine t_ret ?_
        exact tr (ret1 rfl (v_t rfl) (t_leave (hQ _ (Option.some.inj h)) () rfl (fun w Z hA => V0) .nil))
      · replace h := itF hb20 h
        refine t_F rfl hb20 ?_
        refine t_skip ?_
        refine t_then hK17 ?_
        refine t_seq fun K23 hK24 => ?_
        refine t_region ?_
        refine c_p (r_mv rfl) rfl ?_
        refine c_p (r_fa (off' := 0) Tryd.underlying23 rfl ti3 rfl rfl) rfl ?_
        refine c_s (r_ld a0 Tryd.underlying3 rfl rfl rfl) rfl ?_
        refine c_p (r_i rfl rfl rfl) rfl ?_
        refine c_p (r_mv rfl) rfl ?_
        rcases Bool.eq_false_or_eq_true (decide (z1 > z0.Most)) with hb25 | hb25
        · replace h := itT hb25 h
          refine nx (gd rfl rfl hb25 (sp (r_mv rfl) rfl ?_))
          refine nx (gd rfl rfl hb25 (sp (r_mv rfl) rfl ?_))
          refine nx (gd rfl rfl hb25 (sp (r_i rfl rfl rfl) rfl ?_))
          refine nx (gd rfl rfl hb25 (sp (r_fa (off' := 0) Tryd.underlying23 rfl ti3 rfl rfl) rfl ?_))
          refine nx (gd rfl rfl hb25 (ss (r_ld a0 Tryd.underlying3 rfl rfl rfl) rfl ?_))
          refine nx (gd rfl rfl hb25 (sp (r_i rfl rfl rfl) rfl ?_))
          refine c_p (r_pT rfl hb25 rfl) rfl ?_
          refine c_p (r_as rfl) rfl ?_
          refine t_nil ?_
          refine t_then hK24 ?_
          refine t_ret ?_
          exact ret1 rfl (v_t rfl) (t_leave (hQ _ (Option.some.inj h)) () rfl (fun w Z hA => V0) .nil)
        · replace h := itF hb25 h
          refine nx (pass rfl rfl hb25 rfl ?_)
          refine nx (pass rfl rfl hb25 rfl ?_)
          refine nx (pass rfl rfl hb25 rfl ?_)
          refine nx (pass rfl rfl hb25 rfl ?_)
          refine nx (pass rfl rfl hb25 rfl ?_)
          refine nx (pass rfl rfl hb25 rfl ?_)
          refine c_p (r_pF rfl hb25 rfl) rfl ?_
          refine c_p (r_as rfl) rfl ?_
          refine t_nil ?_
          refine t_then hK24 ?_
          refine t_ret ?_
          exact ret1 rfl (v_t rfl) (t_leave (hQ _ (Option.some.inj h)) () rfl (fun w Z hA => V0) .nil)
  · replace h := itF hb10 h
    refine nx (pass rfl rfl (congrArg Bool.not hb10) rfl ?_)
    refine nx (pass rfl rfl (congrArg Bool.not hb10) rfl ?_)
    refine nx (pass rfl rfl (congrArg Bool.not hb10) rfl ?_)
    refine c_p (r_pT rfl (congrArg Bool.not hb10) rfl) rfl ?_
    refine t_nil ?_
    refine t_then hK7 ?_
    refine t_T rfl rfl ?_
    refine t_seq fun K14 hK15 => ?_
    refine t_region ?_
    refine c_p (r_as rfl) rfl ?_
    refine t_nil ?_
    refine t_then hK15 ?_
    refine t_ret ?_
    exact tr (ret1 rfl (v_t rfl) (t_leave (hQ _ (Option.some.inj h)) () rfl (fun w Z hA => V0) .nil))
end Go.Proofs.YtgcigcbhilcgoaaDoor.Gx
