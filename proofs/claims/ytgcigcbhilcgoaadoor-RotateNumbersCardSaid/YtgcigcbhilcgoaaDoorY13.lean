/- Function 13, kaudit/rotate.Valid: what it answers as a plain function, and that the Go code comes to exactly that (where the plain function gives an answer). -/
import Derived.Test.YtgcigcbhilcgoaaDoorYT
set_option linter.unusedVariables false
set_option linter.unusedSimpArgs false
namespace Go.Proofs.YtgcigcbhilcgoaaDoor.Gx
open Go.Gx Go.RowKit
/-! ### kaudit/rotate.Valid: function 13 -/
def f_rotate_Valid (z0 : api_Rotation) : Option (Bool) := if (decide (z0.Most ≥ 64)) = true then (if (decide (z0.Most ≤ 1048576)) = true then (if (decide (z0.Keep ≥ 2)) = true then (if (decide (z0.Keep ≤ 16)) = true then (if (decide (z0.Action ≥ 1)) = true then (some (decide (z0.Action ≤ 4))) else (some false)) else (some false)) else (some false)) else (some false)) else (some false)
set_option maxHeartbeats 4000000 in
set_option maxRecDepth 100000 in
theorem C13 (z0 : api_Rotation) (r : Bool) (h : f_rotate_Valid z0 = some r) : FunG Tryd.prog 13 #[.agg #[.int .i64 z0.Most, .int .i64 z0.Keep, .int .i64 z0.Action]] [g_pow10, g_errs] [] (fun (_ : Unit) => .bool r) (fun _ => []) (fun _ => []) := by
  unfold f_rotate_Valid at h
  refine t_begin (args := [.agg #[.int .i64 z0.Most, .int .i64 z0.Keep, .int .i64 z0.Action]]) Tryd.func13 rfl Tryd.ntmps13 rfl fun c R hR => ?_
  have hQ : ∀ X, X = r → ∀ w2 (_ : Unit), PostG c.w0 w2 c.M c.Y [] [] → R (.returned (.bool X)) w2 := fun X e => by subst e; exact hR
  refine t_seq fun K1 hK2 => ?_
  refine t_region ?_
  refine nx (t_bx (cs := [.int .i64 z0.Most, .int .i64 z0.Keep, .int .i64 z0.Action]) rfl rfl rfl fun g3 => ?_)
  refine c_p (r_as rfl) rfl ?_
  refine t_nil ?_
  refine t_then hK2 ?_
  refine t_seq fun K4 hK5 => ?_
  refine t_region ?_
  refine c_p (r_fa (off' := 0) Tryd.underlying23 rfl ti3 rfl rfl) rfl ?_
  refine c_s (r_ld a0 Tryd.underlying3 rfl rfl rfl) rfl ?_
  refine c_p (r_i rfl rfl rfl) rfl ?_
  refine c_p (r_mv rfl) rfl ?_
  rcases Bool.eq_false_or_eq_true (decide (z0.Most ≥ 64)) with hb6 | hb6
  · replace h := itT hb6 h
    refine nx (gd rfl rfl hb6 (sp (r_fa (off' := 0) Tryd.underlying23 rfl ti3 rfl rfl) rfl ?_))
    refine nx (gd rfl rfl hb6 (ss (r_ld a0 Tryd.underlying3 rfl rfl rfl) rfl ?_))
    refine nx (gd rfl rfl hb6 (sp (r_i rfl rfl rfl) rfl ?_))
    refine c_p (r_pT rfl hb6 rfl) rfl ?_
    refine c_p (r_mv rfl) rfl ?_
    rcases Bool.eq_false_or_eq_true (decide (z0.Most ≤ 1048576)) with hb7 | hb7
    · replace h := itT hb7 h
      refine nx (gd rfl rfl hb7 (sp (r_fa (off' := 1) Tryd.underlying23 rfl ti3 rfl rfl) rfl ?_))
      refine nx (gd rfl rfl hb7 (ss (r_ld a0 Tryd.underlying3 rfl rfl rfl) rfl ?_))
      refine nx (gd rfl rfl hb7 (sp (r_i rfl rfl rfl) rfl ?_))
      refine c_p (r_pT rfl hb7 rfl) rfl ?_
      refine c_p (r_mv rfl) rfl ?_
      rcases Bool.eq_false_or_eq_true (decide (z0.Keep ≥ 2)) with hb8 | hb8
      · replace h := itT hb8 h
        refine nx (gd rfl rfl hb8 (sp (r_fa (off' := 1) Tryd.underlying23 rfl ti3 rfl rfl) rfl ?_))
        refine nx (gd rfl rfl hb8 (ss (r_ld a0 Tryd.underlying3 rfl rfl rfl) rfl ?_))
        refine nx (gd rfl rfl hb8 (sp (r_i rfl rfl rfl) rfl ?_))
        refine c_p (r_pT rfl hb8 rfl) rfl ?_
        refine c_p (r_mv rfl) rfl ?_
        rcases Bool.eq_false_or_eq_true (decide (z0.Keep ≤ 16)) with hb9 | hb9
        · replace h := itT hb9 h
          refine nx (gd rfl rfl hb9 (sp (r_fa (off' := 2) Tryd.underlying23 rfl ti3 rfl rfl) rfl ?_))
          refine nx (gd rfl rfl hb9 (ss (r_ld a0 Tryd.underlying3 rfl rfl rfl) rfl ?_))
          refine nx (gd rfl rfl hb9 (sp (r_i rfl rfl rfl) rfl ?_))
          refine c_p (r_pT rfl hb9 rfl) rfl ?_
          refine c_p (r_mv rfl) rfl ?_
          rcases Bool.eq_false_or_eq_true (decide (z0.Action ≥ 1)) with hb10 | hb10
          · replace h := itT hb10 h
            refine nx (gd rfl rfl hb10 (sp (r_fa (off' := 2) Tryd.underlying23 rfl ti3 rfl rfl) rfl ?_))
            refine nx (gd rfl rfl hb10 (ss (r_ld a0 Tryd.underlying3 rfl rfl rfl) rfl ?_))
            refine nx (gd rfl rfl hb10 (sp (r_i rfl rfl rfl) rfl ?_))
            refine c_p (r_pT rfl hb10 rfl) rfl ?_
            refine c_p (r_as rfl) rfl ?_
            refine t_nil ?_
            refine t_then hK5 ?_
            refine t_ret ?_
            exact ret1 rfl (v_t rfl) (t_leave (hQ _ (Option.some.inj h)) () rfl (fun w Z hA => V0) .nil)
          · replace h := itF hb10 h
            refine nx (pass rfl rfl hb10 rfl ?_)
            refine nx (pass rfl rfl hb10 rfl ?_)
            refine nx (pass rfl rfl hb10 rfl ?_)
            refine c_p (r_pF rfl hb10 rfl) rfl ?_
            refine c_p (r_as rfl) rfl ?_
            refine t_nil ?_
            refine t_then hK5 ?_
            refine t_ret ?_
            exact ret1 rfl (v_t rfl) (t_leave (hQ _ (Option.some.inj h)) () rfl (fun w Z hA => V0) .nil)
        · replace h := itF hb9 h
          refine nx (pass rfl rfl hb9 rfl ?_)
          refine nx (pass rfl rfl hb9 rfl ?_)
          refine nx (pass rfl rfl hb9 rfl ?_)
          refine c_p (r_pF rfl hb9 rfl) rfl ?_
          refine c_p (r_mv rfl) rfl ?_
          refine nx (pass rfl rfl rfl rfl ?_)
          refine nx (pass rfl rfl rfl rfl ?_)
          refine nx (pass rfl rfl rfl rfl ?_)
          refine c_p (r_pF rfl rfl rfl) rfl ?_
          refine c_p (r_as rfl) rfl ?_
          refine t_nil ?_
          refine t_then hK5 ?_
          refine t_ret ?_
          exact ret1 rfl (v_t rfl) (t_leave (hQ _ (Option.some.inj h)) () rfl (fun w Z hA => V0) .nil)
      · replace h := itF hb8 h
        refine nx (pass rfl rfl hb8 rfl ?_)
        refine nx (pass rfl rfl hb8 rfl ?_)
        refine nx (pass rfl rfl hb8 rfl ?_)
        refine c_p (r_pF rfl hb8 rfl) rfl ?_
        refine c_p (r_mv rfl) rfl ?_
        refine nx (pass rfl rfl rfl rfl ?_)
        refine nx (pass rfl rfl rfl rfl ?_)
        refine nx (pass rfl rfl rfl rfl ?_)
        refine c_p (r_pF rfl rfl rfl) rfl ?_
        refine c_p (r_mv rfl) rfl ?_
        refine nx (pass rfl rfl rfl rfl ?_)
        refine nx (pass rfl rfl rfl rfl ?_)
        refine nx (pass rfl rfl rfl rfl ?_)
        refine c_p (r_pF rfl rfl rfl) rfl ?_
        refine c_p (r_as rfl) rfl ?_
        refine t_nil ?_
        refine t_then hK5 ?_
        refine t_ret ?_
        exact ret1 rfl (v_t rfl) (t_leave (hQ _ (Option.some.inj h)) () rfl (fun w Z hA => V0) .nil)
    · replace h := itF hb7 h
      refine nx (pass rfl rfl hb7 rfl ?_)
      refine nx (pass rfl rfl hb7 rfl ?_)
      refine nx (pass rfl rfl hb7 rfl ?_)
      refine c_p (r_pF rfl hb7 rfl) rfl ?_
      refine c_p (r_mv rfl) rfl ?_
      refine nx (pass rfl rfl rfl rfl ?_)
      refine nx (pass rfl rfl rfl rfl ?_)
      refine nx (pass rfl rfl rfl rfl ?_)
      refine c_p (r_pF rfl rfl rfl) rfl ?_
      refine c_p (r_mv rfl) rfl ?_
      refine nx (pass rfl rfl rfl rfl ?_)
      refine nx (pass rfl rfl rfl rfl ?_)
      refine nx (pass rfl rfl rfl rfl ?_)
      refine c_p (r_pF rfl rfl rfl) rfl ?_
      refine c_p (r_mv rfl) rfl ?_
      refine nx (pass rfl rfl rfl rfl ?_)
      refine nx (pass rfl rfl rfl rfl ?_)
      refine nx (pass rfl rfl rfl rfl ?_)
      refine c_p (r_pF rfl rfl rfl) rfl ?_
      refine c_p (r_as rfl) rfl ?_
      refine t_nil ?_
      refine t_then hK5 ?_
      refine t_ret ?_
      exact ret1 rfl (v_t rfl) (t_leave (hQ _ (Option.some.inj h)) () rfl (fun w Z hA => V0) .nil)
  · replace h := itF hb6 h
    refine nx (pass rfl rfl hb6 rfl ?_)
    refine nx (pass rfl rfl hb6 rfl ?_)
    refine nx (pass rfl rfl hb6 rfl ?_)
    refine c_p (r_pF rfl hb6 rfl) rfl ?_
    refine c_p (r_mv rfl) rfl ?_
    refine nx (pass rfl rfl rfl rfl ?_)
    refine nx (pass rfl rfl rfl rfl ?_)
    refine nx (pass rfl rfl rfl rfl ?_)
    refine c_p (r_pF rfl rfl rfl) rfl ?_
    refine c_p (r_mv rfl) rfl ?_
    refine nx (pass rfl rfl rfl rfl ?_)
    refine nx (pass rfl rfl rfl rfl ?_)
    refine nx (pass rfl rfl rfl rfl ?_)
    refine c_p (r_pF rfl rfl rfl) rfl ?_
    refine c_p (r_mv rfl) rfl ?_
    refine nx (pass rfl rfl rfl rfl ?_)
    refine nx (pass rfl rfl rfl rfl ?_)
    refine nx (pass rfl rfl rfl rfl ?_)
    refine c_p (r_pF rfl rfl rfl) rfl ?_
    refine c_p (r_mv rfl) rfl ?_
    refine nx (pass rfl rfl rfl rfl ?_)
    refine nx (pass rfl rfl rfl rfl ?_)
    refine nx (pass rfl rfl rfl rfl ?_)
    refine c_p (r_pF rfl rfl rfl) rfl ?_
    refine c_p (r_as rfl) rfl ?_
    refine t_nil ?_
    refine t_then hK5 ?_
    refine t_ret ?_
    exact ret1 rfl (v_t rfl) (t_leave (hQ _ (Option.some.inj h)) () rfl (fun w Z hA => V0) .nil)
end Go.Proofs.YtgcigcbhilcgoaaDoor.Gx
