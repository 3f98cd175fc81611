/- Function 11, kaudit/rotate.Due: what it answers as a plain function, and that the Go code comes to exactly that (where the plain function gives an answer). -/
import Derived.Test.YtgcigcbhilcgoaaDoorYT
import Derived.Test.YtgcigcbhilcgoaaDoorY13
import Derived.Test.YtgcigcbhilcgoaaDoorY29
set_option linter.unusedVariables false
set_option linter.unusedSimpArgs false
namespace Go.Proofs.YtgcigcbhilcgoaaDoor.Gx
open Go.Gx Go.RowKit
/-! ### kaudit/rotate.Due: function 11 -/
def f_rotate_Due (z0 : api_Rotation) (z1 : Int) (z2 : Int) : Option (Bool) := (f_rotate_Valid z0).bind fun y6 => if y6 = true then (if (z0.Action != 3) = true then ((f_rotate_exceeds z1 z2 z0.Most).bind fun y10 => some y10) else (some false)) else (some false)
set_option maxHeartbeats 4000000 in
set_option maxRecDepth 100000 in
theorem C11 (z0 : api_Rotation) (z1 : Int) (z2 : Int) (r : Bool) (h : f_rotate_Due z0 z1 z2 = some r) : FunG Tryd.prog 11 #[.agg #[.int .i64 z0.Most, .int .i64 z0.Keep, .int .i64 z0.Action], .int .i64 z1, .int .i64 z2] [g_pow10, g_errs] [] (fun (_ : Unit) => .bool r) (fun _ => []) (fun _ => []) := by
  unfold f_rotate_Due at h
  refine t_begin (args := [.agg #[.int .i64 z0.Most, .int .i64 z0.Keep, .int .i64 z0.Action], .int .i64 z1, .int .i64 z2]) Tryd.func11 rfl Tryd.ntmps11 rfl fun c R hR => ?_
  have hQ : ∀ X, X = r → ∀ w2 (_ : Unit), PostG c.w0 w2 c.M c.Y [] [] → R (.returned (.bool X)) w2 := fun X e => by subst e; exact hR
  refine t_seq fun K1 hK2 => ?_
  refine t_region ?_
  refine nx (t_bx (cs := [.int .i64 z0.Most, .int .i64 z0.Keep, .int .i64 z0.Action]) rfl rfl rfl fun g3 => ?_)
  refine c_p (r_as rfl) rfl ?_
  refine t_nil ?_
  refine t_then hK2 ?_
  refine t_seq fun K4 hK5 => ?_
  refine t_region ?_
  refine c_s (r_ldA a0 Tryd.underlying23 rfl ti23 rfl rfl) rfl ?_
  obtain ⟨y6, hy6, h⟩ := bs h
  refine nx (t_ca (C13 _ _ hy6) Tryd.func13 nm13 rfl rfl rfl .nil (fun w Z hA => (V1 a0 hA (V1 a1 hA V0))) rfl fun t7 => ?_)
  refine c_p (r_mv rfl) rfl ?_
  rcases Bool.eq_false_or_eq_true y6 with hb8 | hb8
  · replace h := itT hb8 h
    refine nx (gd rfl rfl hb8 (sp (r_fa (off' := 2) Tryd.underlying23 rfl ti3 rfl rfl) rfl ?_))
    refine nx (gd rfl rfl hb8 (ss (r_ld a0 Tryd.underlying3 rfl rfl rfl) rfl ?_))
    refine nx (gd rfl rfl hb8 (sp (r_i rfl rfl rfl) rfl ?_))
    refine c_p (r_pT rfl hb8 rfl) rfl ?_
    refine c_p (r_mv rfl) rfl ?_
    rcases Bool.eq_false_or_eq_true (z0.Action != 3) with hb9 | hb9
    · replace h := itT hb9 h
      refine nx (gd rfl rfl hb9 (sp (r_mv rfl) rfl ?_))
      refine nx (gd rfl rfl hb9 (sp (r_mv rfl) rfl ?_))
      refine nx (gd rfl rfl hb9 (sp (r_fa (off' := 0) Tryd.underlying23 rfl ti3 rfl rfl) rfl ?_))
      refine nx (gd rfl rfl hb9 (ss (r_ld a0 Tryd.underlying3 rfl rfl rfl) rfl ?_))
      obtain ⟨y10, hy10, h⟩ := bs h
      refine nx (gd rfl rfl hb9 (t_ca (C29 _ _ _ _ hy10) Tryd.func29 nm29 rfl rfl rfl .nil (fun w Z hA => (V1 a0 hA (V1 a1 hA V0))) rfl fun t11 => ?_))
      refine c_p (r_pT rfl hb9 rfl) rfl ?_
      refine c_p (r_as rfl) rfl ?_
      refine t_nil ?_
      refine t_then hK5 ?_
      refine t_ret ?_
      exact ret1 rfl (v_t rfl) (t_leave (hQ _ (Option.some.inj h)) () rfl (fun w Z hA => V0) .nil)
    · replace h := itF hb9 h
      refine nx (pass rfl rfl hb9 rfl ?_)
      refine nx (pass rfl rfl hb9 rfl ?_)
      refine nx (pass rfl rfl hb9 rfl ?_)
      refine nx (pass rfl rfl hb9 rfl ?_)
      refine nx (pass rfl rfl hb9 rfl ?_)
      refine c_p (r_pF rfl hb9 rfl) rfl ?_
      refine c_p (r_as rfl) rfl ?_
      refine t_nil ?_
      refine t_then hK5 ?_
      refine t_ret ?_
      exact ret1 rfl (v_t rfl) (t_leave (hQ _ (Option.some.inj h)) () rfl (fun w Z hA => V0) .nil)
  · replace h := itF hb8 h
    refine nx (pass rfl rfl hb8 rfl ?_)
    refine nx (pass rfl rfl hb8 rfl ?_)
    refine nx (pass rfl rfl hb8 rfl ?_)
    refine c_p (r_pF rfl hb8 rfl) rfl ?_
    refine c_p (r_mv rfl) rfl ?_
    refine nx (pass rfl rfl rfl rfl ?_)
    refine nx (pass rfl rfl rfl rfl ?_)
    refine nx (pass rfl rfl rfl rfl ?_)
    refine nx (pass rfl rfl rfl rfl ?_)
    refine nx (pass rfl rfl rfl rfl ?_)
    refine c_p (r_pF rfl rfl rfl) rfl ?_
    refine c_p (r_as rfl) rfl ?_
    refine t_nil ?_
    refine t_then hK5 ?_
    refine t_ret ?_
    exact ret1 rfl (v_t rfl) (t_leave (hQ _ (Option.some.inj h)) () rfl (fun w Z hA => V0) .nil)
end Go.Proofs.YtgcigcbhilcgoaaDoor.Gx
