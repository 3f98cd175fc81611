/- Function 18, kaudit/rotate.Drop: what it answers as a plain function, and that the Go code comes to exactly that (where the plain function gives an answer). -/
import Derived.Test.YtgcigcbhilcgoaaDoorYT
import Derived.Test.YtgcigcbhilcgoaaDoorY13
import Derived.Test.YtgcigcbhilcgoaaDoorY30
set_option linter.unusedVariables false
set_option linter.unusedSimpArgs false
namespace Go.Proofs.YtgcigcbhilcgoaaDoor.Gx
open Go.Gx Go.RowKit
/-! ### kaudit/rotate.Drop: function 18 -/
def f_rotate_Drop (z0 : api_Rotation) (z1 : (List Int)) : Option ((List Int)) := (f_rotate_Valid z0).bind fun y11 => if y11 = true then (if (z0.Action != 1) = true then (some ([] : List Int)) else ((f_rotate_unique_int z1).bind fun y21 => ck (cutOk y21 0 (max (0 : Int) (IntKind.wrap .i64 ((IntKind.wrap .i64 ((y21.length : Int) + 1)) - z0.Keep)))) <| some (cut y21 0 (max (0 : Int) (IntKind.wrap .i64 ((IntKind.wrap .i64 ((y21.length : Int) + 1)) - z0.Keep)))))) else (some ([] : List Int))
set_option maxHeartbeats 4000000 in
set_option maxRecDepth 100000 in
theorem C18 (z0 : api_Rotation) (z1 : (List Int)) (p1 : Option Addr) (m2 : Nat) (c3 : Nat) (r : (List Int)) (h : f_rotate_Drop z0 z1 = some r) : FunG Tryd.prog 18 #[.agg #[.int .i64 z0.Most, .int .i64 z0.Keep, .int .i64 z0.Action], .slice p1 m2 c3] [vw (kSlice 3 (kInt .i64)) z1 [.slice p1 m2 c3], g_pow10, g_errs] [] (fun t : (Option Addr × Nat × Nat) => .slice t.1 t.2.1 t.2.2) (fun t => []) (fun t => [[row 3 (kInt .i64) r (.slice t.1 t.2.1 t.2.2)]]) := by
  unfold f_rotate_Drop at h
  refine t_begin (args := [.agg #[.int .i64 z0.Most, .int .i64 z0.Keep, .int .i64 z0.Action], .slice p1 m2 c3]) Tryd.func18 rfl Tryd.ntmps18 rfl fun c R hR => ?_
  have hQ : ∀ X, X = r → ∀ w2 (t : (Option Addr × Nat × Nat)), PostG c.w0 w2 c.M c.Y [] [[row 3 (kInt .i64) X (.slice t.1 t.2.1 t.2.2)]] → R (.returned (.slice t.1 t.2.1 t.2.2)) w2 := fun X e => by subst e; exact hR
  refine t_seq fun K4 hK5 => ?_
  refine t_region ?_
  refine nx (t_bx (cs := [.int .i64 z0.Most, .int .i64 z0.Keep, .int .i64 z0.Action]) rfl rfl rfl fun g6 => ?_)
  refine c_p (r_as rfl) rfl ?_
  refine t_nil ?_
  refine t_then hK5 ?_
  refine t_seq fun K7 hK8 => ?_
  refine t_seq fun K9 hK10 => ?_
  refine t_region ?_
  refine c_s (r_ldA a0 Tryd.underlying23 rfl ti23 rfl rfl) rfl ?_
  obtain ⟨y11, hy11, h⟩ := bs h
  refine nx (t_ca (C13 _ _ hy11) Tryd.func13 nm13 rfl rfl rfl .nil (fun w Z hA => (V1 a1 hA (V1 a2 hA V0))) rfl fun t12 => ?_)
  refine c_p (r_not rfl) rfl ?_
  refine c_p (r_mv rfl) rfl ?_
  rcases Bool.eq_false_or_eq_true y11 with hb13 | hb13
  · replace h := itT hb13 h
    refine nx (gd rfl rfl (congrArg Bool.not hb13) (sp (r_fa (off' := 2) Tryd.underlying23 rfl ti3 rfl rfl) rfl ?_))
    refine nx (gd rfl rfl (congrArg Bool.not hb13) (ss (r_ld a0 Tryd.underlying3 rfl rfl rfl) rfl ?_))
    refine nx (gd rfl rfl (congrArg Bool.not hb13) (sp (r_i rfl rfl rfl) rfl ?_))
    refine c_p (r_pF rfl (congrArg Bool.not hb13) rfl) rfl ?_
    refine t_nil ?_
    refine t_then hK10 ?_
    rcases Bool.eq_false_or_eq_true (z0.Action != 1) with hb14 | hb14
    · replace h := itT hb14 h
      refine t_T rfl hb14 ?_
      refine t_seq fun K15 hK16 => ?_
      refine t_region ?_
      refine c_p (r_as rfl) rfl ?_
      refine t_nil ?_
      refine t_then hK16 ?_
      refine t_ret ?_
      refine t_nr 3 (kInt .i64) ?_
      exact tr (ret1 rfl (v_t rfl) (t_leave (hQ _ (Option.some.inj h)) (none, 0, 0) rfl (fun w Z hA => V0) (.cons e0 .nil)))
    · replace h := itF hb14 h
      refine t_F rfl hb14 ?_
      refine t_skip ?_
      refine t_then hK8 ?_
      refine t_seq fun K19 hK20 => ?_
      refine t_region ?_
      refine c_p (r_mv rfl) rfl ?_
      obtain ⟨y21, hy21, h⟩ := bs h
      refine nx (t_ca (C30 _ _ _ _ _ hy21) Tryd.func30 nm30 rfl rfl rfl .nil (fun w Z hA => (V1 a0 hA (V1 a1 hA (V1 a2 hA V0)))) rfl fun t22 => ?_)
      refine c_p (r_as rfl) rfl ?_
      refine t_nil ?_
      refine t_then hK20 ?_
      refine t_seq fun K23 hK24 => ?_
      refine t_region ?_
      refine c_p (r_mv rfl) rfl ?_
      refine c_p (r_mv rfl) rfl ?_
      refine c_s (r_lnL a0 Tryd.underlying36 rfl) rfl ?_
      refine c_p (r_i rfl rfl rfl) rfl ?_
      refine c_p (r_fa (off' := 1) Tryd.underlying23 rfl ti3 rfl rfl) rfl ?_
      refine c_s (r_ld a1 Tryd.underlying3 rfl rfl rfl) rfl ?_
      refine c_p (r_i rfl rfl rfl) rfl ?_
      refine c_p (r_max rfl rfl) rfl ?_
      obtain ⟨hc25, h⟩ := ck_out h
      refine nx (t_vw (i := 0) (j := (max (0 : Int) (IntKind.wrap .i64 ((IntKind.wrap .i64 ((y21.length : Int) + 1)) - z0.Keep)))) a0 Tryd.underlying36 ti3 rfl (.inl ⟨rfl, rfl⟩) (.inr ⟨_, _, rfl, rfl⟩) hc25 rfl fun t26 hv27 => ?_)
      refine c_p (r_as rfl) rfl ?_
      refine t_nil ?_
      refine t_then hK24 ?_
      refine t_ret ?_
      refine t_vm (i := 0) (j := (max (0 : Int) (IntKind.wrap .i64 ((IntKind.wrap .i64 ((y21.length : Int) + 1)) - z0.Keep)))) e0 hv27 hc25 (.inl rfl) ?_
      exact ret1 rfl (v_t rfl) (t_leave (hQ _ (Option.some.inj h)) (t26.1, t26.2.1, t26.2.2) rfl (fun w Z hA => V0) (.cons e0 .nil))
  · replace h := itF hb13 h
    refine nx (pass rfl rfl (congrArg Bool.not hb13) rfl ?_)
    refine nx (pass rfl rfl (congrArg Bool.not hb13) rfl ?_)
    refine nx (pass rfl rfl (congrArg Bool.not hb13) rfl ?_)
    refine c_p (r_pT rfl (congrArg Bool.not hb13) rfl) rfl ?_
    refine t_nil ?_
    refine t_then hK10 ?_
    refine t_T rfl rfl ?_
    refine t_seq fun K17 hK18 => ?_
    refine t_region ?_
    refine c_p (r_as rfl) rfl ?_
    refine t_nil ?_
    refine t_then hK18 ?_
    refine t_ret ?_
    refine t_nr 3 (kInt .i64) ?_
    exact tr (ret1 rfl (v_t rfl) (t_leave (hQ _ (Option.some.inj h)) (none, 0, 0) rfl (fun w Z hA => V0) (.cons e0 .nil)))
end Go.Proofs.YtgcigcbhilcgoaaDoor.Gx
