/- Function 15, kaudit/kauditlaw26.begun: what it answers as a plain function, and that the Go code comes to exactly that (where the plain function gives an answer). -/
import Derived.Test.YtgcigcbhilcgoaaDoorYT
import Derived.Test.YtgcigcbhilcgoaaDoorY11
import Derived.Test.YtgcigcbhilcgoaaDoorY18
import Derived.Test.YtgcigcbhilcgoaaDoorY19
import Derived.Test.YtgcigcbhilcgoaaDoorY21
set_option linter.unusedVariables false
set_option linter.unusedSimpArgs false
namespace Go.Proofs.YtgcigcbhilcgoaaDoor.Gx
open Go.Gx Go.RowKit
/-! ### kaudit/kauditlaw26.begun: function 15 -/
def f_kauditlaw26_begun : Option (Bool) := (f_rotate_Drop (⟨100, 3, 1⟩ : api_Rotation) [5, 4, 6]).bind fun y9 => (f_rotate_Number (⟨#[108, 111, 103, 45, 48, 48, 49, 50, 46, 122]⟩ : ByteArray)).bind fun y13 => if ((y9.length : Int) == 1) = true then ((at_ y9 0).bind fun el21 => if (el21 == 4) = true then ((f_rotate_Due (⟨100, 3, 1⟩ : api_Rotation) 90 10).bind fun y24 => if y24 = true then (some false) else ((f_rotate_Due (⟨100, 3, 1⟩ : api_Rotation) 91 10).bind fun y27 => if y27 = true then (if (y13.1 == 12) = true then (if y13.2.1 = true then (if y13.2.2 = true then ((f_rotate_Name 12).bind fun y33 => some (y33.toList == (⟨#[108, 111, 103, 45, 48, 48, 49, 50]⟩ : ByteArray).toList)) else (some false)) else (some false)) else (some false)) else (some false))) else (some false)) else (some false)
set_option maxHeartbeats 4000000 in
set_option maxRecDepth 100000 in
theorem C15 (r : Bool) (h : f_kauditlaw26_begun = some r) : FunG Tryd.prog 15 #[] [g_pow10, g_errs] [] (fun (_ : Unit) => .bool r) (fun _ => []) (fun _ => []) := by
  unfold f_kauditlaw26_begun at h
  refine t_begin (args := []) Tryd.func15 rfl Tryd.ntmps15 rfl fun c R hR => ?_
  have hQ : ∀ X, X = r → ∀ w2 (_ : Unit), PostG c.w0 w2 c.M c.Y [] [] → R (.returned (.bool X)) w2 := fun X e => by subst e; exact hR
  refine t_seq fun K1 hK2 => ?_
  refine t_region ?_
  refine c_p (r_as rfl) rfl ?_
  refine t_nil ?_
  refine t_then hK2 ?_
  refine t_seq fun K3 hK4 => ?_
  refine t_region ?_
  refine c_p (r_bu (ps := [(0, .int .i64 100), (1, .int .i64 3), (2, .int .i64 1)]) (cs := [.int .i64 100, .int .i64 3, .int .i64 1]) rfl (by kernel_rfl)) rfl ?_
  refine nx (t_al (cs := [.int .i64 0, .int .i64 0, .int .i64 0]) ti23 rfl rfl fun g5 => ?_)
  refine nx (t_st u0 ti23 rfl rfl rfl rfl rfl (.t (.s (.s (.s .z)))) ?_)
  refine t_nil ?_
  refine t_then hK4 ?_
  refine t_seq fun K6 hK7 => ?_
  refine t_region ?_
  refine c_s (r_ldA a0 Tryd.underlying23 rfl ti23 rfl rfl) rfl ?_
  refine nx (t_bs (ps := [(0, .int .i64 5), (1, .int .i64 4), (2, .int .i64 6)]) (cs := [.int .i64 5, .int .i64 4, .int .i64 6]) Tryd.underlying36 ti3 rfl rfl (by kernel_rfl) rfl fun g8 => ?_)
  refine t_tr (Kd := (kInt .i64)) (xs := [5, 4, 6]) (.cons e0 .nil) rfl (fun w Z S hA hN => flat_EO (S := Nil) (flatK_int .i64) (er1 (c1 := [.int .i64 5]) rfl (er1 (c1 := [.int .i64 4]) rfl (er1 (c1 := [.int .i64 6]) rfl er0)))) ?_
  obtain ⟨y9, hy9, h⟩ := bs h
  refine nx (t_cf (C18 _ _ _ _ _ _ hy9) (fun _ => (flat_cons (indK_slice 3 (indK_int .i64)) flat_nil)) Tryd.func18 nm18 rfl rfl rfl .nil (fun w Z S hA hL => (FL a0 hL (F1 a0 hA (F1 a1 hA F0)))) rfl fun t10 => ?_)
  refine c_p (r_as rfl) rfl ?_
  refine t_nil ?_
  refine t_then hK7 ?_
  refine t_seq fun K11 hK12 => ?_
  refine t_region ?_
  obtain ⟨y13, hy13, h⟩ := bs h
  refine nx (t_ca (C21 _ _ hy13) Tryd.func21 nm21 rfl rfl rfl .nil (fun w Z hA => (V1 a0 hA (V1 a1 hA V0))) rfl fun t14 => ?_)
  refine c_p (r_mv rfl) rfl ?_
  refine c_p (r_ex rfl rfl) rfl ?_
  refine c_p (r_ex rfl rfl) rfl ?_
  refine c_p (r_ex rfl rfl) rfl ?_
  refine c_p (r_as rfl) rfl ?_
  refine c_p (r_as rfl) rfl ?_
  refine c_p (r_as rfl) rfl ?_
  refine t_nil ?_
  refine t_then hK12 ?_
  refine t_seq fun K15 hK16 => ?_
  refine t_region ?_
  refine c_p (r_mv rfl) rfl ?_
  refine c_s (r_lnL a0 Tryd.underlying36 rfl) rfl ?_
  refine c_p (r_i rfl rfl rfl) rfl ?_
  refine c_p (r_mv rfl) rfl ?_
  rcases Bool.eq_false_or_eq_true ((y9.length : Int) == 1) with hb17 | hb17
  · replace h := itT hb17 h
    refine nx (gd rfl rfl hb17 (sp (r_mv rfl) rfl ?_))
    obtain ⟨el21, hel21, h⟩ := bs h
    refine t_qL a0 hel21 fun q18 hq19 hm20 => ?_
    refine nx (gd rfl rfl hb17 (sp (r_idx hq19 hm20 hel21 Tryd.underlying36 ti3 rfl rfl) rfl ?_))
    refine t_oI (opensO_int .i64) e0 hel21 fun t22 => ?_
    refine nx (gd rfl rfl hb17 (ss (r_h1 a0 hq19 Tryd.underlying3 rfl rfl rfl) rfl ?_))
    refine nx (gd rfl rfl hb17 (sp (r_i rfl rfl rfl) rfl ?_))
    refine c_p (r_pT rfl hb17 rfl) rfl ?_
    refine c_p (r_mv rfl) rfl ?_
    rcases Bool.eq_false_or_eq_true (el21 == 4) with hb23 | hb23
    · replace h := itT hb23 h
      refine nx (gd rfl rfl hb23 (ss (r_ldA a2 Tryd.underlying23 rfl ti23 rfl rfl) rfl ?_))
      obtain ⟨y24, hy24, h⟩ := bs h
      refine nx (gd rfl rfl hb23 (t_ca (C11 _ _ _ _ hy24) Tryd.func11 nm11 rfl rfl rfl .nil (fun w Z hA => (V1 a0 hA (V1 a1 hA V0))) rfl fun t25 => ?_))
      refine nx (gd rfl rfl hb23 (sp (r_not rfl) rfl ?_))
      refine c_p (r_pT rfl hb23 rfl) rfl ?_
      refine c_p (r_mv rfl) rfl ?_
      rcases Bool.eq_false_or_eq_true y24 with hb26 | hb26
      · replace h := itT hb26 h
        refine nx (pass rfl rfl (congrArg Bool.not hb26) rfl ?_)
        refine nx (pass rfl rfl (congrArg Bool.not hb26) rfl ?_)
        refine c_p (r_pF rfl (congrArg Bool.not hb26) rfl) rfl ?_
        refine c_p (r_mv rfl) rfl ?_
        refine nx (pass rfl rfl rfl rfl ?_)
        refine nx (pass rfl rfl rfl rfl ?_)
        refine c_p (r_pF rfl rfl rfl) rfl ?_
        refine c_p (r_mv rfl) rfl ?_
        refine nx (pass rfl rfl rfl rfl ?_)
        refine c_p (r_pF rfl rfl rfl) rfl ?_
        refine c_p (r_mv rfl) rfl ?_
        refine nx (pass rfl rfl rfl rfl ?_)
        refine c_p (r_pF rfl rfl rfl) rfl ?_
        refine c_p (r_mv rfl) rfl ?_
        refine nx (pass rfl rfl rfl rfl ?_)
        refine nx (pass rfl rfl rfl rfl ?_)
        refine c_p (r_pF rfl rfl rfl) rfl ?_
        refine c_p (r_as rfl) rfl ?_
        refine t_nil ?_
        refine t_then hK16 ?_
        refine t_ret ?_
        refine t_cS (u := el21) (t := ()) (shutsO_int .i64) hel21 (.cons e0 .nil) rfl (fun w Z hA => trivial) ?_
        exact ret1 rfl (v_t rfl) (t_leave (hQ _ (Option.some.inj h)) () rfl (fun w Z hA => V0) .nil)
      · replace h := itF hb26 h
        refine nx (gd rfl rfl (congrArg Bool.not hb26) (ss (r_ldA a2 Tryd.underlying23 rfl ti23 rfl rfl) rfl ?_))
        obtain ⟨y27, hy27, h⟩ := bs h
        refine nx (gd rfl rfl (congrArg Bool.not hb26) (t_ca (C11 _ _ _ _ hy27) Tryd.func11 nm11 rfl rfl rfl .nil (fun w Z hA => (V1 a0 hA (V1 a1 hA V0))) rfl fun t28 => ?_))
        refine c_p (r_pT rfl (congrArg Bool.not hb26) rfl) rfl ?_
        refine c_p (r_mv rfl) rfl ?_
        rcases Bool.eq_false_or_eq_true y27 with hb29 | hb29
        · replace h := itT hb29 h
          refine nx (gd rfl rfl hb29 (sp (r_mv rfl) rfl ?_))
          refine nx (gd rfl rfl hb29 (sp (r_i rfl rfl rfl) rfl ?_))
          refine c_p (r_pT rfl hb29 rfl) rfl ?_
          refine c_p (r_mv rfl) rfl ?_
          rcases Bool.eq_false_or_eq_true (y13.1 == 12) with hb30 | hb30
          · replace h := itT hb30 h
            refine nx (gd rfl rfl hb30 (sp (r_mv rfl) rfl ?_))
            refine c_p (r_pT rfl hb30 rfl) rfl ?_
            refine c_p (r_mv rfl) rfl ?_
            rcases Bool.eq_false_or_eq_true y13.2.1 with hb31 | hb31
            · replace h := itT hb31 h
              refine nx (gd rfl rfl hb31 (sp (r_mv rfl) rfl ?_))
              refine c_p (r_pT rfl hb31 rfl) rfl ?_
              refine c_p (r_mv rfl) rfl ?_
              rcases Bool.eq_false_or_eq_true y13.2.2 with hb32 | hb32
              · replace h := itT hb32 h
                obtain ⟨y33, hy33, h⟩ := bs h
                refine nx (gd rfl rfl hb32 (t_ca (C19 _ _ hy33) Tryd.func19 nm19 rfl rfl rfl .nil (fun w Z hA => (V1 a0 hA (V1 a1 hA V0))) rfl fun t34 => ?_))
                refine nx (gd rfl rfl hb32 (sp (r_s rfl rfl rfl) rfl ?_))
                refine c_p (r_pT rfl hb32 rfl) rfl ?_
                refine c_p (r_as rfl) rfl ?_
                refine t_nil ?_
                refine t_then hK16 ?_
                refine t_ret ?_
                refine t_cS (u := el21) (t := ()) (shutsO_int .i64) hel21 (.cons e0 .nil) rfl (fun w Z hA => trivial) ?_
                exact ret1 rfl (v_t rfl) (t_leave (hQ _ (Option.some.inj h)) () rfl (fun w Z hA => V0) .nil)
              · replace h := itF hb32 h
                refine nx (pass rfl rfl hb32 rfl ?_)
                refine nx (pass rfl rfl hb32 rfl ?_)
                refine c_p (r_pF rfl hb32 rfl) rfl ?_
                refine c_p (r_as rfl) rfl ?_
                refine t_nil ?_
                refine t_then hK16 ?_
                refine t_ret ?_
                refine t_cS (u := el21) (t := ()) (shutsO_int .i64) hel21 (.cons e0 .nil) rfl (fun w Z hA => trivial) ?_
                exact ret1 rfl (v_t rfl) (t_leave (hQ _ (Option.some.inj h)) () rfl (fun w Z hA => V0) .nil)
            · replace h := itF hb31 h
              refine nx (pass rfl rfl hb31 rfl ?_)
              refine c_p (r_pF rfl hb31 rfl) rfl ?_
              refine c_p (r_mv rfl) rfl ?_
              refine nx (pass rfl rfl rfl rfl ?_)
              refine nx (pass rfl rfl rfl rfl ?_)
              refine c_p (r_pF rfl rfl rfl) rfl ?_
              refine c_p (r_as rfl) rfl ?_
              refine t_nil ?_
              refine t_then hK16 ?_
              refine t_ret ?_
              refine t_cS (u := el21) (t := ()) (shutsO_int .i64) hel21 (.cons e0 .nil) rfl (fun w Z hA => trivial) ?_
              exact ret1 rfl (v_t rfl) (t_leave (hQ _ (Option.some.inj h)) () rfl (fun w Z hA => V0) .nil)
          · replace h := itF hb30 h
            refine nx (pass rfl rfl hb30 rfl ?_)
            refine c_p (r_pF rfl hb30 rfl) rfl ?_
            refine c_p (r_mv rfl) rfl ?_
            refine nx (pass rfl rfl rfl rfl ?_)
            refine c_p (r_pF rfl rfl rfl) rfl ?_
            refine c_p (r_mv rfl) rfl ?_
            refine nx (pass rfl rfl rfl rfl ?_)
            refine nx (pass rfl rfl rfl rfl ?_)
            refine c_p (r_pF rfl rfl rfl) rfl ?_
            refine c_p (r_as rfl) rfl ?_
            refine t_nil ?_
            refine t_then hK16 ?_
            refine t_ret ?_
            refine t_cS (u := el21) (t := ()) (shutsO_int .i64) hel21 (.cons e0 .nil) rfl (fun w Z hA => trivial) ?_
            exact ret1 rfl (v_t rfl) (t_leave (hQ _ (Option.some.inj h)) () rfl (fun w Z hA => V0) .nil)
        · replace h := itF hb29 h
          refine nx (pass rfl rfl hb29 rfl ?_)
          refine nx (pass rfl rfl hb29 rfl ?_)
          refine c_p (r_pF rfl hb29 rfl) rfl ?_
          refine c_p (r_mv rfl) rfl ?_
          refine nx (pass rfl rfl rfl rfl ?_)
          refine c_p (r_pF rfl rfl rfl) rfl ?_
          refine c_p (r_mv rfl) rfl ?_
          refine nx (pass rfl rfl rfl rfl ?_)
          refine c_p (r_pF rfl rfl rfl) rfl ?_
          refine c_p (r_mv rfl) rfl ?_
          refine nx (pass rfl rfl rfl rfl ?_)
          refine nx (pass rfl rfl rfl rfl ?_)
          refine c_p (r_pF rfl rfl rfl) rfl ?_
          refine c_p (r_as rfl) rfl ?_
          refine t_nil ?_
          refine t_then hK16 ?_
          refine t_ret ?_
          refine t_cS (u := el21) (t := ()) (shutsO_int .i64) hel21 (.cons e0 .nil) rfl (fun w Z hA => trivial) ?_
          exact ret1 rfl (v_t rfl) (t_leave (hQ _ (Option.some.inj h)) () rfl (fun w Z hA => V0) .nil)
    · replace h := itF hb23 h
      refine nx (pass rfl rfl hb23 rfl ?_)
      refine nx (pass rfl rfl hb23 rfl ?_)
      refine nx (pass rfl rfl hb23 rfl ?_)
      refine c_p (r_pF rfl hb23 rfl) rfl ?_
      refine c_p (r_mv rfl) rfl ?_
      refine nx (pass rfl rfl rfl rfl ?_)
      refine nx (pass rfl rfl rfl rfl ?_)
      refine c_p (r_pF rfl rfl rfl) rfl ?_
      refine c_p (r_mv rfl) rfl ?_
      refine nx (pass rfl rfl rfl rfl ?_)
      refine nx (pass rfl rfl rfl rfl ?_)
      refine c_p (r_pF rfl rfl rfl) rfl ?_
      refine c_p (r_mv rfl) rfl ?_
      refine nx (pass rfl rfl rfl rfl ?_)
      refine c_p (r_pF rfl rfl rfl) rfl ?_
      refine c_p (r_mv rfl) rfl ?_
      refine nx (pass rfl rfl rfl rfl ?_)
      refine c_p (r_pF rfl rfl rfl) rfl ?_
      refine c_p (r_mv rfl) rfl ?_
      refine nx (pass rfl rfl rfl rfl ?_)
      refine nx (pass rfl rfl rfl rfl ?_)
      refine c_p (r_pF rfl rfl rfl) rfl ?_
      refine c_p (r_as rfl) rfl ?_
      refine t_nil ?_
      refine t_then hK16 ?_
      refine t_ret ?_
      refine t_cS (u := el21) (t := ()) (shutsO_int .i64) hel21 (.cons e0 .nil) rfl (fun w Z hA => trivial) ?_
      exact ret1 rfl (v_t rfl) (t_leave (hQ _ (Option.some.inj h)) () rfl (fun w Z hA => V0) .nil)
  · replace h := itF hb17 h
    refine nx (pass rfl rfl hb17 rfl ?_)
    refine nx (pass rfl rfl hb17 rfl ?_)
    refine nx (pass rfl rfl hb17 rfl ?_)
    refine nx (pass rfl rfl hb17 rfl ?_)
    refine c_p (r_pF rfl hb17 rfl) rfl ?_
    refine c_p (r_mv rfl) rfl ?_
    refine nx (pass rfl rfl rfl rfl ?_)
    refine nx (pass rfl rfl rfl rfl ?_)
    refine nx (pass rfl rfl rfl rfl ?_)
    refine c_p (r_pF rfl rfl rfl) rfl ?_
    refine c_p (r_mv rfl) rfl ?_
    refine nx (pass rfl rfl rfl rfl ?_)
    refine nx (pass rfl rfl rfl rfl ?_)
    refine c_p (r_pF rfl rfl rfl) rfl ?_
    refine c_p (r_mv rfl) rfl ?_
    refine nx (pass rfl rfl rfl rfl ?_)
    refine nx (pass rfl rfl rfl rfl ?_)
    refine c_p (r_pF rfl rfl rfl) rfl ?_
    refine c_p (r_mv rfl) rfl ?_
    refine nx (pass rfl rfl rfl rfl ?_)
    refine c_p (r_pF rfl rfl rfl) rfl ?_
    refine c_p (r_mv rfl) rfl ?_
    refine nx (pass rfl rfl rfl rfl ?_)
    refine c_p (r_pF rfl rfl rfl) rfl ?_
    refine c_p (r_mv rfl) rfl ?_
    refine nx (pass rfl rfl rfl rfl ?_)
    refine nx (pass rfl rfl rfl rfl ?_)
    refine c_p (r_pF rfl rfl rfl) rfl ?_
    refine c_p (r_as rfl) rfl ?_
    refine t_nil ?_
    refine t_then hK16 ?_
    refine t_ret ?_
    exact ret1 rfl (v_t rfl) (t_leave (hQ _ (Option.some.inj h)) () rfl (fun w Z hA => V0) .nil)
end Go.Proofs.YtgcigcbhilcgoaaDoor.Gx
