/- Function 21, kaudit/rotate.Number: what it answers as a plain function, and that the Go code comes to exactly that (where the plain function gives an answer). -/
import Derived.Test.YtgcigcbhilcgoaaDoorYT
import Derived.Test.YtgcigcbhilcgoaaDoorY19
import Derived.Test.YtgcigcbhilcgoaaDoorY33
import Derived.Test.YtgcigcbhilcgoaaDoorY34
import Derived.Test.YtgcigcbhilcgoaaDoorY35
set_option linter.unusedVariables false
set_option linter.unusedSimpArgs false
namespace Go.Proofs.YtgcigcbhilcgoaaDoor.Gx
open Go.Gx Go.RowKit
/-! ### kaudit/rotate.Number: function 21 -/
def f_rotate_Number (z0 : ByteArray) : Option (Int × Bool × Bool) := (f_strings_CutSuffix z0 (⟨#[46, 122]⟩ : ByteArray)).bind fun y5 => (f_strings_CutPrefix y5.1 (⟨#[108, 111, 103, 45]⟩ : ByteArray)).bind fun y9 => if y9.2 = true then (if ((y9.1.size : Int) != 4) = true then (some (0, false, false)) else ((f_strconv_Atoi y9.1).bind fun y23 => if y23.2 = true then (some (0, false, false)) else (if (decide (y23.1 < 1)) = true then (some (0, false, false)) else ((f_rotate_Name y23.1).bind fun y31 => if (y31.toList == y5.1.toList) = true then (some (y23.1, true, y5.2)) else (some (0, false, false)))))) else (some (0, false, false))
set_option maxHeartbeats 4000000 in
set_option maxRecDepth 100000 in
theorem C21 (z0 : ByteArray) (r : Int × Bool × Bool) (h : f_rotate_Number z0 = some r) : FunG Tryd.prog 21 #[.string z0] [g_pow10, g_errs] [] (fun (_ : Unit) => .tuple #[.int .i64 r.1, .bool r.2.1, .bool r.2.2]) (fun _ => []) (fun _ => []) := by
  unfold f_rotate_Number at h
  refine t_begin (args := [.string z0]) Tryd.func21 rfl Tryd.ntmps21 rfl fun c R hR => ?_
  have hQ : ∀ X, X = r → ∀ w2 (_ : Unit), PostG c.w0 w2 c.M c.Y [] [] → R (.returned (.tuple #[.int .i64 X.1, .bool X.2.1, .bool X.2.2])) w2 := fun X e => by subst e; exact hR
  refine t_seq fun K1 hK2 => ?_
  refine t_region ?_
  refine c_p (r_as rfl) rfl ?_
  refine c_p (r_as rfl) rfl ?_
  refine c_p (r_as rfl) rfl ?_
  refine t_nil ?_
  refine t_then hK2 ?_
  refine t_seq fun K3 hK4 => ?_
  refine t_region ?_
  refine c_p (r_mv rfl) rfl ?_
  obtain ⟨y5, hy5, h⟩ := bs h
  refine nx (t_ca (C33 _ _ _ hy5) Tryd.func33 nm33 rfl rfl rfl .nil (fun w Z hA => (V1 a0 hA (V1 a1 hA V0))) rfl fun t6 => ?_)
  refine c_p (r_mv rfl) rfl ?_
  refine c_p (r_ex rfl rfl) rfl ?_
  refine c_p (r_ex rfl rfl) rfl ?_
  refine c_p (r_as rfl) rfl ?_
  refine c_p (r_as rfl) rfl ?_
  refine t_nil ?_
  refine t_then hK4 ?_
  refine t_seq fun K7 hK8 => ?_
  refine t_region ?_
  refine c_p (r_mv rfl) rfl ?_
  obtain ⟨y9, hy9, h⟩ := bs h
  refine nx (t_ca (C34 _ _ _ hy9) Tryd.func34 nm34 rfl rfl rfl .nil (fun w Z hA => (V1 a0 hA (V1 a1 hA V0))) rfl fun t10 => ?_)
  refine c_p (r_mv rfl) rfl ?_
  refine c_p (r_ex rfl rfl) rfl ?_
  refine c_p (r_ex rfl rfl) rfl ?_
  refine c_p (r_as rfl) rfl ?_
  refine c_p (r_as rfl) rfl ?_
  refine t_nil ?_
  refine t_then hK8 ?_
  refine t_seq fun K11 hK12 => ?_
  refine t_seq fun K13 hK14 => ?_
  refine t_region ?_
  refine c_p (r_mv rfl) rfl ?_
  refine c_p (r_not rfl) rfl ?_
  refine c_p (r_mv rfl) rfl ?_
  rcases Bool.eq_false_or_eq_true y9.2 with hb15 | hb15
  · replace h := itT hb15 h
    refine nx (gd rfl rfl (congrArg Bool.not hb15) (sp (r_mv rfl) rfl ?_))
    refine nx (gd rfl rfl (congrArg Bool.not hb15) (sp (r_lenS Tryd.underlying9 rfl) rfl ?_))
    refine nx (gd rfl rfl (congrArg Bool.not hb15) (sp (r_i rfl rfl rfl) rfl ?_))
    refine c_p (r_pF rfl (congrArg Bool.not hb15) rfl) rfl ?_
    refine t_nil ?_
    refine t_then hK14 ?_
    rcases Bool.eq_false_or_eq_true ((y9.1.size : Int) != 4) with hb16 | hb16
    · replace h := itT hb16 h
      refine t_T rfl hb16 ?_
      refine t_seq fun K17 hK18 => ?_
      refine t_region ?_
      refine c_p (r_as rfl) rfl ?_
      refine c_p (r_as rfl) rfl ?_
      refine c_p (r_as rfl) rfl ?_
      refine t_nil ?_
      refine t_then hK18 ?_
      refine t_ret ?_
      exact tr (ret3 rfl (v_t rfl) (v_t rfl) (v_t rfl) (t_leave (hQ _ (Option.some.inj h)) () rfl (fun w Z hA => V0) .nil))
    · replace h := itF hb16 h
      refine t_F rfl hb16 ?_
      refine t_skip ?_
      refine t_then hK12 ?_
      refine t_seq fun K21 hK22 => ?_
      refine t_region ?_
      refine c_p (r_mv rfl) rfl ?_
      obtain ⟨y23, hy23, h⟩ := bs h
      refine nx (t_ca (C35 _ _ hy23) Tryd.func35 nm35 rfl rfl rfl .nil (fun w Z hA => (V1 a0 hA (V1 a1 hA V0))) rfl fun t24 => ?_)
      refine c_p (r_mv rfl) rfl ?_
      refine c_p (r_ex rfl rfl) rfl ?_
      refine c_p (r_ex rfl rfl) rfl ?_
      refine c_p (r_as rfl) rfl ?_
      refine c_p (r_as rfl) rfl ?_
      refine t_nil ?_
      refine t_then hK22 ?_
      refine t_seq fun K25 hK26 => ?_
      refine t_seq fun K27 hK28 => ?_
      refine t_region ?_
      refine c_p (r_mv rfl) rfl ?_
      refine c_p (r_neErr Tryd.underlying60 rfl) rfl ?_
      refine c_p (r_mv rfl) rfl ?_
      rcases Bool.eq_false_or_eq_true y23.2 with hb29 | hb29
      · replace h := itT hb29 h
        refine nx (pass rfl rfl hb29 rfl ?_)
        refine nx (pass rfl rfl hb29 rfl ?_)
        refine c_p (r_pT rfl hb29 rfl) rfl ?_
        refine c_p (r_mv rfl) rfl ?_
        refine nx (pass rfl rfl rfl rfl ?_)
        refine nx (pass rfl rfl rfl rfl ?_)
        refine nx (pass rfl rfl rfl rfl ?_)
        refine nx (pass rfl rfl rfl rfl ?_)
        refine c_p (r_pT rfl rfl rfl) rfl ?_
        refine t_nil ?_
        refine t_then hK28 ?_
        refine t_T rfl rfl ?_
        refine t_seq fun K33 hK34 => ?_
        refine t_region ?_
        refine c_p (r_as rfl) rfl ?_
        refine c_p (r_as rfl) rfl ?_
        refine c_p (r_as rfl) rfl ?_
        refine t_nil ?_
        refine t_then hK34 ?_
        refine t_ret ?_
        exact tr (ret3 rfl (v_t rfl) (v_t rfl) (v_t rfl) (t_leave (hQ _ (Option.some.inj h)) () rfl (fun w Z hA => V0) .nil))
      · replace h := itF hb29 h
        refine nx (gd rfl rfl hb29 (sp (r_mv rfl) rfl ?_))
        refine nx (gd rfl rfl hb29 (sp (r_i rfl rfl rfl) rfl ?_))
        refine c_p (r_pF rfl hb29 rfl) rfl ?_
        refine c_p (r_mv rfl) rfl ?_
        rcases Bool.eq_false_or_eq_true (decide (y23.1 < 1)) with hb30 | hb30
        · replace h := itT hb30 h
          refine nx (pass rfl rfl hb30 rfl ?_)
          refine nx (pass rfl rfl hb30 rfl ?_)
          refine nx (pass rfl rfl hb30 rfl ?_)
          refine nx (pass rfl rfl hb30 rfl ?_)
          refine c_p (r_pT rfl hb30 rfl) rfl ?_
          refine t_nil ?_
          refine t_then hK28 ?_
          refine t_T rfl rfl ?_
          refine t_seq fun K35 hK36 => ?_
          refine t_region ?_
          refine c_p (r_as rfl) rfl ?_
          refine c_p (r_as rfl) rfl ?_
          refine c_p (r_as rfl) rfl ?_
          refine t_nil ?_
          refine t_then hK36 ?_
          refine t_ret ?_
          exact tr (ret3 rfl (v_t rfl) (v_t rfl) (v_t rfl) (t_leave (hQ _ (Option.some.inj h)) () rfl (fun w Z hA => V0) .nil))
        · replace h := itF hb30 h
          refine nx (gd rfl rfl hb30 (sp (r_mv rfl) rfl ?_))
          obtain ⟨y31, hy31, h⟩ := bs h
          refine nx (gd rfl rfl hb30 (t_ca (C19 _ _ hy31) Tryd.func19 nm19 rfl rfl rfl .nil (fun w Z hA => (V1 a0 hA (V1 a1 hA V0))) rfl fun t32 => ?_))
          refine nx (gd rfl rfl hb30 (sp (r_mv rfl) rfl ?_))
          refine nx (gd rfl rfl hb30 (sp (r_s rfl rfl rfl) rfl ?_))
          refine c_p (r_pF rfl hb30 rfl) rfl ?_
          refine t_nil ?_
          refine t_then hK28 ?_
          rcases Bool.eq_false_or_eq_true (y31.toList == y5.1.toList) with hb37 | hb37
          · replace h := itT hb37 h
            refine t_F rfl (congrArg Bool.not hb37) ?_
            refine t_skip ?_
            refine t_then hK26 ?_
            refine t_seq fun K40 hK41 => ?_
            refine t_region ?_
            refine c_p (r_mv rfl) rfl ?_
            refine c_p (r_mv rfl) rfl ?_
            refine c_p (r_as rfl) rfl ?_
            refine c_p (r_as rfl) rfl ?_
            refine c_p (r_as rfl) rfl ?_
            refine t_nil ?_
            refine t_then hK41 ?_
            refine t_ret ?_
            exact ret3 rfl (v_t rfl) (v_t rfl) (v_t rfl) (t_leave (hQ _ (Option.some.inj h)) () rfl (fun w Z hA => V0) .nil)
          · replace h := itF hb37 h
            refine t_T rfl (congrArg Bool.not hb37) ?_
            refine t_seq fun K38 hK39 => ?_
            refine t_region ?_
            refine c_p (r_as rfl) rfl ?_
            refine c_p (r_as rfl) rfl ?_
            refine c_p (r_as rfl) rfl ?_
            refine t_nil ?_
            refine t_then hK39 ?_
            refine t_ret ?_
            exact tr (ret3 rfl (v_t rfl) (v_t rfl) (v_t rfl) (t_leave (hQ _ (Option.some.inj h)) () rfl (fun w Z hA => V0) .nil))
  · replace h := itF hb15 h
    refine nx (pass rfl rfl (congrArg Bool.not hb15) rfl ?_)
    refine nx (pass rfl rfl (congrArg Bool.not hb15) rfl ?_)
    refine nx (pass rfl rfl (congrArg Bool.not hb15) rfl ?_)
    refine c_p (r_pT rfl (congrArg Bool.not hb15) rfl) rfl ?_
    refine t_nil ?_
    refine t_then hK14 ?_
    refine t_T rfl rfl ?_
    refine t_seq fun K19 hK20 => ?_
    refine t_region ?_
    refine c_p (r_as rfl) rfl ?_
    refine c_p (r_as rfl) rfl ?_
    refine c_p (r_as rfl) rfl ?_
    refine t_nil ?_
    refine t_then hK20 ?_
    refine t_ret ?_
    exact tr (ret3 rfl (v_t rfl) (v_t rfl) (v_t rfl) (t_leave (hQ _ (Option.some.inj h)) () rfl (fun w Z hA => V0) .nil))
end Go.Proofs.YtgcigcbhilcgoaaDoor.Gx
