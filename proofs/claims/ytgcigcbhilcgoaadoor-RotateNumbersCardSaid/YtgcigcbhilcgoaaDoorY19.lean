/- Function 19, kaudit/rotate.Name: what it answers as a plain function, and that the Go code comes to exactly that (where the plain function gives an answer). -/
import Derived.Test.YtgcigcbhilcgoaaDoorYT
import Derived.Test.YtgcigcbhilcgoaaDoorY31
import Derived.Test.YtgcigcbhilcgoaaDoorY32
set_option linter.unusedVariables false
set_option linter.unusedSimpArgs false
namespace Go.Proofs.YtgcigcbhilcgoaaDoor.Gx
open Go.Gx Go.RowKit
/-! ### kaudit/rotate.Name: function 19 -/
def f_rotate_Name (z0 : Int) : Option (ByteArray) := if (decide (z0 < 1)) = true then (some (⟨#[]⟩ : ByteArray)) else (if (decide (z0 > 1000)) = true then (some (⟨#[]⟩ : ByteArray)) else ((f_strconv_Itoa z0).bind fun y15 => (f_strings_Repeat (⟨#[48]⟩ : ByteArray) (IntKind.wrap .i64 (4 - (y15.size : Int)))).bind fun y19 => ck ((⟨#[108, 111, 103, 45]⟩ : ByteArray).size + y19.size ≤ maxStr) <| ck (((⟨#[108, 111, 103, 45]⟩ : ByteArray) ++ y19).size + y15.size ≤ maxStr) <| some (((⟨#[108, 111, 103, 45]⟩ : ByteArray) ++ y19) ++ y15)))
set_option maxHeartbeats 4000000 in
set_option maxRecDepth 100000 in
theorem C19 (z0 : Int) (r : ByteArray) (h : f_rotate_Name z0 = some r) : FunG Tryd.prog 19 #[.int .i64 z0] [g_pow10, g_errs] [] (fun (_ : Unit) => .string r) (fun _ => []) (fun _ => []) := by
  unfold f_rotate_Name at h
  refine t_begin (args := [.int .i64 z0]) Tryd.func19 rfl Tryd.ntmps19 rfl fun c R hR => ?_
  have hQ : ∀ X, X = r → ∀ w2 (_ : Unit), PostG c.w0 w2 c.M c.Y [] [] → R (.returned (.string X)) w2 := fun X e => by subst e; exact hR
  refine t_seq fun K1 hK2 => ?_
  refine t_region ?_
  refine c_p (r_as rfl) rfl ?_
  refine t_nil ?_
  refine t_then hK2 ?_
  refine t_seq fun K3 hK4 => ?_
  refine t_seq fun K5 hK6 => ?_
  refine t_region ?_
  refine c_p (r_mv rfl) rfl ?_
  refine c_p (r_i rfl rfl rfl) rfl ?_
  refine c_p (r_mv rfl) rfl ?_
  rcases Bool.eq_false_or_eq_true (decide (z0 < 1)) with hb7 | hb7
  · replace h := itT hb7 h
    refine nx (pass rfl rfl hb7 rfl ?_)
    refine nx (pass rfl rfl hb7 rfl ?_)
    refine c_p (r_pT rfl hb7 rfl) rfl ?_
    refine t_nil ?_
    refine t_then hK6 ?_
    refine t_T rfl rfl ?_
    refine t_seq fun K8 hK9 => ?_
    refine t_region ?_
    refine c_p (r_as rfl) rfl ?_
    refine t_nil ?_
    refine t_then hK9 ?_
    refine t_ret ?_
    exact tr (ret1 rfl (v_t rfl) (t_leave (hQ _ (Option.some.inj h)) () rfl (fun w Z hA => V0) .nil))
  · replace h := itF hb7 h
    refine nx (gd rfl rfl hb7 (sp (r_mv rfl) rfl ?_))
    refine nx (gd rfl rfl hb7 (sp (r_i rfl rfl rfl) rfl ?_))
    refine c_p (r_pF rfl hb7 rfl) rfl ?_
    refine t_nil ?_
    refine t_then hK6 ?_
    rcases Bool.eq_false_or_eq_true (decide (z0 > 1000)) with hb10 | hb10
    · replace h := itT hb10 h
      refine t_T rfl hb10 ?_
      refine t_seq fun K11 hK12 => ?_
      refine t_region ?_
      refine c_p (r_as rfl) rfl ?_
      refine t_nil ?_
      refine t_then hK12 ?_
      refine t_ret ?_
      exact tr (ret1 rfl (v_t rfl) (t_leave (hQ _ (Option.some.inj h)) () rfl (fun w Z hA => V0) .nil))
    · replace h := itF hb10 h
      refine t_F rfl hb10 ?_
      refine t_skip ?_
      refine t_then hK4 ?_
      refine t_seq fun K13 hK14 => ?_
      refine t_region ?_
      refine c_p (r_mv rfl) rfl ?_
      obtain ⟨y15, hy15, h⟩ := bs h
      refine nx (t_ca (C31 _ _ hy15) Tryd.func31 nm31 rfl rfl rfl .nil (fun w Z hA => (V1 a0 hA (V1 a1 hA V0))) rfl fun t16 => ?_)
      refine c_p (r_as rfl) rfl ?_
      refine t_nil ?_
      refine t_then hK14 ?_
      refine t_seq fun K17 hK18 => ?_
      refine t_region ?_
      refine c_p (r_mv rfl) rfl ?_
      refine c_p (r_lenS Tryd.underlying9 rfl) rfl ?_
      refine c_p (r_i rfl rfl rfl) rfl ?_
      obtain ⟨y19, hy19, h⟩ := bs h
      refine nx (t_ca (C32 _ _ _ hy19) Tryd.func32 nm32 rfl rfl rfl .nil (fun w Z hA => (V1 a0 hA (V1 a1 hA V0))) rfl fun t20 => ?_)
      obtain ⟨hc21, h⟩ := ck_out h
      refine c_p (r_cat rfl rfl hc21) rfl ?_
      refine c_p (r_mv rfl) rfl ?_
      obtain ⟨hc22, h⟩ := ck_out h
      refine c_p (r_cat rfl rfl hc22) rfl ?_
      refine c_p (r_as rfl) rfl ?_
      refine t_nil ?_
      refine t_then hK18 ?_
      refine t_ret ?_
      exact ret1 rfl (v_t rfl) (t_leave (hQ _ (Option.some.inj h)) () rfl (fun w Z hA => V0) .nil)
end Go.Proofs.YtgcigcbhilcgoaaDoor.Gx
