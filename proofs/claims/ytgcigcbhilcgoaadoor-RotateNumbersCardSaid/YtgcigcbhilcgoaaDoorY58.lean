/- Function 58, internal/stringslite.HasSuffix: what it answers as a plain function, and that the Go code comes to exactly that (where the plain function gives an answer). -/
import Derived.Test.YtgcigcbhilcgoaaDoorYT
set_option linter.unusedVariables false
set_option linter.unusedSimpArgs false
namespace Go.Proofs.YtgcigcbhilcgoaaDoor.Gx
open Go.Gx Go.RowKit
/-! ### internal/stringslite.HasSuffix: function 58 -/
def f_stringslite_HasSuffix (z0 : ByteArray) (z1 : ByteArray) : Option (Bool) := if (decide ((z0.size : Int) ≥ (z1.size : Int))) = true then ((subStr z0 (IntKind.wrap .i64 ((z0.size : Int) - (z1.size : Int))) (z0.size : Int)).bind fun s6 => some (s6.toList == z1.toList)) else (some false)
set_option maxHeartbeats 4000000 in
set_option maxRecDepth 100000 in
theorem C58 (z0 : ByteArray) (z1 : ByteArray) (r : Bool) (h : f_stringslite_HasSuffix z0 z1 = some r) : FunG Tryd.prog 58 #[.string z0, .string z1] [g_pow10, g_errs] [] (fun (_ : Unit) => .bool r) (fun _ => []) (fun _ => []) := by
  unfold f_stringslite_HasSuffix at h
  refine t_begin (args := [.string z0, .string z1]) Tryd.func58 rfl Tryd.ntmps58 rfl fun c R hR => ?_
  have hQ : ∀ X, X = r → ∀ w2 (_ : Unit), PostG c.w0 w2 c.M c.Y [] [] → R (.returned (.bool X)) w2 := fun X e => by subst e; exact hR
  refine t_seq fun K1 hK2 => ?_
  refine t_region ?_
  refine c_p (r_as rfl) rfl ?_
  refine t_nil ?_
  refine t_then hK2 ?_
  refine t_seq fun K3 hK4 => ?_
  refine t_region ?_
  refine c_p (r_mv rfl) rfl ?_
  refine c_p (r_lenS Tryd.underlying9 rfl) rfl ?_
  refine c_p (r_mv rfl) rfl ?_
  refine c_p (r_lenS Tryd.underlying9 rfl) rfl ?_
  refine c_p (r_i rfl rfl rfl) rfl ?_
  refine c_p (r_mv rfl) rfl ?_
  rcases Bool.eq_false_or_eq_true (decide ((z0.size : Int) ≥ (z1.size : Int))) with hb5 | hb5
  · replace h := itT hb5 h
    refine nx (gd rfl rfl hb5 (sp (r_mv rfl) rfl ?_))
    refine nx (gd rfl rfl hb5 (sp (r_mv rfl) rfl ?_))
    refine nx (gd rfl rfl hb5 (sp (r_lenS Tryd.underlying9 rfl) rfl ?_))
    refine nx (gd rfl rfl hb5 (sp (r_mv rfl) rfl ?_))
    refine nx (gd rfl rfl hb5 (sp (r_lenS Tryd.underlying9 rfl) rfl ?_))
    refine nx (gd rfl rfl hb5 (sp (r_i rfl rfl rfl) rfl ?_))
    obtain ⟨s6, hs6, h⟩ := bs h
    refine nx (gd rfl rfl hb5 (sp (r_subF Tryd.underlying9 rfl rfl hs6) rfl ?_))
    refine nx (gd rfl rfl hb5 (sp (r_mv rfl) rfl ?_))
    refine nx (gd rfl rfl hb5 (sp (r_s rfl rfl rfl) rfl ?_))
    refine c_p (r_pT rfl hb5 rfl) rfl ?_
    refine c_p (r_as rfl) rfl ?_
    refine t_nil ?_
    refine t_then hK4 ?_
    refine t_ret ?_
    exact ret1 rfl (v_t rfl) (t_leave (hQ _ (Option.some.inj h)) () rfl (fun w Z hA => V0) .nil)
  · replace h := itF hb5 h
    refine nx (pass rfl rfl hb5 rfl ?_)
    refine nx (pass rfl rfl hb5 rfl ?_)
    refine nx (pass rfl rfl hb5 rfl ?_)
    refine nx (pass rfl rfl hb5 rfl ?_)
    refine nx (pass rfl rfl hb5 rfl ?_)
    refine nx (pass rfl rfl hb5 rfl ?_)
    refine nx (pass rfl rfl hb5 rfl ?_)
    refine nx (pass rfl rfl hb5 rfl ?_)
    refine nx (pass rfl rfl hb5 rfl ?_)
    refine c_p (r_pF rfl hb5 rfl) rfl ?_
    refine c_p (r_as rfl) rfl ?_
    refine t_nil ?_
    refine t_then hK4 ?_
    refine t_ret ?_
    exact ret1 rfl (v_t rfl) (t_leave (hQ _ (Option.some.inj h)) () rfl (fun w Z hA => V0) .nil)
end Go.Proofs.YtgcigcbhilcgoaaDoor.Gx
