/- Function 47, internal/stringslite.CutPrefix: what it answers as a plain function, and that the Go code comes to exactly that (where the plain function gives an answer). -/
import Derived.Test.YtgcigcbhilcgoaaDoorYT
import Derived.Test.YtgcigcbhilcgoaaDoorY55
set_option linter.unusedVariables false
set_option linter.unusedSimpArgs false
namespace Go.Proofs.YtgcigcbhilcgoaaDoor.Gx
open Go.Gx Go.RowKit
/-! ### internal/stringslite.CutPrefix: function 47 -/
def f_stringslite_CutPrefix (z0 : ByteArray) (z1 : ByteArray) : Option (ByteArray × Bool) := (f_stringslite_HasPrefix z0 z1).bind fun y7 => if y7 = true then ((subStr z0 (z1.size : Int) (z0.size : Int)).bind fun s14 => some (s14, true)) else (some (z0, false))
set_option maxHeartbeats 4000000 in
set_option maxRecDepth 100000 in
theorem C47 (z0 : ByteArray) (z1 : ByteArray) (r : ByteArray × Bool) (h : f_stringslite_CutPrefix z0 z1 = some r) : FunG Tryd.prog 47 #[.string z0, .string z1] [g_pow10, g_errs] [] (fun (_ : Unit) => .tuple #[.string r.1, .bool r.2]) (fun _ => []) (fun _ => []) := by
  unfold f_stringslite_CutPrefix at h
  refine t_begin (args := [.string z0, .string z1]) Tryd.func47 rfl Tryd.ntmps47 rfl fun c R hR => ?_
  have hQ : ∀ X, X = r → ∀ w2 (_ : Unit), PostG c.w0 w2 c.M c.Y [] [] → R (.returned (.tuple #[.string X.1, .bool X.2])) w2 := fun X e => by subst e; exact hR
  refine t_seq fun K1 hK2 => ?_
  refine t_region ?_
  refine c_p (r_as rfl) rfl ?_
  refine c_p (r_as rfl) rfl ?_
  refine t_nil ?_
  refine t_then hK2 ?_
  refine t_seq fun K3 hK4 => ?_
  refine t_seq fun K5 hK6 => ?_
  refine t_region ?_
  refine c_p (r_mv rfl) rfl ?_
  refine c_p (r_mv rfl) rfl ?_
  obtain ⟨y7, hy7, h⟩ := bs h
  refine nx (t_ca (C55 _ _ _ hy7) Tryd.func55 nm55 rfl rfl rfl .nil (fun w Z hA => (V1 a0 hA (V1 a1 hA V0))) rfl fun t8 => ?_)
  refine c_p (r_not rfl) rfl ?_
  refine t_nil ?_
  refine t_then hK6 ?_
  rcases Bool.eq_false_or_eq_true y7 with hb9 | hb9
  · replace h := itT hb9 h
    refine t_F rfl (congrArg Bool.not hb9) ?_
    refine t_skip ?_
    refine t_then hK4 ?_
    refine t_seq fun K12 hK13 => ?_
    refine t_region ?_
    refine c_p (r_mv rfl) rfl ?_
    refine c_p (r_mv rfl) rfl ?_
    refine c_p (r_lenS Tryd.underlying9 rfl) rfl ?_
    obtain ⟨s14, hs14, h⟩ := bs h
    refine c_p (r_subF Tryd.underlying9 rfl rfl hs14) rfl ?_
    refine c_p (r_as rfl) rfl ?_
    refine c_p (r_as rfl) rfl ?_
    refine t_nil ?_
    refine t_then hK13 ?_
    refine t_ret ?_
    exact ret2 rfl (v_t rfl) (v_t rfl) (t_leave (hQ _ (Option.some.inj h)) () rfl (fun w Z hA => V0) .nil)
  · replace h := itF hb9 h
    refine t_T rfl (congrArg Bool.not hb9) ?_
    refine t_seq fun K10 hK11 => ?_
    refine t_region ?_
    refine c_p (r_mv rfl) rfl ?_
    refine c_p (r_as rfl) rfl ?_
    refine c_p (r_as rfl) rfl ?_
    refine t_nil ?_
    refine t_then hK11 ?_
    refine t_ret ?_
    exact tr (ret2 rfl (v_t rfl) (v_t rfl) (t_leave (hQ _ (Option.some.inj h)) () rfl (fun w Z hA => V0) .nil))
end Go.Proofs.YtgcigcbhilcgoaaDoor.Gx
