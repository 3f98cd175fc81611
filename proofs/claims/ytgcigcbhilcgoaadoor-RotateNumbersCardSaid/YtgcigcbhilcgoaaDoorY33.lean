/- Function 33, strings.CutSuffix: what it answers as a plain function, and that the Go code comes to exactly that (where the plain function gives an answer). -/
import Derived.Test.YtgcigcbhilcgoaaDoorYT
import Derived.Test.YtgcigcbhilcgoaaDoorY46
set_option linter.unusedVariables false
set_option linter.unusedSimpArgs false
namespace Go.Proofs.YtgcigcbhilcgoaaDoor.Gx
open Go.Gx Go.RowKit
/-! ### strings.CutSuffix: function 33 -/
def f_strings_CutSuffix (z0 : ByteArray) (z1 : ByteArray) : Option (ByteArray × Bool) := (f_stringslite_CutSuffix z0 z1).bind fun y5 => some (y5.1, y5.2)
set_option maxHeartbeats 4000000 in
set_option maxRecDepth 100000 in
theorem C33 (z0 : ByteArray) (z1 : ByteArray) (r : ByteArray × Bool) (h : f_strings_CutSuffix z0 z1 = some r) : FunG Tryd.prog 33 #[.string z0, .string z1] [g_pow10, g_errs] [] (fun (_ : Unit) => .tuple #[.string r.1, .bool r.2]) (fun _ => []) (fun _ => []) := by
  unfold f_strings_CutSuffix at h
  refine t_begin (args := [.string z0, .string z1]) Tryd.func33 rfl Tryd.ntmps33 rfl fun c R hR => ?_
  have hQ : ∀ X, X = r → ∀ w2 (_ : Unit), PostG c.w0 w2 c.M c.Y [] [] → R (.returned (.tuple #[.string X.1, .bool X.2])) w2 := fun X e => by subst e; exact hR
  refine t_seq fun K1 hK2 => ?_
  refine t_region ?_
  refine c_p (r_as rfl) rfl ?_
  refine c_p (r_as rfl) rfl ?_
  refine t_nil ?_
  refine t_then hK2 ?_
  refine t_seq fun K3 hK4 => ?_
  refine t_region ?_
  refine c_p (r_mv rfl) rfl ?_
  refine c_p (r_mv rfl) rfl ?_
  obtain ⟨y5, hy5, h⟩ := bs h
  refine nx (t_ca (C46 _ _ _ hy5) Tryd.func46 nm46 rfl rfl rfl .nil (fun w Z hA => (V1 a0 hA (V1 a1 hA V0))) rfl fun t6 => ?_)
  refine c_p (r_ex rfl rfl) rfl ?_
  refine c_p (r_ex rfl rfl) rfl ?_
  refine c_p (r_as rfl) rfl ?_
  refine c_p (r_as rfl) rfl ?_
  refine t_nil ?_
  refine t_then hK4 ?_
  refine t_ret ?_
  exact ret2 rfl (v_t rfl) (v_t rfl) (t_leave (hQ _ (Option.some.inj h)) () rfl (fun w Z hA => V0) .nil)
end Go.Proofs.YtgcigcbhilcgoaaDoor.Gx
