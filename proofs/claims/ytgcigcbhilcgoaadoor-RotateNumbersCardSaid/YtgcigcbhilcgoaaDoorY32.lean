/- Function 32, strings.Repeat: what it answers as a plain function, and that the Go code comes to exactly that (where the plain function gives an answer). -/
import Derived.Test.YtgcigcbhilcgoaaDoorYT
import Derived.Test.YtgcigcbhilcgoaaDoorHLays
import Derived.Shelf.Strings.Repeat
import Derived.Lib.Agree
set_option linter.unusedVariables false
set_option linter.unusedSimpArgs false
namespace Go.Proofs.YtgcigcbhilcgoaaDoor.Gx
open Go.Gx Go.RowKit
open Go.Shelf
theorem extraRepeat : Builder.Extra Tryd.prog Tryd.laysRepeat_ren where
  sizeBuilder := by kernel_rfl
  liesBuilder := by kernel_rfl
  t5 := Tryd.laysRepeat.t5
  a5 := Tryd.laysRepeat.a5
  z5 := Tryd.laysRepeat.z5
  v5 := Tryd.laysRepeat.v5
  infoByte := by kernel_rfl
  cellsByte := by kernel_rfl
  sizeByte := by kernel_rfl
  neB5 := by decide
/-! ### strings.Repeat -/
def f_strings_Repeat (z0 : ByteArray) (z1 : Int) : Option ByteArray := ck (0 ≤ z1 ∧ z1 ≤ 9223372036854775807 ∧ z0.size * z1.toNat ≤ 140737488355328) <| some ⟨(Lib.repeatL z0.data.toList z1.toNat).toArray⟩
set_option maxHeartbeats 4000000 in
theorem C32 (z0 : ByteArray) (z1 : Int) (r : ByteArray) (h : f_strings_Repeat z0 z1 = some r) : FunG Tryd.prog 32 #[.string z0, .int .i64 z1] [g_pow10, g_errs] [] (fun (_ : Unit) => .string r) (fun _ => []) (fun _ => []) := by
  unfold f_strings_Repeat at h
  obtain ⟨hc, h⟩ := ck_out h
  obtain rfl := Option.some.inj h
  obtain ⟨c, rfl⟩ := Int.eq_ofNat_of_zero_le hc.1
  refine funG_below fun w Z hZ hA => ?_
  refine (Any.strings_Repeat Tryd.laysRepeat extraRepeat z0 c w (by omega) (by simpa using hc.2.2)).mono ?_
  rintro e w' ⟨rfl, hb⟩
  exact ⟨⟨(), rfl⟩, hb⟩
end Go.Proofs.YtgcigcbhilcgoaaDoor.Gx
