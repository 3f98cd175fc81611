/- Function 31, strconv.Itoa: what it answers as a plain function, and that the Go code comes to exactly that (where the plain function gives an answer). -/
import Derived.Test.YtgcigcbhilcgoaaDoorYT
import Derived.Test.YtgcigcbhilcgoaaDoorHLays
import Derived.Shelf.Strconv.Itoa3
set_option linter.unusedVariables false
set_option linter.unusedSimpArgs false
namespace Go.Proofs.YtgcigcbhilcgoaaDoor.Gx
open Go.Gx Go.RowKit
open Go.Shelf
/-! ### strconv.Itoa -/
def f_strconv_Itoa (z0 : Int) : Option ByteArray := ck (-9223372036854775808 ≤ z0 ∧ z0 ≤ 9223372036854775807) <| some ⟨(Lib.itoa z0).toArray⟩
set_option maxHeartbeats 4000000 in
theorem C31 (z0 : Int) (r : ByteArray) (h : f_strconv_Itoa z0 = some r) : FunG Tryd.prog 31 #[.int .i64 z0] [g_pow10, g_errs] [] (fun (_ : Unit) => .string r) (fun _ => []) (fun _ => []) := by
  unfold f_strconv_Itoa at h
  obtain ⟨hc, h⟩ := ck_out h
  obtain rfl := Option.some.inj h
  refine funG_below fun w Z hZ hA => ?_
  obtain ⟨⟨_, cs, hv, he⟩, _⟩ := hA
  refine (Any.strconv_Itoa Tryd.laysItoa z0 hc.1 hc.2 w (by unfold Lib.TabIs; rw [hv, he])).mono ?_
  rintro e w' ⟨rfl, k, os, rfl⟩
  exact ⟨⟨(), rfl⟩, grow_below w k os⟩
end Go.Proofs.YtgcigcbhilcgoaaDoor.Gx
