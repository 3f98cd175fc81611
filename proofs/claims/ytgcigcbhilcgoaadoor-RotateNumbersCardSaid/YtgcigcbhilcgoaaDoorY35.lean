/- Function 35, strconv.Atoi: what it answers as a plain function, and that the Go code comes to exactly that (where the plain function gives an answer). -/
import Derived.Test.YtgcigcbhilcgoaaDoorYT
import Derived.Test.YtgcigcbhilcgoaaDoorHLays
import Derived.Shelf.Strconv.Atoi
import Derived.Shelf.Strconv.ErrVar
import Derived.Lib.AtoiErrMem
import Derived.Lib.AtoiBound
set_option linter.unusedVariables false
set_option linter.unusedSimpArgs false
namespace Go.Proofs.YtgcigcbhilcgoaaDoor.Gx
open Go.Gx Go.RowKit
open Go.Shelf
/-! ### strconv.Atoi -/
def f_strconv_Atoi (z0 : ByteArray) : Option (Int × Bool) := ck (z0.size ≤ 18) <| some (match Lib.atoi z0.data.toList with | some n => (n, false) | none => (0, true))
set_option maxHeartbeats 4000000 in
theorem C35 (z0 : ByteArray) (r : Int × Bool) (h : f_strconv_Atoi z0 = some r) : FunG Tryd.prog 35 #[.string z0] [g_pow10, g_errs] [] (fun (N : Nat) => .tuple #[.int .i64 r.1, errV 87 r.2 N]) (fun _ => []) (fun _ => []) := by
  unfold f_strconv_Atoi at h
  obtain ⟨hc, h⟩ := ck_out h
  obtain rfl := Option.some.inj h
  refine funG_below fun w Z hZ hA => ?_
  obtain ⟨_, ⟨_, cs, hv, tp, p, he⟩, _⟩ := hA
  subst he
  cases ha : Lib.atoi z0.data.toList with
  | some n =>
    refine (Any.strconv_Atoi Tryd.laysAtoi z0 n hc ha w).mono ?_
    rintro e w' ⟨rfl, t, rfl⟩
    exact ⟨⟨0, rfl⟩, Lib.bytesWorld_below _ _ _⟩
  | none =>
    refine (Any.strconv_Atoi_err_var Tryd.laysAtoiC z0 hc ha tp p w hv).mono ?_
    rintro e w' ⟨N, rfl, _, _, hb⟩
    exact ⟨⟨N, rfl⟩, hb⟩
end Go.Proofs.YtgcigcbhilcgoaaDoor.Gx
