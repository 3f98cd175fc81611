/- Function 38, slices.Compact[[]int,int]: what it answers as a plain function, and that the Go code comes to exactly that (where the plain function gives an answer). -/
import Derived.Test.YtgcigcbhilcgoaaDoorYT
import Derived.Test.YtgcigcbhilcgoaaDoorHLays
import Derived.Shelf.Slices.CompactI
set_option linter.unusedVariables false
set_option linter.unusedSimpArgs false
namespace Go.Proofs.YtgcigcbhilcgoaaDoor.Gx
open Go.Gx Go.RowKit
open Go.Shelf
/-! ### slices.Compact at []int -/
def f_slices_Compact_int_int (z0 : List Int) : Option (List Int) := ck (z0.length ≤ 4611686018427387904) <| some (Lib.compact z0)
theorem compact_le (z0 : List Int) : (Lib.compact z0).length ≤ z0.length := by
  unfold Lib.compact Lib.compactUpTo
  rw [List.length_map]
  exact Nat.le_trans (List.length_filter_le _ _) (by simp)
set_option maxHeartbeats 4000000 in
theorem C38 (z0 : List Int) (p : Option Addr) (m c : Nat) (r : List Int) (h : f_slices_Compact_int_int z0 = some r) : FunG Tryd.prog 38 #[.slice p m c] [] [[row 3 (kInt .i64) z0 (.slice p m c)]] (fun t : Option Addr × Nat × Nat => .slice t.1 t.2.1 t.2.2) (fun _ => []) (fun t => [[row 3 (kInt .i64) r (.slice t.1 t.2.1 t.2.2)]]) := by
  unfold f_slices_Compact_int_int at h
  obtain ⟨hc, h⟩ := ck_out h
  obtain rfl := Option.some.inj h
  have hl := compact_le z0
  refine funG_put (ys := Lib.compact z0 ++ List.replicate (z0.length - (Lib.compact z0).length) 0) (zs := Lib.compact z0) (fun hx hm w => ?_) (fun hm g off w hp hx hH hg hcap => ?_) (fun _ => ⟨by simp; omega, _, rfl⟩)
  · subst hx hm
    refine (Any.slices_Compact_int_empty Tryd.laysCompact p c w).mono ?_
    rintro e w' ⟨rfl, rfl⟩
    exact ⟨⟨(p, 0, c), rfl, rfl⟩, rfl, rfl⟩
  · subst hm hp
    refine (Any.slices_Compact_int Tryd.laysCompact g off c z0 w hH (by omega) hcap).mono ?_
    rintro e w' ⟨rfl, n, rfl⟩
    exact ⟨⟨(some ⟨g, off, none⟩, _, c), rfl, rfl⟩, n, #[], by unfold Sort.grow; rw [Array.append_empty]⟩
end Go.Proofs.YtgcigcbhilcgoaaDoor.Gx
