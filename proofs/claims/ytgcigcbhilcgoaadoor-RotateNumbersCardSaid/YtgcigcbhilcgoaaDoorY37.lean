/- Function 37, slices.Sort[[]int,int]: what it answers as a plain function, and that the Go code comes to exactly that (where the plain function gives an answer). -/
import Derived.Test.YtgcigcbhilcgoaaDoorYT
import Derived.Test.YtgcigcbhilcgoaaDoorHLays
import Derived.Shelf.Sort.Plain
import Derived.Shelf.Slices.In.SortNone
set_option linter.unusedVariables false
set_option linter.unusedSimpArgs false
namespace Go.Proofs.YtgcigcbhilcgoaaDoor.Gx
open Go.Gx Go.RowKit
open Go.Shelf
/-! ### slices.Sort at []int -/
def f_slices_Sort_int_int (z0 : List Int) : Option (List Int) := ck (z0.length < 4611686018427387904) <| some (z0.mergeSort fun x y => decide (x ≤ y))
set_option maxHeartbeats 4000000 in
theorem C37 (z0 : List Int) (p : Option Addr) (m c : Nat) (r : List Int) (h : f_slices_Sort_int_int z0 = some r) : FunG Tryd.prog 37 #[.slice p m c] [] [[row 3 (kInt .i64) z0 (.slice p m c)]] (fun (_ : Unit) => .tuple #[]) (fun _ => []) (fun _ => [[row 3 (kInt .i64) r (.slice p m c)]]) := by
  unfold f_slices_Sort_int_int at h
  obtain ⟨hc, h⟩ := ck_out h
  obtain rfl := Option.some.inj h
  have hl : (z0.mergeSort fun x y => decide (x ≤ y)).length = z0.length := List.length_mergeSort z0
  refine funG_put (ys := z0.mergeSort fun x y => decide (x ≤ y)) (zs := z0.mergeSort fun x y => decide (x ≤ y)) (fun hx hm w => ?_) (fun hm g off w hp hx hH hg hcap => ?_) (fun _ => ⟨hl, [], by simp⟩)
  · subst hx hm
    refine (calls_of_every_depth fun D => AnyS.slices_Sort_int_none_alone Tryd.laysSort D p c w).mono ?_
    rintro e w' ⟨rfl, rfl⟩
    exact ⟨⟨(), rfl, by rw [List.mergeSort_nil]⟩, List.mergeSort_nil, rfl⟩
  · subst hm hp
    refine (Any.slices_Sort_int Tryd.laysSort g off c z0 w hH hg hc).mono ?_
    rintro e w' ⟨rfl, n, os, rfl⟩
    exact ⟨⟨(), rfl, by rw [hl]⟩, n, os, rfl⟩
end Go.Proofs.YtgcigcbhilcgoaaDoor.Gx
