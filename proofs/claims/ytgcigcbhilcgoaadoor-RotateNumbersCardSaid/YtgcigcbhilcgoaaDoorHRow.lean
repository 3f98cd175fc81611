/- From a row's arguments to what the walks are told, and back. -/
import Derived.Test.YtgcigcbhilcgoaaDoorHQuiet
namespace Go.Gx
open Go.RowKit
/-- A slice of integers that came in: nil, or a row of 'cap' numbers, the first 'len' of which are its elements. -/
def IsRow (k : IntKind) (w : World) (a : Option Addr) (len cap : Nat) (zs : List Int) : Prop :=
  (a = none ∧ len = 0 ∧ cap = 0 ∧ zs = []) ∨
  ∃ x, a = some x ∧ len ≤ cap ∧ cap ≤ maxLen ∧ zs.length = cap ∧ (∀ i, i < zs.length → w.cell? (x.add i) = some (.int k (zs.getD i 0))) ∧ ∀ n ∈ zs, (Lit.int k n).wf = true
theorem isRow_wf {k : IntKind} {w : World} {a : Option Addr} {len cap : Nat} {zs : List Int} (h : IsRow k w a len cap zs) : ∀ n ∈ zs.take len, (Lit.int k n).wf = true := by
  rcases h with ⟨_, _, _, rfl⟩ | ⟨_, _, _, _, _, _, hw⟩
  · intro n hn; simp at hn
  · exact fun n hn => hw n (List.mem_of_mem_take hn)
theorem isRow_len {k : IntKind} {w : World} {a : Option Addr} {len cap : Nat} {zs : List Int} (h : IsRow k w a len cap zs) : (zs.take len).length = len := by
  rcases h with ⟨_, rfl, _, rfl⟩ | ⟨_, _, hl, _, hz, _⟩
  · rfl
  · rw [List.length_take]; omega
theorem isRow_max {k : IntKind} {w : World} {a : Option Addr} {len cap : Nat} {zs : List Int} (h : IsRow k w a len cap zs) : (zs.take len).length ≤ maxLen := by
  rw [isRow_len h]
  rcases h with ⟨_, rfl, _, rfl⟩ | ⟨_, _, hl, hm, _⟩
  · exact Nat.zero_le _
  · omega
theorem ER_ints {k : IntKind} {w : World} {S : FP} : ∀ xs : List Int, ER (kInt k) w xs S (xs.map (Value.int k))
  | [] => rfl
  | x :: xs => ⟨[.int k x], xs.map (Value.int k), rfl, rfl, ER_ints xs⟩
theorem isRow_slice {k : IntKind} {w : World} {a : Option Addr} {len cap : Nat} {zs : List Int} (h : IsRow k w a len cap zs) :
    ∃ Z : FP, (∀ b, Z b → b < w.heap.size) ∧ sliceR (kInt k) w Z (zs.take len) [.slice a (zs.take len).length cap] := by
  have hlen := isRow_len h
  rcases h with ⟨rfl, rfl, rfl, rfl⟩ | ⟨x, rfl, hl, hm, hz, hcell, _⟩
  · exact ⟨Nil, fun _ h => h.elim, none, 0, rfl, Nat.le_refl _, Nat.zero_le _, fun _ => rfl, fun h => absurd rfl h⟩
  · by_cases h0 : len = 0
    · subst h0
      exact ⟨Nil, fun _ h => h.elim, some x, cap, rfl, by simp, hm, nofun, fun h => absurd rfl h⟩
    · obtain ⟨b, off, spot⟩ := x
      have hc0 := hcell 0 (by omega)
      obtain rfl : spot = none := by simpa [Addr.add] using World.cell?_spot hc0
      have hcell' : ∀ i, i < zs.length → w.cell? ⟨b, off + i, none⟩ = some (.int k (zs.getD i 0)) := by
        intro i hi
        have := hcell i hi
        by_cases hi0 : i = 0
        · subst hi0; simpa [Addr.add] using this
        · simpa [Addr.add, hi0] using this
      have hb : ∃ arr T fr, w.heap[b]? = some (.cells arr T fr) := by
        have h1 := hcell' 0 (by omega)
        unfold World.cell? at h1
        split at h1
        · rename_i c T fr heq; exact ⟨c, T, fr, heq⟩
        · cases h1
      obtain ⟨arr, T, fr, hb⟩ := hb
      have hlt : b < w.heap.size := by
        rcases Nat.lt_or_ge b w.heap.size with h | h
        · exact h
        · rw [Array.getElem?_eq_none h] at hb; cases hb
      have hget : ∀ i, i < zs.length → arr[off + i]? = some (.int k (zs.getD i 0)) := by
        intro i hi
        have := hcell' i hi
        simpa [World.cell?, hb] using this
      have hsz : off + len ≤ arr.size := by
        have := hget (len - 1) (by omega)
        rcases Nat.lt_or_ge (off + (len - 1)) arr.size with h | h
        · omega
        · rw [Array.getElem?_eq_none h] at this; cases this
      refine ⟨fun c => c = b, fun c hc => hc ▸ hlt, some ⟨b, off, none⟩, cap, rfl, by omega, hm, nofun, fun _ => ?_⟩
      have hel : (arr.toList.drop off).take len = (zs.take len).map (Value.int k) := by
        apply List.ext_getElem?
        intro i
        by_cases hi : i < len
        · rw [List.getElem?_take_of_lt hi, List.getElem?_drop, Array.getElem?_toList, hget i (by omega), List.getElem?_map, List.getElem?_take_of_lt hi, List.getElem?_eq_getElem (by omega)]
          simp [List.getElem?_eq_getElem (show i < zs.length by omega)]
        · rw [List.getElem?_eq_none (by simp; omega), List.getElem?_eq_none (by simp; omega)]
      refine ⟨b, off, arr.toList.take off, (zs.take len).map (Value.int k), arr.toList.drop (off + len), T, fr, rfl, rfl, ?_, by simp; omega, ER_ints _⟩
      rw [hb, ← hel, ← List.drop_drop, List.append_assoc, List.take_append_drop, List.take_append_drop]
/-- The end of a law that is lent nothing. -/
theorem law_end {P : Program} {f : FuncId} {args : Array Value} {w : World} {Ac : List VP} {Z : FP} {v : Value} {τ : Type} {v' : τ → Value} {A' : τ → List VP} {N : τ → List (List SP)} (hf : FunG P f args Ac [] v' A' N) (hZ : ∀ b, Z b → b < w.heap.size) (hA : argHolds w Ac Z)
    (hR : ∀ t, v' t = v) : Calls P f args w fun e w' => e = .returned v ∧ Below w.heap.size w w' :=
  (hf w Z Nil hZ (fun _ h => h.elim) (fun _ _ h => h.elim) hA trivial).mono fun e w' ⟨t, he, hp⟩ => ⟨by rw [he, hR t], hp.1.below⟩
end Go.Gx
