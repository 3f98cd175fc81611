/- RotateNumbers: the row's proof: the walk's contract and the plain law, after the shell that the kit's own program writes; the card. -/
import Derived.Test.YtgcigcbhilcgoaaDoorRGlob
import Derived.Test.YtgcigcbhilcgoaaDoorRNumAll
import Derived.SliceStrings
import Derived.Test.YtgcigcbhilcgoaaDoorTie
import Derived.Test.YtgcigcbhilcgoaaDoorCards
import Derived.SevenTiedAt
namespace Go.Gx
open Go.RowKit
def IsRowS (w : World) (a : Option Addr) (len cap : Nat) (ss : List ByteArray) : Prop :=
  (a = none ∧ len = 0 ∧ cap = 0 ∧ ss = []) ∨
  ∃ x, a = some x ∧ len ≤ cap ∧ cap ≤ maxLen ∧ ss.length = cap ∧ (∀ i, i < ss.length → w.cell? (x.add i) = some (.string (ss.getD i ByteArray.empty))) ∧ ∀ s ∈ ss, s.size ≤ maxLen
theorem isRowS_len {w : World} {a : Option Addr} {len cap : Nat} {ss : List ByteArray} (h : IsRowS w a len cap ss) : (ss.take len).length = len := by
  rcases h with ⟨_, rfl, _, rfl⟩ | ⟨_, _, hl, _, hz, _⟩
  · rfl
  · rw [List.length_take]; omega
theorem isRowS_small {w : World} {a : Option Addr} {len cap : Nat} {ss : List ByteArray} (h : IsRowS w a len cap ss) : ∀ s ∈ ss.take len, s.size ≤ maxLen := by
  rcases h with ⟨_, _, _, rfl⟩ | ⟨_, _, _, _, _, _, hw⟩
  · intro n hn; simp at hn
  · exact fun n hn => hw n (List.mem_of_mem_take hn)
theorem ER_strs {w : World} {S : FP} : ∀ xs : List ByteArray, ER kStr w xs S (xs.map Value.string)
  | [] => rfl
  | x :: xs => ⟨[.string x], xs.map Value.string, rfl, rfl, ER_strs xs⟩
theorem isRowS_slice {w : World} {a : Option Addr} {len cap : Nat} {ss : List ByteArray} (h : IsRowS w a len cap ss) :
    ∃ Z : FP, (∀ b, Z b → b < w.heap.size) ∧ sliceR kStr w Z (ss.take len) [.slice a (ss.take len).length cap] := by
  have hlen := isRowS_len h
  rcases h with ⟨rfl, rfl, rfl, rfl⟩ | ⟨x, rfl, hl, hm, hz, hcell, _⟩
  · exact ⟨Nil, fun _ h => h.elim, none, 0, rfl, Nat.le_refl _, Nat.zero_le _, fun _ => rfl, fun h => absurd rfl h⟩
  · by_cases h0 : len = 0
    · subst h0
      exact ⟨Nil, fun _ h => h.elim, some x, cap, rfl, by simp, hm, nofun, fun h => absurd rfl h⟩
    · obtain ⟨b, off, spot⟩ := x
      have hc0 := hcell 0 (by omega)
      obtain rfl : spot = none := by simpa [Addr.add] using World.cell?_spot hc0
      have hcell' : ∀ i, i < ss.length → w.cell? ⟨b, off + i, none⟩ = some (.string (ss.getD i ByteArray.empty)) := by
        intro i hi
        have := hcell i hi
        by_cases hi0 : i = 0
        · subst hi0; simpa [Addr.add] using this
        · simpa [Addr.add, hi0] using this
      have hb : ∃ arr T fr, w.heap[b]? = some (.cells arr T fr) := by
        have h1 := hcell' 0 (by omega)
        unfold World.cell? at h1
        split at h1
        · rename_i c T fr heq; exact ⟨c, T, fr, heq⟩
        · cases h1
      obtain ⟨arr, T, fr, hb⟩ := hb
      have hlt : b < w.heap.size := by
        rcases Nat.lt_or_ge b w.heap.size with h | h
        · exact h
        · rw [Array.getElem?_eq_none h] at hb; cases hb
      have hget : ∀ i, i < ss.length → arr[off + i]? = some (.string (ss.getD i ByteArray.empty)) := by
        intro i hi
        have := hcell' i hi
        simpa [World.cell?, hb] using this
      have hsz : off + len ≤ arr.size := by
        have := hget (len - 1) (by omega)
        rcases Nat.lt_or_ge (off + (len - 1)) arr.size with h | h
        · omega
        · rw [Array.getElem?_eq_none h] at this; cases this
      refine ⟨fun c => c = b, fun c hc => hc ▸ hlt, some ⟨b, off, none⟩, cap, rfl, by omega, hm, nofun, fun _ => ?_⟩
      have hel : (arr.toList.drop off).take len = (ss.take len).map Value.string := by
        apply List.ext_getElem?
        intro i
        by_cases hi : i < len
        · rw [List.getElem?_take_of_lt hi, List.getElem?_drop, Array.getElem?_toList, hget i (by omega), List.getElem?_map, List.getElem?_take_of_lt hi, List.getElem?_eq_getElem (by omega)]
          simp [List.getElem?_eq_getElem (show i < ss.length by omega)]
        · rw [List.getElem?_eq_none (by simp; omega), List.getElem?_eq_none (by simp; omega)]
      refine ⟨b, off, arr.toList.take off, (ss.take len).map Value.string, arr.toList.drop (off + len), T, fr, rfl, rfl, ?_, by simp; omega, ER_strs _⟩
      rw [hb, ← hel, ← List.drop_drop, List.append_assoc, List.take_append_drop, List.take_append_drop]
end Go.Gx
namespace Go.Proofs.YtgcigcbhilcgoaaDoor.rotateNumbers
open Go.Joins Go.ChangeShapes Go.WideShapes Go.ChangeAt Go.RowKit
open Go.Gx Go.Proofs.YtgcigcbhilcgoaaDoor.Gx
open Go.ChangeMaps (open_string shut_string)
set_option linter.unusedVariables false

theorem own : ownKnob Tryd.prog.godebug = none := by kernel_rfl
theorem laidOut : laidOutB Tryd.prog = true := by kernel_rfl

theorem walk (w : World) (a0 : Option Addr) (len0 cap0 : Nat) (z0 : List Int) (w0 : IsRow .u8 w a0 len0 cap0 z0) (a1 : Option Addr) (len1 cap1 : Nat) (z1 : List ByteArray) (w1 : IsRowS w a1 len1 cap1 z1) (b1 : len1 * 16 ≤ 140737488351232) (hL : laidMet Tryd.prog laidL w) :
    Calls Tryd.prog 7 #[.slice a0 len0 cap0, .slice a1 len1 cap1] w fun e w' => e = .returned (.bool true) ∧ Below w.heap.size w w' := by
  obtain ⟨Zg, hZg, hAg⟩ := glob_of hL
  have l0 := isRow_len w0
  obtain ⟨Z0, hZ0, hS0⟩ := isRow_slice w0
  have l1 := isRowS_len w1
  obtain ⟨Z1, hZ1, hS1⟩ := isRowS_slice w1
  have sm := isRowS_small w1
  have bl : (z1.take len1).length * 16 ≤ 140737488351232 := by rw [l1]; exact b1
  rw [← l0, ← l1]
  have j1 : IntKind.u8.min = 0 := rfl
  have j2 : IntKind.u8.max = 255 := rfl
  have m1 : maxLen = 9223372036854775807 := rfl
  have hb : Bytes (z0.take len0) := fun n hn => by have := isRow_wf w0 n hn; simp [Lit.wf, j1, j2] at this; omega
  exact law_end (Z := fun b => Z0 b ∨ Z1 b ∨ Zg b) (C7 (z0.take len0) (z1.take len1) a0 _ cap0 a1 _ cap1 true (numbers_law _ _ hb bl (fun s hs => by have := sm s hs; unfold small; omega))) (fun b hb => hb.elim (hZ0 b) (fun h => h.elim (hZ1 b) (hZg b))) (argHolds_append (A := [_]) (B := [_, g_pow10, g_errs]) (argHolds_mono (A := [_]) (fun b h => .inl h) ⟨hS0, trivial⟩) (argHolds_append (A := [_]) (B := [g_pow10, g_errs]) (argHolds_mono (A := [_]) (fun b h => .inr (.inl h)) ⟨hS1, trivial⟩) (argHolds_mono (fun b h => .inr (.inr h)) hAg))) (fun _ => rfl)

/-! ### THE ROW's STEP -/
set_option maxRecDepth 100000 in
theorem lifted (os : Os) (started : os.Started) (H : Type) (enc : TypeId × Value → H) :
    ReturnsInHanded {} Tryd.checked os 7 .any (fun w args => (Rows.rotateNumbersSpec.pre enc Tryd.prog Tryd.f7 Rows.rotateNumbersRow.domain false w args ∧ laidMet Tryd.prog laidL w) ∧ sizedMet enc Tryd.prog Tryd.f7 (OpenSpec.ofChange Rows.rotateNumbersSpec) false w args)
      (Rows.rotateNumbersSpec.post enc Tryd.prog Tryd.f7 false true false false) := by
  refine returnsInHanded_of_change_and (C := Tryd.checked) (X := fun w _ => laidMet Tryd.prog laidL w) (fun _ _ _ hh h => h.of_heap hh) own started (by kernel_rfl) Tryd.func7
    (ChangeSpec.witness_at (enc := enc) (C := Tryd.checked) (os := os) (X := fun w _ => laidMet Tryd.prog laidL w) false (laidWorld os) #[.slice none 0 0, .slice none 0 0] 8 rfl (by kernel_rfl) (by kernel_rfl) (by kernel_rfl) (by kernel_rfl) (by kernel_rfl) (laidWorld_met os _)) ?_
  intro W base args ds gs before hval0 hW hcnd hsz0 hL _
  have hval : ∀ (j : Nat) t v, Tryd.f7.params[j]? = some t → args[j]? = some v → Value.okWide Tryd.prog W .any base t v := hval0
  have hW' := hW
  obtain ⟨p, q, hA0, hV, rfl, hfz, hnd⟩ := hW
  have hA : DataW.TrodAll enc Tryd.prog W 0 (fun _ => true) true Tryd.f7.params.toList args.toList ds p := hA0
  rw [Tryd.params7] at hA hval
  have hsz : (DataW.weightsEach Tryd.prog (Tryd.f7.params.toList ++ Rows.rotateNumbersSpec.plain.varTypes Tryd.prog) (ds ++ gs)).all (· ≤ reachBytes) = true := hsz0
  rw [Tryd.params7] at hsz
  clear hsz0
  obtain ⟨v0, vs0, d0, ds0, p0, q0, hargs, rfl, rfl, h0, r0⟩ := trodAll_cons hA
  obtain ⟨v1, vs1, d1, ds1, p1, q1, rfl, rfl, rfl, h1, r1⟩ := trodAll_cons r0
  obtain ⟨rfl, rfl, rfl⟩ := trodAll_nil r1
  obtain rfl : args = #[v0, v1] := by cases args; simp_all
  obtain ⟨rfl, rfl⟩ := trodVars_none hV
  obtain ⟨a0, len0, cap0, rfl⟩ := okWide_slice Tryd.underlying24 (hval 0 24 v0 rfl rfl)
  have k0 := h0
  have lt0 : ∀ x ∈ p0, x.block < W.heap.size := by obtain ⟨m, hm⟩ := k0; exact DataW.trod_lt m _ _ _ hm
  obtain ⟨z0, w0⟩ : ∃ zs, IsRow .u8 W a0 len0 cap0 zs := by
    obtain ⟨fuel, hf⟩ := h0
    rcases open_ints Tryd.underlying24 Tryd.underlying5 (by kernel_rfl) hf with ⟨hcs, _⟩ | ⟨x, l, c, zs, hcs, _, hl, hm, hz, _, hcell, hwz⟩
    · simp [Value.cells] at hcs
      obtain ⟨rfl, rfl, rfl⟩ := hcs
      exact ⟨[], .inl ⟨rfl, rfl, rfl, rfl⟩⟩
    · simp [Value.cells] at hcs
      obtain ⟨rfl, rfl, rfl⟩ := hcs
      exact ⟨zs, .inr ⟨_, rfl, hl, hm, by simpa using hz, hcell, hwz⟩⟩
  obtain ⟨a1, len1, cap1, rfl⟩ := okWide_slice Tryd.underlying43 (hval 1 43 v1 rfl rfl)
  have k1 := h1
  have lt1 : ∀ x ∈ p1, x.block < W.heap.size := by obtain ⟨m, hm⟩ := k1; exact DataW.trod_lt m _ _ _ hm
  have e16 : Tryd.prog.bytesOf 9 = 16 := by kernel_rfl
  have ereach : reachBytes = 140737488351232 := by decide
  obtain ⟨z1, w1, b1⟩ : ∃ zs, IsRowS W a1 len1 cap1 zs ∧ len1 * 16 ≤ 140737488351232 := by
    obtain ⟨fuel, hf⟩ := h1
    rcases open_strings Tryd.underlying43 Tryd.underlying9 (by kernel_rfl) hf with ⟨hcs, _⟩ | ⟨x, l, c, ss, hcs, _, hl, hm, hz, hx, hcell, hwz⟩
    · simp [Value.cells] at hcs
      obtain ⟨rfl, rfl, rfl⟩ := hcs
      exact ⟨[], .inl ⟨rfl, rfl, rfl, rfl⟩, by omega⟩
    · simp [Value.cells] at hcs
      obtain ⟨rfl, rfl, rfl⟩ := hcs
      have hz' : ss.length = cap1 := by simpa using hz
      have hd : d1 = _ := congrArg Prod.fst hx
      have hb := sized_slice hsz (j := 1) (t := 43) rfl (by rw [hd]; rfl) Tryd.underlying43
      rw [e16, ereach] at hb
      refine ⟨ss, .inr ⟨_, rfl, hl, hm, hz', hcell, hwz⟩, ?_⟩
      have hlen : (strs (H := H) (ss.take len1)).length = len1 := by simp [strs]; omega
      rw [hlen] at hb
      have := Nat.mul_le_mul_right 16 (Nat.le_add_right len1 (strs (H := H) (ss.drop len1)).length)
      omega
  clear hA0 hval0
  simp only [List.append_nil] at hW'
  refine (walk W a0 len0 cap0 z0 w0 a1 len1 cap1 z1 w1 b1 hL).mono fun e W' ⟨he, bel⟩ => ?_
  subst he
  exact ⟨_, rfl, _, _, _, [], _, [], hW', trodAll_mk1 (shut_bool Tryd.underlying4 _), (trodAll_cons_mk (Below.trod laidOut (by kernel_rfl) (of_decide_eq_true (by kernel_rfl)) k0 bel lt0) (trodAll_cons_mk (Below.trod laidOut (by kernel_rfl) (of_decide_eq_true (by kernel_rfl)) k1 bel lt1) trodAll_mk0)), rfl, bel.frame _, fun h => by cases h⟩

theorem over : Rows.rotateNumbersRow.holds Tryd.pinned (OpenSpec.ofChange Rows.rotateNumbersSpec) :=
  OpenClaim.holds_of_wide 7 Tryd.f7 rfl rfl rfl rfl rfl rfl rfl ⟨rfl, rfl, rfl, rfl, rfl⟩ rfl rfl rfl rfl rfl (by kernel_rfl) Tryd.func7 (by kernel_rfl)
    (of_decide_eq_true (by kernel_rfl)) (by unfold Func.isWrapper; first | (rw [if_pos (by decide +kernel)]; kernel_rfl) | (rw [if_neg (by decide +kernel)]; exact ⟨rfl, rfl⟩))
    (fun os started H enc _ => lifted os started H enc)

/-- ████ THE STATEMENT: the tied card ████ -/
theorem proved : Rows.RotateNumbersCardSaid :=
  Claim7.holds_tied_plain_at .later [] [.data, .data, .data, .sentinel, .sentinel] true (true, "56320fcd91e84842d7252582314b476791865418546fae4562beb8a1d8384d4a") true
    over (fun _ h => by cases h) (by kernel_rfl) (fun _ h => by cases h) rotateNumbers_row_tie rfl ⟨rfl, rfl⟩ (by kernel_rfl) rfl
    (fun f fn hf hfn => by
      obtain rfl : f = 7 := Option.some.inj ((show Tryd.prog.funcNamed "kaudit/kauditlaw26.RotateNumbers" = some 7 by kernel_rfl).symm.trans hf) |>.symm
      obtain rfl : fn = Tryd.f7 := (Option.some.inj (Tryd.func7.symm.trans hfn)).symm
      refine ⟨by kernel_rfl, fun j t ht => ?_⟩
      rw [Tryd.params7] at ht
      have hall : ∀ t ∈ ([24, 43] : List TypeId), Tryd.prog.wantsStandIn t = false := by
        intro t ht
        have : (([24, 43] : List TypeId).all fun t => !Tryd.prog.wantsStandIn t) = true := by kernel_rfl
        simpa using List.all_eq_true.1 this t ht
      exact hall t (by have := Array.mem_of_getElem? ht; simpa using this))
    (by kernel_rfl)
end Go.Proofs.YtgcigcbhilcgoaaDoor.rotateNumbers
