/- K7: the texts LCoverageSpans, joined. -/
import Derived.Test.YthmjklpmamfncaaDoorTie
import Derived.Test.YthmjklpmamfncaaDoorCards
import Derived.SevenTiedAt
import Derived.Deep.DeepHandedRow
import Derived.Lib.LaidTab
import Derived.Test.YthmjklpmamfncaaDoorK2
import Derived.Test.YthmjklpmamfncaaDoorK6
/- CoverageSpans: the row's proof: the walk's contract and the plain law, after the shell that the kit's own program writes; the card. -/

namespace Go.Proofs.YthmjklpmamfncaaDoor.coverageSpans
open Go.Joins Go.ChangeShapes Go.WideShapes Go.ChangeAt Go.RowKit
open Go.Gx Go.Proofs.YthmjklpmamfncaaDoor.Gx
open Go.ChangeMaps (open_string shut_string)
set_option linter.unusedVariables false

theorem own : ownKnob Tryd.prog.godebug = none := by kernel_rfl
theorem laidOut : laidOutB Tryd.prog = true := by kernel_rfl

theorem walk (w : World) (a0 : Option Addr) (len0 cap0 : Nat) (z0 : List Int) (w0 : IsRow .u8 w a0 len0 cap0 z0) (a1 : Option Addr) (len1 cap1 : Nat) (z1 : List api_Span) (w1 : IsSpans w a1 len1 cap1 z1) (f1 : Fit z1) (b1 : len1 ≤ 2000000) (a2 : Option Addr) (len2 cap2 : Nat) (z2 : List api_Span) (w2 : IsSpans w a2 len2 cap2 z2) (f2 : Fit z2) (b2 : len2 ≤ 2000000) (a3 : ByteArray) (w3 : a3.size ≤ 2000000) (a4 : Int) (w4 : (Lit.int .i64 a4).wf = true) (a5 : Int) (w5 : (Lit.int .i64 a5).wf = true) (a6 : Int) (w6 : (Lit.int .i64 a6).wf = true) (hL : laidMet Tryd.prog laidL w) :
    Calls Tryd.prog 3 #[.slice a0 len0 cap0, .slice a1 len1 cap1, .slice a2 len2 cap2, .string a3, .int .i64 a4, .int .i64 a5, .int .i64 a6] w fun e w' => e = .returned (.bool true) ∧ Below w.heap.size w w' := by
  obtain ⟨Zg, hZg, hAg⟩ := glob_of hL
  have l0 := isRow_len w0
  obtain ⟨Z0, hZ0, hS0⟩ := isRow_slice w0
  have l1 := isSpans_len w1
  obtain ⟨Z1, hZ1, hS1⟩ := isSpans_slice w1
  have l2 := isSpans_len w2
  obtain ⟨Z2, hZ2, hS2⟩ := isSpans_slice w2
  rw [← l1] at b1
  rw [← l2] at b2
  rw [← l0, ← l1, ← l2]
  have j1 : IntKind.u8.min = 0 := rfl
  have j2 : IntKind.u8.max = 255 := rfl
  have j3 : IntKind.i64.min = -9223372036854775808 := rfl
  have j4 : IntKind.i64.max = 9223372036854775807 := rfl
  have c4 : is64 a4 := by simp [Lit.wf, j3, j4] at w4; exact ⟨by omega, by omega⟩
  have hb : ∀ n ∈ z0.take len0, 0 ≤ n ∧ n < 256 := fun n hn => by have := isRow_wf w0 n hn; simp [Lit.wf, j1, j2] at this; omega
  exact law_end (Z := fun b => Z0 b ∨ Z1 b ∨ Z2 b ∨ Zg b) (C3 (z0.take len0) z1 z2 a3 a4 a5 a6 a0 _ cap0 a1 _ cap1 a2 _ cap2 true (spans_law hb w3 c4 ⟨f1, b1⟩ ⟨f2, b2⟩)) (fun b hb => hb.elim (hZ0 b) fun hb => hb.elim (hZ1 b) fun hb => hb.elim (hZ2 b) (hZg b))
    (argHolds_append (B := [_, _, g_pow10, g_kinds]) (argHolds_mono (A := [_]) (fun b h => .inl h) ⟨hS0, trivial⟩) (argHolds_append (B := [_, g_pow10, g_kinds]) (argHolds_mono (A := [_]) (fun b h => .inr (.inl h)) ⟨hS1, trivial⟩) (argHolds_append (B := [g_pow10, g_kinds]) (argHolds_mono (A := [_]) (fun b h => .inr (.inr (.inl h))) ⟨hS2, trivial⟩) (argHolds_mono (fun b h => .inr (.inr (.inr h))) hAg)))) (fun _ => rfl)

/-! ### THE ROW's STEP -/
theorem reads (os : Os) {H : Type} (enc : TypeId × Value → H) : ∃ places, DataW.whole enc Tryd.prog ((laidWorld os).forCall (fun _ _ => 0) ⟨#[], #[.slice none 0 0, .slice none 0 0, .slice none 0 0, .string ByteArray.empty, .int .i64 0, .int .i64 0, .int .i64 0], []⟩).memory Tryd.f3.params.toList Rows.coverageSpansSpec.vars false (#[.slice none 0 0, .slice none 0 0, .slice none 0 0, .string ByteArray.empty, .int .i64 0, .int .i64 0, .int .i64 0] : Array Value).toList 8 = some ([.nil, .nil, .nil, .lit (.string []), .lit (.int .i64 0), .lit (.int .i64 0), .lit (.int .i64 0)], [], places) :=
  ⟨[], by kernel_rfl⟩
set_option maxRecDepth 100000 in
theorem lifted (os : Os) (started : os.Started) (H : Type) (enc : TypeId × Value → H) (F : Stop.Interp) :
    ReturnsInHanded {} Tryd.checked os 3 .any ((Rows.OpenSpec.upto Rows.coverageSpansSpec).preRow enc Tryd.prog Tryd.f3 Rows.coverageSpansUptoRow.domain false Rows.coverageSpansUptoRow.laid) (((Rows.OpenSpec.upto Rows.coverageSpansSpec).at F).post enc Tryd.prog Tryd.f3 false true false false) := by
  obtain ⟨places, hx⟩ := reads os enc
  refine returnsInHanded_of_row (C := Tryd.checked) (s := Rows.OpenSpec.upto Rows.coverageSpansSpec) own started (by kernel_rfl) Tryd.func3
    (witness_row_at (enc := enc) (C := Tryd.checked) false (laidWorld os) #[.slice none 0 0, .slice none 0 0, .slice none 0 0, .string ByteArray.empty, .int .i64 0, .int .i64 0, .int .i64 0] rfl (by kernel_rfl) (by kernel_rfl) (by kernel_rfl)
      (OpenSpec.preRow_of_cond 8 hx (by kernel_rfl) (fun k hk => by cases hk; kernel_rfl) (by kernel_rfl) (laidWorld_met os _))) ?_
  intro W base args ds gs before hval0 hW _ hk0 _ hL _ _
  have hk : Rows.uptoBulkAll (ds ++ gs) ≤ 1048576 := of_decide_eq_true (hk0 _ rfl)
  clear hk0
  have hval : ∀ (j : Nat) t v, Tryd.f3.params[j]? = some t → args[j]? = some v → Value.okWide Tryd.prog W .any base t v := hval0
  have hW' := hW
  obtain ⟨p, q, hA0, hV, rfl, hfz, hnd⟩ := hW
  have hA : DataW.TrodAll enc Tryd.prog W 0 (fun _ => true) true Tryd.f3.params.toList args.toList ds p := hA0
  rw [Tryd.params3] at hA hval
  obtain ⟨v0, vs0, d0, ds0, p0, q0, hargs, rfl, rfl, h0, r0⟩ := trodAll_cons hA
  obtain ⟨v1, vs1, d1, ds1, p1, q1, rfl, rfl, rfl, h1, r1⟩ := trodAll_cons r0
  obtain ⟨v2, vs2, d2, ds2, p2, q2, rfl, rfl, rfl, h2, r2⟩ := trodAll_cons r1
  obtain ⟨v3, vs3, d3, ds3, p3, q3, rfl, rfl, rfl, h3, r3⟩ := trodAll_cons r2
  obtain ⟨v4, vs4, d4, ds4, p4, q4, rfl, rfl, rfl, h4, r4⟩ := trodAll_cons r3
  obtain ⟨v5, vs5, d5, ds5, p5, q5, rfl, rfl, rfl, h5, r5⟩ := trodAll_cons r4
  obtain ⟨v6, vs6, d6, ds6, p6, q6, rfl, rfl, rfl, h6, r6⟩ := trodAll_cons r5
  obtain ⟨rfl, rfl, rfl⟩ := trodAll_nil r6
  obtain rfl : args = #[v0, v1, v2, v3, v4, v5, v6] := by cases args; simp_all
  obtain ⟨rfl, rfl⟩ := trodVars_none hV
  simp only [List.append_nil, Rows.uptoBulkAll] at hk
  obtain ⟨a0, len0, cap0, rfl⟩ := okWide_slice Tryd.underlying22 (hval 0 22 v0 rfl rfl)
  have k0 := h0
  have lt0 : ∀ x ∈ p0, x.block < W.heap.size := by obtain ⟨m, hm⟩ := k0; exact DataW.trod_lt m _ _ _ hm
  obtain ⟨z0, w0⟩ : ∃ zs, IsRow .u8 W a0 len0 cap0 zs := by
    obtain ⟨fuel, hf⟩ := h0
    rcases open_ints Tryd.underlying22 Tryd.underlying5 (by kernel_rfl) hf with ⟨hcs, _⟩ | ⟨x, l, c, zs, hcs, _, hl, hm, hz, _, hcell, hwz⟩
    · simp [Value.cells] at hcs
      obtain ⟨rfl, rfl, rfl⟩ := hcs
      exact ⟨[], .inl ⟨rfl, rfl, rfl, rfl⟩⟩
    · simp [Value.cells] at hcs
      obtain ⟨rfl, rfl, rfl⟩ := hcs
      exact ⟨zs, .inr ⟨_, rfl, hl, hm, by simpa using hz, hcell, hwz⟩⟩
  obtain ⟨a1, len1, cap1, rfl⟩ := okWide_slice Tryd.underlying23 (hval 1 23 v1 rfl rfl)
  have k1 := h1
  have lt1 : ∀ x ∈ p1, x.block < W.heap.size := by obtain ⟨m, hm⟩ := k1; exact DataW.trod_lt m _ _ _ hm
  obtain ⟨z1, w1, f1, b1⟩ : ∃ zs, IsSpans W a1 len1 cap1 zs ∧ Fit zs ∧ len1 ≤ Rows.uptoBulk d1 := by
    obtain ⟨fuel, hf⟩ := h1
    exact open_spans (x := (d1, p1)) (by simpa [Value.cells] using hf) (fun _ => rfl)
  obtain ⟨a2, len2, cap2, rfl⟩ := okWide_slice Tryd.underlying23 (hval 2 23 v2 rfl rfl)
  have k2 := h2
  have lt2 : ∀ x ∈ p2, x.block < W.heap.size := by obtain ⟨m, hm⟩ := k2; exact DataW.trod_lt m _ _ _ hm
  obtain ⟨z2, w2, f2, b2⟩ : ∃ zs, IsSpans W a2 len2 cap2 zs ∧ Fit zs ∧ len2 ≤ Rows.uptoBulk d2 := by
    obtain ⟨fuel, hf⟩ := h2
    exact open_spans (x := (d2, p2)) (by simpa [Value.cells] using hf) (fun _ => rfl)
  obtain ⟨a3, rfl, rfl, rfl, w3⟩ := open_string Tryd.underlying9 (hval 3 9 v3 rfl rfl) h3
  have u3 : a3.size ≤ 2000000 := by
    have e1 : a3.size = a3.data.size := rfl
    have e2 : a3.data.toList.length = a3.data.size := Array.length_toList
    simp only [Rows.uptoBulk] at hk
    omega
  obtain ⟨a4, rfl, rfl, rfl, w4⟩ := open_int Tryd.underlying3 (hval 4 3 v4 rfl rfl) h4
  obtain ⟨a5, rfl, rfl, rfl, w5⟩ := open_int Tryd.underlying3 (hval 5 3 v5 rfl rfl) h5
  obtain ⟨a6, rfl, rfl, rfl, w6⟩ := open_int Tryd.underlying3 (hval 6 3 v6 rfl rfl) h6
  clear hA0 hval0
  simp only [List.append_nil] at hW'
  refine (walk W a0 len0 cap0 z0 w0 a1 len1 cap1 z1 w1 f1 (by omega) a2 len2 cap2 z2 w2 f2 (by omega) a3 u3 a4 w4 a5 w5 a6 w6 hL).mono fun e W' ⟨he, bel⟩ => ?_
  subst he
  exact ⟨_, rfl, _, _, _, [], _, [], hW', trodAll_mk1 (shut_bool Tryd.underlying4 _), (trodAll_cons_mk (Below.trod laidOut (by kernel_rfl) (of_decide_eq_true (by kernel_rfl)) k0 bel lt0) (trodAll_cons_mk (Below.trod laidOut (by kernel_rfl) (of_decide_eq_true (by kernel_rfl)) k1 bel lt1) (trodAll_cons_mk (Below.trod laidOut (by kernel_rfl) (of_decide_eq_true (by kernel_rfl)) k2 bel lt2) (trodAll_cons_mk (shut_string Tryd.underlying9 w3) (trodAll_cons_mk (shut_int Tryd.underlying3 w4) (trodAll_cons_mk (shut_int Tryd.underlying3 w5) (trodAll_cons_mk (shut_int Tryd.underlying3 w6) trodAll_mk0))))))), rfl, bel.frame _, fun h => by cases h⟩

theorem over : Rows.CoverageSpansUptoSaid :=
  OpenClaim.holds_of_cond 3 Tryd.f3 rfl rfl rfl rfl rfl rfl rfl ⟨rfl, rfl, rfl, rfl, rfl⟩ rfl rfl rfl rfl rfl (by kernel_rfl) Tryd.func3 (by kernel_rfl)
    (of_decide_eq_true (by kernel_rfl)) (by unfold Func.isWrapper; first | (rw [if_pos (by decide +kernel)]; kernel_rfl) | (rw [if_neg (by decide +kernel)]; exact ⟨rfl, rfl⟩))
    (fun os started H enc _ F => by rw [OpenClaim.pre_eq_preRow]; exact lifted os started H enc F)

/-- ████ THE STATEMENT: the tied card ████ -/
theorem proved : Rows.CoverageSpansUptoCardSaid :=
  Claim7.holds_tied_plain_at .later [] [.data, .data, .data, .widerDeep] true (true, "e2601942dbd289875c7ab304d680439ccef1d0b4c4b9398f50efa15c9ec072d3") false
    over (fun _ h => by cases h) (by kernel_rfl) (fun _ h => by cases h) coverageSpansUpto_row_tie rfl ⟨rfl, rfl⟩ (by kernel_rfl) rfl
    (fun f fn hf hfn => by
      obtain rfl : f = 3 := Option.some.inj ((show Tryd.prog.funcNamed "kaudit/kauditlaw40.CoverageSpans" = some 3 by kernel_rfl).symm.trans hf) |>.symm
      obtain rfl : fn = Tryd.f3 := (Option.some.inj (Tryd.func3.symm.trans hfn)).symm
      refine ⟨by kernel_rfl, fun j t ht => ?_⟩
      rw [Tryd.params3] at ht
      have hall : ∀ t ∈ ([22, 23, 23, 9, 3, 3, 3] : List TypeId), Tryd.prog.wantsStandIn t = false := by
        intro t ht
        have : (([22, 23, 23, 9, 3, 3, 3] : List TypeId).all fun t => !Tryd.prog.wantsStandIn t) = true := by kernel_rfl
        simpa using List.all_eq_true.1 this t ht
      exact hall t (by have := Array.mem_of_getElem? ht; simpa using this))
    (by kernel_rfl)
end Go.Proofs.YthmjklpmamfncaaDoor.coverageSpans
