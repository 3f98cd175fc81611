/- RotateDue: the row's proof: the walk's contract and the plain law, after the shell that the kit's own program writes; the card. -/
import Derived.Test.YtgcigcbhilcgoaaDoorRGlob
import Derived.Test.YtgcigcbhilcgoaaDoorRDueAll

import Derived.Test.YtgcigcbhilcgoaaDoorTie
import Derived.Test.YtgcigcbhilcgoaaDoorCards
import Derived.SevenTiedAt
namespace Go.Proofs.YtgcigcbhilcgoaaDoor.rotateDue
open Go.Joins Go.ChangeShapes Go.WideShapes Go.ChangeAt Go.RowKit
open Go.Gx Go.Proofs.YtgcigcbhilcgoaaDoor.Gx
open Go.ChangeMaps (open_string shut_string)
set_option linter.unusedVariables false

theorem own : ownKnob Tryd.prog.godebug = none := by kernel_rfl
theorem laidOut : laidOutB Tryd.prog = true := by kernel_rfl

theorem walk (w : World) (a0 b0 c0 : Int) (a1 : Int) (w1 : (Lit.int .i64 a1).wf = true) (a2 : Int) (w2 : (Lit.int .i64 a2).wf = true) (a3 : Option Addr) (len3 cap3 : Nat) (z3 : List Int) (w3 : IsRow .u8 w a3 len3 cap3 z3) (hL : laidMet Tryd.prog laidL w) :
    Calls Tryd.prog 3 #[.agg #[.int .i64 a0, .int .i64 b0, .int .i64 c0], .int .i64 a1, .int .i64 a2, .slice a3 len3 cap3] w fun e w' => e = .returned (.bool true) ∧ Below w.heap.size w w' := by
  obtain ⟨Zg, hZg, hAg⟩ := glob_of hL
  have l3 := isRow_len w3
  obtain ⟨Z3, hZ3, hS3⟩ := isRow_slice w3
  rw [← l3]
  have i1 : IntKind.i64.min = -9223372036854775808 := rfl
  have i2 : IntKind.i64.max = 9223372036854775807 := rfl
  have j1 : IntKind.u8.min = 0 := rfl
  have j2 : IntKind.u8.max = 255 := rfl
  have c1 : is64 a1 := by unfold is64; simp [Lit.wf, i1, i2] at w1; omega
  have c2 : is64 a2 := by unfold is64; simp [Lit.wf, i1, i2] at w2; omega
  have hb : Bytes (z3.take len3) := fun n hn => by have := isRow_wf w3 n hn; simp [Lit.wf, j1, j2] at this; omega
  exact law_end (Z := fun b => Z3 b ∨ Zg b) (C3 ⟨a0, b0, c0⟩ a1 a2 (z3.take len3) a3 _ cap3 true (due_law _ _ _ _ c1 c2 hb)) (fun b hb => hb.elim (hZ3 b) (hZg b)) (argHolds_append (B := [g_pow10, g_errs]) (argHolds_mono (A := [_]) (fun b h => .inl h) ⟨hS3, trivial⟩) (argHolds_mono (fun b h => .inr h) hAg)) (fun _ => rfl)

/-! ### THE ROW's STEP -/
set_option maxRecDepth 100000 in
theorem lifted (os : Os) (started : os.Started) (H : Type) (enc : TypeId × Value → H) :
    ReturnsInHanded {} Tryd.checked os 3 .any (fun w args => (Rows.rotateDueSpec.pre enc Tryd.prog Tryd.f3 Rows.rotateDueRow.domain false w args ∧ laidMet Tryd.prog laidL w) ∧ sizedMet enc Tryd.prog Tryd.f3 (OpenSpec.ofChange Rows.rotateDueSpec) false w args)
      (Rows.rotateDueSpec.post enc Tryd.prog Tryd.f3 false true false false) := by
  refine returnsInHanded_of_change_and (C := Tryd.checked) (X := fun w _ => laidMet Tryd.prog laidL w) (fun _ _ _ hh h => h.of_heap hh) own started (by kernel_rfl) Tryd.func3
    (ChangeSpec.witness_at (enc := enc) (C := Tryd.checked) (os := os) (X := fun w _ => laidMet Tryd.prog laidL w) false (laidWorld os) #[.agg #[.int .i64 0, .int .i64 0, .int .i64 0], .int .i64 0, .int .i64 0, .slice none 0 0] 8 rfl (by kernel_rfl) (by kernel_rfl) (by kernel_rfl) (by kernel_rfl) (by kernel_rfl) (laidWorld_met os _)) ?_
  intro W base args ds gs before hval0 hW hcnd hsz0 hL _
  have hval : ∀ (j : Nat) t v, Tryd.f3.params[j]? = some t → args[j]? = some v → Value.okWide Tryd.prog W .any base t v := hval0
  have hW' := hW
  obtain ⟨p, q, hA0, hV, rfl, hfz, hnd⟩ := hW
  have hA : DataW.TrodAll enc Tryd.prog W 0 (fun _ => true) true Tryd.f3.params.toList args.toList ds p := hA0
  rw [Tryd.params3] at hA hval
  obtain ⟨v0, vs0, d0, ds0, p0, q0, hargs, rfl, rfl, h0, r0⟩ := trodAll_cons hA
  obtain ⟨v1, vs1, d1, ds1, p1, q1, rfl, rfl, rfl, h1, r1⟩ := trodAll_cons r0
  obtain ⟨v2, vs2, d2, ds2, p2, q2, rfl, rfl, rfl, h2, r2⟩ := trodAll_cons r1
  obtain ⟨v3, vs3, d3, ds3, p3, q3, rfl, rfl, rfl, h3, r3⟩ := trodAll_cons r2
  obtain ⟨rfl, rfl, rfl⟩ := trodAll_nil r3
  obtain rfl : args = #[v0, v1, v2, v3] := by cases args; simp_all
  obtain ⟨rfl, rfl⟩ := trodVars_none hV
  have k0 := h0
  have lt0 : ∀ x ∈ p0, x.block < W.heap.size := by obtain ⟨m, hm⟩ := k0; exact DataW.trod_lt m _ _ _ hm
  obtain ⟨u0, u1, u2, y0, y1, y2, n, rfl, rfl, rfl, hy0, hy1, hy2⟩ := open_agg3 Tryd.underlying23 (by kernel_rfl) (show Tryd.prog.cellsOf 23 = 3 by kernel_rfl) (hval 0 23 v0 rfl rfl) h0
  obtain ⟨a0, e0, _, _⟩ := DataW.trod_int Tryd.underlying3 hy0
  obtain ⟨b0, e1, _, _⟩ := DataW.trod_int Tryd.underlying3 hy1
  obtain ⟨c0, e2, _, _⟩ := DataW.trod_int Tryd.underlying3 hy2
  simp at e0 e1 e2
  subst e0 e1 e2
  obtain ⟨a1, rfl, rfl, rfl, w1⟩ := open_int Tryd.underlying3 (hval 1 3 v1 rfl rfl) h1
  obtain ⟨a2, rfl, rfl, rfl, w2⟩ := open_int Tryd.underlying3 (hval 2 3 v2 rfl rfl) h2
  obtain ⟨a3, len3, cap3, rfl⟩ := okWide_slice Tryd.underlying24 (hval 3 24 v3 rfl rfl)
  have k3 := h3
  have lt3 : ∀ x ∈ p3, x.block < W.heap.size := by obtain ⟨m, hm⟩ := k3; exact DataW.trod_lt m _ _ _ hm
  obtain ⟨z3, w3⟩ : ∃ zs, IsRow .u8 W a3 len3 cap3 zs := by
    obtain ⟨fuel, hf⟩ := h3
    rcases open_ints Tryd.underlying24 Tryd.underlying5 (by kernel_rfl) hf with ⟨hcs, _⟩ | ⟨x, l, c, zs, hcs, _, hl, hm, hz, _, hcell, hwz⟩
    · simp [Value.cells] at hcs
      obtain ⟨rfl, rfl, rfl⟩ := hcs
      exact ⟨[], .inl ⟨rfl, rfl, rfl, rfl⟩⟩
    · simp [Value.cells] at hcs
      obtain ⟨rfl, rfl, rfl⟩ := hcs
      exact ⟨zs, .inr ⟨_, rfl, hl, hm, by simpa using hz, hcell, hwz⟩⟩
  clear hA0 hval0
  simp only [List.append_nil] at hW'
  refine (walk W a0 b0 c0 a1 w1 a2 w2 a3 len3 cap3 z3 w3 hL).mono fun e W' ⟨he, bel⟩ => ?_
  subst he
  exact ⟨_, rfl, _, _, _, [], _, [], hW', trodAll_mk1 (shut_bool Tryd.underlying4 _), (trodAll_cons_mk (Below.trod laidOut (by kernel_rfl) (of_decide_eq_true (by kernel_rfl)) k0 bel lt0) (trodAll_cons_mk (shut_int Tryd.underlying3 w1) (trodAll_cons_mk (shut_int Tryd.underlying3 w2) (trodAll_cons_mk (Below.trod laidOut (by kernel_rfl) (of_decide_eq_true (by kernel_rfl)) k3 bel lt3) trodAll_mk0)))), rfl, bel.frame _, fun h => by cases h⟩

theorem over : Rows.rotateDueRow.holds Tryd.pinned (OpenSpec.ofChange Rows.rotateDueSpec) :=
  OpenClaim.holds_of_wide 3 Tryd.f3 rfl rfl rfl rfl rfl rfl rfl ⟨rfl, rfl, rfl, rfl, rfl⟩ rfl rfl rfl rfl rfl (by kernel_rfl) Tryd.func3 (by kernel_rfl)
    (of_decide_eq_true (by kernel_rfl)) (by unfold Func.isWrapper; first | (rw [if_pos (by decide +kernel)]; kernel_rfl) | (rw [if_neg (by decide +kernel)]; exact ⟨rfl, rfl⟩))
    (fun os started H enc _ => lifted os started H enc)

/-- ████ THE STATEMENT: the tied card ████ -/
theorem proved : Rows.RotateDueCardSaid :=
  Claim7.holds_tied_plain_at .later [] [.data, .data, .data, .sentinel, .sentinel] true (true, "56320fcd91e84842d7252582314b476791865418546fae4562beb8a1d8384d4a") true
    over (fun _ h => by cases h) (by kernel_rfl) (fun _ h => by cases h) rotateDue_row_tie rfl ⟨rfl, rfl⟩ (by kernel_rfl) rfl
    (fun f fn hf hfn => by
      obtain rfl : f = 3 := Option.some.inj ((show Tryd.prog.funcNamed "kaudit/kauditlaw26.RotateDue" = some 3 by kernel_rfl).symm.trans hf) |>.symm
      obtain rfl : fn = Tryd.f3 := (Option.some.inj (Tryd.func3.symm.trans hfn)).symm
      refine ⟨by kernel_rfl, fun j t ht => ?_⟩
      rw [Tryd.params3] at ht
      have hall : ∀ t ∈ ([23, 3, 3, 24] : List TypeId), Tryd.prog.wantsStandIn t = false := by
        intro t ht
        have : (([23, 3, 3, 24] : List TypeId).all fun t => !Tryd.prog.wantsStandIn t) = true := by kernel_rfl
        simpa using List.all_eq_true.1 this t ht
      exact hall t (by have := Array.mem_of_getElem? ht; simpa using this))
    (by kernel_rfl)
end Go.Proofs.YtgcigcbhilcgoaaDoor.rotateDue
