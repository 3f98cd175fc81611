/- K5: the texts LCoverageMerges, joined. -/
import Derived.Test.YthmjklpmamfncaaDoorTie
import Derived.Test.YthmjklpmamfncaaDoorCards
import Derived.SevenTiedAt
import Derived.Test.YthmjklpmamfncaaDoorK2
import Derived.Test.YthmjklpmamfncaaDoorK4
/- CoverageMerges: the row's proof: the walk's contract and the plain law, after the shell that the kit's own program writes; the card. -/

namespace Go.Proofs.YthmjklpmamfncaaDoor.coverageMerges
open Go.Joins Go.ChangeShapes Go.WideShapes Go.ChangeAt Go.RowKit
open Go.Gx Go.Proofs.YthmjklpmamfncaaDoor.Gx
open Go.ChangeMaps (open_string shut_string)
set_option linter.unusedVariables false

theorem own : ownKnob Tryd.prog.godebug = none := by kernel_rfl
theorem laidOut : laidOutB Tryd.prog = true := by kernel_rfl

theorem walk (w : World) (a0 : Option Addr) (len0 cap0 : Nat) (z0 : List Int) (w0 : IsRow .u8 w a0 len0 cap0 z0) (a1 : Int) (w1 : (Lit.int .u8 a1).wf = true) (hL : laidMet Tryd.prog laidL w) :
    Calls Tryd.prog 4 #[.slice a0 len0 cap0, .int .u8 a1] w fun e w' => e = .returned (.bool true) ∧ Below w.heap.size w w' := by
  obtain ⟨Zg, hZg, hAg⟩ := glob_of hL
  have l0 := isRow_len w0
  obtain ⟨Z0, hZ0, hS0⟩ := isRow_slice w0
  rw [← l0]
  have j1 : IntKind.u8.min = 0 := rfl
  have j2 : IntKind.u8.max = 255 := rfl
  have c1 : 0 ≤ a1 ∧ a1 < 256 := by simp [Lit.wf, j1, j2] at w1; omega
  have hb : ∀ n ∈ z0.take len0, 0 ≤ n ∧ n < 256 := fun n hn => by have := isRow_wf w0 n hn; simp [Lit.wf, j1, j2] at this; omega
  exact law_end (Z := fun b => Z0 b ∨ Zg b) (C4 (z0.take len0) a1 a0 _ cap0 true (merges_law hb c1.1 c1.2)) (fun b hb => hb.elim (hZ0 b) (hZg b)) (argHolds_append (B := [g_pow10, g_kinds]) (argHolds_mono (A := [_]) (fun b h => .inl h) ⟨hS0, trivial⟩) (argHolds_mono (fun b h => .inr h) hAg)) (fun _ => rfl)

/-! ### THE ROW's STEP -/
set_option maxRecDepth 100000 in
theorem lifted (os : Os) (started : os.Started) (H : Type) (enc : TypeId × Value → H) :
    ReturnsInHanded {} Tryd.checked os 4 .any (fun w args => (Rows.coverageMergesSpec.pre enc Tryd.prog Tryd.f4 Rows.coverageMergesRow.domain false w args ∧ laidMet Tryd.prog laidL w) ∧ sizedMet enc Tryd.prog Tryd.f4 (OpenSpec.ofChange Rows.coverageMergesSpec) false w args)
      (Rows.coverageMergesSpec.post enc Tryd.prog Tryd.f4 false true false false) := by
  refine returnsInHanded_of_change_and (C := Tryd.checked) (X := fun w _ => laidMet Tryd.prog laidL w) (fun _ _ _ hh h => h.of_heap hh) own started (by kernel_rfl) Tryd.func4
    (ChangeSpec.witness_at (enc := enc) (C := Tryd.checked) (os := os) (X := fun w _ => laidMet Tryd.prog laidL w) false (laidWorld os) #[.slice none 0 0, .int .u8 0] 8 rfl (by kernel_rfl) (by kernel_rfl) (by kernel_rfl) (by kernel_rfl) (by kernel_rfl) (laidWorld_met os _)) ?_
  intro W base args ds gs before hval0 hW hcnd hsz0 hL _
  have hval : ∀ (j : Nat) t v, Tryd.f4.params[j]? = some t → args[j]? = some v → Value.okWide Tryd.prog W .any base t v := hval0
  have hW' := hW
  obtain ⟨p, q, hA0, hV, rfl, hfz, hnd⟩ := hW
  have hA : DataW.TrodAll enc Tryd.prog W 0 (fun _ => true) true Tryd.f4.params.toList args.toList ds p := hA0
  rw [Tryd.params4] at hA hval
  obtain ⟨v0, vs0, d0, ds0, p0, q0, hargs, rfl, rfl, h0, r0⟩ := trodAll_cons hA
  obtain ⟨v1, vs1, d1, ds1, p1, q1, rfl, rfl, rfl, h1, r1⟩ := trodAll_cons r0
  obtain ⟨rfl, rfl, rfl⟩ := trodAll_nil r1
  obtain rfl : args = #[v0, v1] := by cases args; simp_all
  obtain ⟨rfl, rfl⟩ := trodVars_none hV
  obtain ⟨a0, len0, cap0, rfl⟩ := okWide_slice Tryd.underlying22 (hval 0 22 v0 rfl rfl)
  have k0 := h0
  have lt0 : ∀ x ∈ p0, x.block < W.heap.size := by obtain ⟨m, hm⟩ := k0; exact DataW.trod_lt m _ _ _ hm
  obtain ⟨z0, w0⟩ : ∃ zs, IsRow .u8 W a0 len0 cap0 zs := by
    obtain ⟨fuel, hf⟩ := h0
    rcases open_ints Tryd.underlying22 Tryd.underlying5 (by kernel_rfl) hf with ⟨hcs, _⟩ | ⟨x, l, c, zs, hcs, _, hl, hm, hz, _, hcell, hwz⟩
    · simp [Value.cells] at hcs
      obtain ⟨rfl, rfl, rfl⟩ := hcs
      exact ⟨[], .inl ⟨rfl, rfl, rfl, rfl⟩⟩
    · simp [Value.cells] at hcs
      obtain ⟨rfl, rfl, rfl⟩ := hcs
      exact ⟨zs, .inr ⟨_, rfl, hl, hm, by simpa using hz, hcell, hwz⟩⟩
  obtain ⟨a1, rfl, rfl, rfl, w1⟩ := open_int Tryd.underlying5 (hval 1 5 v1 rfl rfl) h1
  clear hA0 hval0
  simp only [List.append_nil] at hW'
  refine (walk W a0 len0 cap0 z0 w0 a1 w1 hL).mono fun e W' ⟨he, bel⟩ => ?_
  subst he
  exact ⟨_, rfl, _, _, _, [], _, [], hW', trodAll_mk1 (shut_bool Tryd.underlying4 _), (trodAll_cons_mk (Below.trod laidOut (by kernel_rfl) (of_decide_eq_true (by kernel_rfl)) k0 bel lt0) (trodAll_cons_mk (shut_int Tryd.underlying5 w1) trodAll_mk0)), rfl, bel.frame _, fun h => by cases h⟩

theorem over : Rows.coverageMergesRow.holds Tryd.pinned (OpenSpec.ofChange Rows.coverageMergesSpec) :=
  OpenClaim.holds_of_wide 4 Tryd.f4 rfl rfl rfl rfl rfl rfl rfl ⟨rfl, rfl, rfl, rfl, rfl⟩ rfl rfl rfl rfl rfl (by kernel_rfl) Tryd.func4 (by kernel_rfl)
    (of_decide_eq_true (by kernel_rfl)) (by unfold Func.isWrapper; first | (rw [if_pos (by decide +kernel)]; kernel_rfl) | (rw [if_neg (by decide +kernel)]; exact ⟨rfl, rfl⟩))
    (fun os started H enc _ => lifted os started H enc)

/-- ████ THE STATEMENT: the tied card ████ -/
theorem proved : Rows.CoverageMergesCardSaid :=
  Claim7.holds_tied_plain_at .later [] [.data, .data, .data, .widerDeep] true (true, "e2601942dbd289875c7ab304d680439ccef1d0b4c4b9398f50efa15c9ec072d3") false
    over (fun _ h => by cases h) (by kernel_rfl) (fun _ h => by cases h) coverageMerges_row_tie rfl ⟨rfl, rfl⟩ (by kernel_rfl) rfl
    (fun f fn hf hfn => by
      obtain rfl : f = 4 := Option.some.inj ((show Tryd.prog.funcNamed "kaudit/kauditlaw40.CoverageMerges" = some 4 by kernel_rfl).symm.trans hf) |>.symm
      obtain rfl : fn = Tryd.f4 := (Option.some.inj (Tryd.func4.symm.trans hfn)).symm
      refine ⟨by kernel_rfl, fun j t ht => ?_⟩
      rw [Tryd.params4] at ht
      have hall : ∀ t ∈ ([22, 5] : List TypeId), Tryd.prog.wantsStandIn t = false := by
        intro t ht
        have : (([22, 5] : List TypeId).all fun t => !Tryd.prog.wantsStandIn t) = true := by kernel_rfl
        simpa using List.all_eq_true.1 this t ht
      exact hall t (by have := Array.mem_of_getElem? ht; simpa using this))
    (by kernel_rfl)
end Go.Proofs.YthmjklpmamfncaaDoor.coverageMerges
