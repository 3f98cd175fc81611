/- RotateBack: the row's proof: the walk's contract and the plain law, in the shell that the kit's own program wrote; the card. -/
import Derived.Test.YtgcigcbhilcgoaaDoorRGlob
import Derived.Test.YtgcigcbhilcgoaaDoorRBack
import Derived.Test.YtgcigcbhilcgoaaDoorTie
import Derived.Test.YtgcigcbhilcgoaaDoorCards
import Derived.SevenTiedAt
namespace Go.Proofs.YtgcigcbhilcgoaaDoor.rotateBack
open Go.Joins Go.ChangeShapes Go.WideShapes Go.ChangeAt Go.RowKit
open Go.Gx Go.Proofs.YtgcigcbhilcgoaaDoor.Gx
open Go.ChangeMaps (open_string shut_string)
set_option linter.unusedVariables false

theorem own : ownKnob Tryd.prog.godebug = none := by kernel_rfl

theorem walk (a0 : Int) (a1 : Int) (w0 : (Lit.int .u16 a0).wf = true) (w1 : (Lit.int .u16 a1).wf = true) (w : World) (hL : laidMet Tryd.prog laidL w) :
    Calls Tryd.prog 6 #[.int .u16 a0, .int .u16 a1] w fun e w' => e = .returned (.bool true) ∧ Below w.heap.size w w' := by
  obtain ⟨Z, hZ, hA⟩ := glob_of hL
  have e1 : IntKind.u16.min = 0 := rfl
  have e2 : IntKind.u16.max = 65535 := rfl
  have b0 : 0 ≤ a0 ∧ a0 < 65536 := by simp [Lit.wf, e1, e2] at w0; omega
  have b1 : 0 ≤ a1 ∧ a1 < 65536 := by simp [Lit.wf, e1, e2] at w1; omega
  exact law_end (C6 a0 a1 true (back_law a0 a1 b0 b1)) hZ hA (fun _ => rfl)

/-! ### THE ROW's STEP -/
set_option maxRecDepth 100000 in
theorem lifted (os : Os) (started : os.Started) (H : Type) (enc : TypeId × Value → H) :
    ReturnsInHanded {} Tryd.checked os 6 .any (fun w args => (Rows.rotateBackSpec.pre enc Tryd.prog Tryd.f6 Rows.rotateBackRow.domain false w args ∧ laidMet Tryd.prog laidL w) ∧ sizedMet enc Tryd.prog Tryd.f6 (OpenSpec.ofChange Rows.rotateBackSpec) false w args)
      (Rows.rotateBackSpec.post enc Tryd.prog Tryd.f6 false true false false) := by
  refine returnsInHanded_of_change_and (C := Tryd.checked) (X := fun w _ => laidMet Tryd.prog laidL w) (fun _ _ _ hh h => h.of_heap hh) own started (by kernel_rfl) Tryd.func6
    (ChangeSpec.witness_at (enc := enc) (C := Tryd.checked) (os := os) (X := fun w _ => laidMet Tryd.prog laidL w) false (laidWorld os) #[.int .u16 0, .int .u16 0] 8 rfl (by kernel_rfl) (by kernel_rfl) (by kernel_rfl) (by kernel_rfl) (by kernel_rfl) (laidWorld_met os _)) ?_
  intro W base args ds gs before hval0 hW hcnd hsz0 hL _
  have hval : ∀ (j : Nat) t v, Tryd.f6.params[j]? = some t → args[j]? = some v → Value.okWide Tryd.prog W .any base t v := hval0
  have hW' := hW
  obtain ⟨p, q, hA0, hV, rfl, hfz, hnd⟩ := hW
  have hA : DataW.TrodAll enc Tryd.prog W 0 (fun _ => true) true Tryd.f6.params.toList args.toList ds p := hA0
  rw [Tryd.params6] at hA hval
  obtain ⟨v0, vs0, d0, ds0, p0, q0, hargs, rfl, rfl, h0, r0⟩ := trodAll_cons hA
  obtain ⟨v1, vs1, d1, ds1, p1, q1, rfl, rfl, rfl, h1, r1⟩ := trodAll_cons r0
  obtain ⟨rfl, rfl, rfl⟩ := trodAll_nil r1
  obtain rfl : args = #[v0, v1] := by cases args; simp_all
  obtain ⟨rfl, rfl⟩ := trodVars_none hV
  obtain ⟨a0, rfl, rfl, rfl, w0⟩ := open_int Tryd.underlying41 (hval 0 41 v0 rfl rfl) h0
  obtain ⟨a1, rfl, rfl, rfl, w1⟩ := open_int Tryd.underlying41 (hval 1 41 v1 rfl rfl) h1
  clear hA0 hval0
  simp only [List.append_nil] at hW'
  refine (walk a0 a1 w0 w1 W hL).mono fun e W' ⟨he, bel⟩ => ?_
  subst he
  exact ⟨_, rfl, _, _, _, [], _, [], hW', trodAll_mk1 (shut_bool Tryd.underlying4 _), (trodAll_cons_mk (shut_int Tryd.underlying41 w0) (trodAll_cons_mk (shut_int Tryd.underlying41 w1) trodAll_mk0)), rfl, bel.frame _, fun h => by cases h⟩

theorem over : Rows.rotateBackRow.holds Tryd.pinned (OpenSpec.ofChange Rows.rotateBackSpec) :=
  OpenClaim.holds_of_wide 6 Tryd.f6 rfl rfl rfl rfl rfl rfl rfl ⟨rfl, rfl, rfl, rfl, rfl⟩ rfl rfl rfl rfl rfl (by kernel_rfl) Tryd.func6 (by kernel_rfl)
    (of_decide_eq_true (by kernel_rfl)) (by unfold Func.isWrapper; first | (rw [if_pos (by decide +kernel)]; kernel_rfl) | (rw [if_neg (by decide +kernel)]; exact ⟨rfl, rfl⟩))
    (fun os started H enc _ => lifted os started H enc)

/-- ████ THE STATEMENT: the tied card ████ -/
theorem proved : Rows.RotateBackCardSaid :=
  Claim7.holds_tied_plain_at .later [] [.data, .data, .data, .sentinel, .sentinel] true (true, "56320fcd91e84842d7252582314b476791865418546fae4562beb8a1d8384d4a") true
    over (fun _ h => by cases h) (by kernel_rfl) (fun _ h => by cases h) rotateBack_row_tie rfl ⟨rfl, rfl⟩ (by kernel_rfl) rfl
    (fun f fn hf hfn => by
      obtain rfl : f = 6 := Option.some.inj ((show Tryd.prog.funcNamed "kaudit/kauditlaw26.RotateBack" = some 6 by kernel_rfl).symm.trans hf) |>.symm
      obtain rfl : fn = Tryd.f6 := (Option.some.inj (Tryd.func6.symm.trans hfn)).symm
      refine ⟨by kernel_rfl, fun j t ht => ?_⟩
      rw [Tryd.params6] at ht
      have hall : ∀ t ∈ ([41, 41] : List TypeId), Tryd.prog.wantsStandIn t = false := by
        intro t ht
        have : (([41, 41] : List TypeId).all fun t => !Tryd.prog.wantsStandIn t) = true := by kernel_rfl
        simpa using List.all_eq_true.1 this t ht
      exact hall t (by have := Array.mem_of_getElem? ht; simpa using this))
    (by kernel_rfl)
end Go.Proofs.YtgcigcbhilcgoaaDoor.rotateBack
