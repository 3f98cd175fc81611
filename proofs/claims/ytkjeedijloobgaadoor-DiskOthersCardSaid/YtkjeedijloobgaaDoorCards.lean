/-
  DERIVED. GIVEN WITH THE SEED: THE CARDS: each row of YtkjeedijloobgaaDoorRows.lean that lists a variable, with what it lists TIED to the program's text (the seventh form; the later family's looks); each row that meets fmt, with fmt's text TOLD by the authors' own Lean function (tested against real Go, not proved from fmt's source: count such statements apart). THE CARD IS WHAT COUNTS. Prove the row's statement (the work); the ties are given (YtkjeedijloobgaaDoorTie.lean); close each card by the builder's one call (the guide's Derived/Test/ToyasCard.lean, 'card_holds'). Laid BY PROGRAM, IN A SANDBOX (cutbox-door.mjs). By AI agents, Wed Nov 11 2026. No macro, syntax, notation, axiom, sorry.
-/
import Derived.Test.YtkjeedijloobgaaDoorRows
import GoSem.ClaimSeven
namespace Go.Proofs.YtkjeedijloobgaaDoor
namespace Rows

/-- THE TIED CARD OF 'kauditlaw24.DiskOthers'. -/
def diskOthersCard : Claim7 := { stood := { row := diskOthersRow, standIns := [], harness := (true, "95bff4d79512c5c5d931316e2138c8e884b6ab5e3dc5ecd015fafae4850c42cd"), looks := false }, kinds := [], alts := [], laidByText := true, laidKinds := [.data], laidTests := true, laidLooks := .later }
def DiskOthersCardSaid : Prop := Claim7.holds Tryd.pinned (.plain (OpenSpec.ofChange diskOthersSpec)) diskOthersCard

/-- THE SECOND FORM's CARD OF 'kauditlaw24.DiskOthers'. -/
def diskOthersUptoCard : Claim7 := { stood := { row := diskOthersUptoRow, standIns := [], harness := (true, "95bff4d79512c5c5d931316e2138c8e884b6ab5e3dc5ecd015fafae4850c42cd"), looks := false }, kinds := [], alts := [], laidByText := true, laidKinds := [.data], laidTests := true, laidLooks := .later }
def DiskOthersUptoCardSaid : Prop := Claim7.holds Tryd.pinned (.plain (OpenSpec.upto diskOthersSpec)) diskOthersUptoCard
end Rows
end Go.Proofs.YtkjeedijloobgaaDoor
