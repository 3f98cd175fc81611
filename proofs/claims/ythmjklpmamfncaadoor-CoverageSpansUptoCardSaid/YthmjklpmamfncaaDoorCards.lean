/-
  DERIVED. GIVEN WITH THE SEED: THE CARDS: each row of YthmjklpmamfncaaDoorRows.lean that lists a variable, with what it lists TIED to the program's text (the seventh form; the later family's looks); each row that meets fmt, with fmt's text TOLD by the authors' own Lean function (tested against real Go, not proved from fmt's source: count such statements apart). THE CARD IS WHAT COUNTS. Prove the row's statement (the work); the ties are given (YthmjklpmamfncaaDoorTie.lean); close each card by the builder's one call (the guide's Derived/Test/ToyasCard.lean, 'card_holds'). Laid BY PROGRAM, IN A SANDBOX (cutbox-door.mjs). By AI agents, Wed Nov 11 2026. No macro, syntax, notation, axiom, sorry.
-/
import Derived.Test.YthmjklpmamfncaaDoorRows
import GoSem.ClaimSeven
namespace Go.Proofs.YthmjklpmamfncaaDoor
namespace Rows

/-- THE TIED CARD OF 'kauditlaw40.CoverageSpans'. -/
def coverageSpansCard : Claim7 := { stood := { row := coverageSpansRow, standIns := [], harness := (true, "e2601942dbd289875c7ab304d680439ccef1d0b4c4b9398f50efa15c9ec072d3"), looks := false }, kinds := [], alts := [], laidByText := true, laidKinds := [.data, .data, .data, .widerDeep], laidTests := true, laidLooks := .later }
def CoverageSpansCardSaid : Prop := Claim7.holds Tryd.pinned (.plain (OpenSpec.ofChange coverageSpansSpec)) coverageSpansCard

/-- THE TIED CARD OF 'kauditlaw40.CoverageMerges'. -/
def coverageMergesCard : Claim7 := { stood := { row := coverageMergesRow, standIns := [], harness := (true, "e2601942dbd289875c7ab304d680439ccef1d0b4c4b9398f50efa15c9ec072d3"), looks := false }, kinds := [], alts := [], laidByText := true, laidKinds := [.data, .data, .data, .widerDeep], laidTests := true, laidLooks := .later }
def CoverageMergesCardSaid : Prop := Claim7.holds Tryd.pinned (.plain (OpenSpec.ofChange coverageMergesSpec)) coverageMergesCard

/-- THE SECOND FORM's CARD OF 'kauditlaw40.CoverageSpans'. -/
def coverageSpansUptoCard : Claim7 := { stood := { row := coverageSpansUptoRow, standIns := [], harness := (true, "e2601942dbd289875c7ab304d680439ccef1d0b4c4b9398f50efa15c9ec072d3"), looks := false }, kinds := [], alts := [], laidByText := true, laidKinds := [.data, .data, .data, .widerDeep], laidTests := true, laidLooks := .later }
def CoverageSpansUptoCardSaid : Prop := Claim7.holds Tryd.pinned (.plain (OpenSpec.upto coverageSpansSpec)) coverageSpansUptoCard

/-- THE SECOND FORM's CARD OF 'kauditlaw40.CoverageMerges'. -/
def coverageMergesUptoCard : Claim7 := { stood := { row := coverageMergesUptoRow, standIns := [], harness := (true, "e2601942dbd289875c7ab304d680439ccef1d0b4c4b9398f50efa15c9ec072d3"), looks := false }, kinds := [], alts := [], laidByText := true, laidKinds := [.data, .data, .data, .widerDeep], laidTests := true, laidLooks := .later }
def CoverageMergesUptoCardSaid : Prop := Claim7.holds Tryd.pinned (.plain (OpenSpec.upto coverageMergesSpec)) coverageMergesUptoCard
end Rows
end Go.Proofs.YthmjklpmamfncaaDoor
