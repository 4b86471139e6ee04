/-
  DERIVED. GIVEN WITH THE SEED: THE CARDS: each row of YtfcejbjjeaaleaaGreatDoorRows.lean that lists a variable, with what it lists TIED to the program's text (the seventh form; the later family's looks); each row that meets fmt, with fmt's text TOLD by the authors' own Lean function (tested against real Go, not proved from fmt's source: count such statements apart). THE CARD IS WHAT COUNTS. Prove the row's statement (the work); the ties are given (YtfcejbjjeaaleaaGreatDoorTie.lean); close each card by the builder's one call (the guide's Derived/Test/ToyasCard.lean, 'card_holds'). Laid BY PROGRAM, IN A SANDBOX (cutbox-door.mjs). By AI agents, Wed Nov 11 2026. No macro, syntax, notation, axiom, sorry.
-/
import Derived.Test.YtfcejbjjeaaleaaGreatDoorRows
import GoSem.ClaimSeven
namespace Go.Proofs.YtfcejbjjeaaleaaGreatDoor
namespace Rows

/-- THE TIED CARD OF 'webfingerlaw27.FingerReads'. -/
def fingerReadsCard : Claim7 := { stood := { row := fingerReadsRow, standIns := [], harness := (true, "02a2cfb74e00a77353207f05d4e144a930c9b0af5eb00c0153c6221cf303d210"), looks := false }, kinds := [], alts := [], laidByText := true, laidKinds := [.data, .data, .pinned], laidTests := true, laidLooks := .later }
def FingerReadsCardSaid : Prop := Claim7.holds Tryz.pinned (.plain (OpenSpec.ofChange fingerReadsSpec)) fingerReadsCard

/-- THE SECOND FORM's CARD OF 'webfingerlaw27.FingerReads'. -/
def fingerReadsUptoCard : Claim7 := { stood := { row := fingerReadsUptoRow, standIns := [], harness := (true, "02a2cfb74e00a77353207f05d4e144a930c9b0af5eb00c0153c6221cf303d210"), looks := false }, kinds := [], alts := [], laidByText := true, laidKinds := [.data, .data, .pinned], laidTests := true, laidLooks := .later }
def FingerReadsUptoCardSaid : Prop := Claim7.holds Tryz.pinned (.plain (OpenSpec.upto fingerReadsSpec)) fingerReadsUptoCard
end Rows
end Go.Proofs.YtfcejbjjeaaleaaGreatDoor
