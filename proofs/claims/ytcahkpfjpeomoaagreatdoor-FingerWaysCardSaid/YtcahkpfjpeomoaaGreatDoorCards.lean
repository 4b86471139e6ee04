/-
  DERIVED. GIVEN WITH THE SEED: THE CARDS: each row of YtcahkpfjpeomoaaGreatDoorRows.lean that lists a variable, with what it lists TIED to the program's text (the seventh form; the later family's looks); each row that meets fmt, with fmt's text TOLD by the authors' own Lean function (tested against real Go, not proved from fmt's source: count such statements apart). THE CARD IS WHAT COUNTS. Prove the row's statement (the work); the ties are given (YtcahkpfjpeomoaaGreatDoorTie.lean); close each card by the builder's one call (the guide's Derived/Test/ToyasCard.lean, 'card_holds'). Laid BY PROGRAM, IN A SANDBOX (cutbox-door.mjs). By AI agents, Wed Nov 11 2026. No macro, syntax, notation, axiom, sorry.
-/
import Derived.Test.YtcahkpfjpeomoaaGreatDoorRows
import GoSem.ClaimSeven
namespace Go.Proofs.YtcahkpfjpeomoaaGreatDoor
namespace Rows

/-- THE TIED CARD OF 'webfingerlaw27.FingerWays'. -/
def fingerWaysCard : Claim7 := { stood := { row := fingerWaysRow, standIns := [], harness := (true, "8ea589ea6e6ffbe2ee92c40c8d407befc8bd03989d413e692f079627456012c1"), looks := false }, kinds := [], alts := [], laidByText := true, laidKinds := [.data, .data, .pinned], laidTests := true, laidLooks := .later }
def FingerWaysCardSaid : Prop := Claim7.holds Tryz.pinned (.plain (OpenSpec.ofChange fingerWaysSpec)) fingerWaysCard

/-- THE SECOND FORM's CARD OF 'webfingerlaw27.FingerWays'. -/
def fingerWaysUptoCard : Claim7 := { stood := { row := fingerWaysUptoRow, standIns := [], harness := (true, "8ea589ea6e6ffbe2ee92c40c8d407befc8bd03989d413e692f079627456012c1"), looks := false }, kinds := [], alts := [], laidByText := true, laidKinds := [.data, .data, .pinned], laidTests := true, laidLooks := .later }
def FingerWaysUptoCardSaid : Prop := Claim7.holds Tryz.pinned (.plain (OpenSpec.upto fingerWaysSpec)) fingerWaysUptoCard
end Rows
end Go.Proofs.YtcahkpfjpeomoaaGreatDoor
