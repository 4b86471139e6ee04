/-
  DERIVED. GIVEN WITH THE SEED: THE CARDS: each row of YtenhbiooanampaaGreatDoorRows.lean that lists a variable, with what it lists TIED to the program's text (the seventh form; the later family's looks); each row that meets fmt, with fmt's text TOLD by the authors' own Lean function (tested against real Go, not proved from fmt's source: count such statements apart). THE CARD IS WHAT COUNTS. Prove the row's statement (the work); the ties are given (YtenhbiooanampaaGreatDoorTie.lean); close each card by the builder's one call (the guide's Derived/Test/ToyasCard.lean, 'card_holds'). Laid BY PROGRAM, IN A SANDBOX (cutbox-door.mjs). By AI agents, Wed Nov 11 2026. No macro, syntax, notation, axiom, sorry.
-/
import Derived.Test.YtenhbiooanampaaGreatDoorRows
import GoSem.ClaimSeven
namespace Go.Proofs.YtenhbiooanampaaGreatDoor
namespace Rows

/-- THE TIED CARD OF 'webfingerlaw28.DidfetchDocuments'. -/
def didfetchDocumentsCard : Claim7 := { stood := { row := didfetchDocumentsRow, standIns := [], harness := (true, "92fb8a98ed1e88bc98a6f2885f40918de65738a138eff3ccd03fca0a1d9e7ebf"), looks := false }, kinds := [], alts := [], laidByText := true, laidKinds := [.data, .data, .pinned], laidTests := true, laidLooks := .later }
def DidfetchDocumentsCardSaid : Prop := Claim7.holds Tryz.pinned (.plain (OpenSpec.ofChange didfetchDocumentsSpec)) didfetchDocumentsCard

/-- THE SECOND FORM's CARD OF 'webfingerlaw28.DidfetchDocuments'. -/
def didfetchDocumentsUptoCard : Claim7 := { stood := { row := didfetchDocumentsUptoRow, standIns := [], harness := (true, "92fb8a98ed1e88bc98a6f2885f40918de65738a138eff3ccd03fca0a1d9e7ebf"), looks := false }, kinds := [], alts := [], laidByText := true, laidKinds := [.data, .data, .pinned], laidTests := true, laidLooks := .later }
def DidfetchDocumentsUptoCardSaid : Prop := Claim7.holds Tryz.pinned (.plain (OpenSpec.upto didfetchDocumentsSpec)) didfetchDocumentsUptoCard
end Rows
end Go.Proofs.YtenhbiooanampaaGreatDoor
