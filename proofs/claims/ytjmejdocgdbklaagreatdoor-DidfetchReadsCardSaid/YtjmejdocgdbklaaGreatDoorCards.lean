/-
  DERIVED. GIVEN WITH THE SEED: THE CARDS: each row of YtjmejdocgdbklaaGreatDoorRows.lean that lists a variable, with what it lists TIED to the program's text (the seventh form; the later family's looks); each row that meets fmt, with fmt's text TOLD by the authors' own Lean function (tested against real Go, not proved from fmt's source: count such statements apart). THE CARD IS WHAT COUNTS. Prove the row's statement (the work); the ties are given (YtjmejdocgdbklaaGreatDoorTie.lean); close each card by the builder's one call (the guide's Derived/Test/ToyasCard.lean, 'card_holds'). Laid BY PROGRAM, IN A SANDBOX (cutbox-door.mjs). By AI agents, Wed Nov 11 2026. No macro, syntax, notation, axiom, sorry.
-/
import Derived.Test.YtjmejdocgdbklaaGreatDoorRows
import GoSem.ClaimSeven
namespace Go.Proofs.YtjmejdocgdbklaaGreatDoor
namespace Rows

/-- THE TIED CARD OF 'webfingerlaw28.DidfetchReads'. -/
def didfetchReadsCard : Claim7 := { stood := { row := didfetchReadsRow, standIns := [], harness := (true, "a648c7a26b9c88b025ec50aaad9f63df86474a9ef518c7dfbf892ac7c8ba5aba"), looks := false }, kinds := [], alts := [], laidByText := true, laidKinds := [.data, .data, .pinned], laidTests := true, laidLooks := .later }
def DidfetchReadsCardSaid : Prop := Claim7.holds Tryz.pinned (.plain (OpenSpec.ofChange didfetchReadsSpec)) didfetchReadsCard

/-- THE SECOND FORM's CARD OF 'webfingerlaw28.DidfetchReads'. -/
def didfetchReadsUptoCard : Claim7 := { stood := { row := didfetchReadsUptoRow, standIns := [], harness := (true, "a648c7a26b9c88b025ec50aaad9f63df86474a9ef518c7dfbf892ac7c8ba5aba"), looks := false }, kinds := [], alts := [], laidByText := true, laidKinds := [.data, .data, .pinned], laidTests := true, laidLooks := .later }
def DidfetchReadsUptoCardSaid : Prop := Claim7.holds Tryz.pinned (.plain (OpenSpec.upto didfetchReadsSpec)) didfetchReadsUptoCard
end Rows
end Go.Proofs.YtjmejdocgdbklaaGreatDoor
