/-
  DERIVED. GIVEN WITH THE SEED: THE CARDS: each row of YtalbfkgififmfaaGreatDoorRows.lean that lists a variable, with what it lists TIED to the program's text (the seventh form; the later family's looks); each row that meets fmt, with fmt's text TOLD by the authors' own Lean function (tested against real Go, not proved from fmt's source: count such statements apart). THE CARD IS WHAT COUNTS. Prove the row's statement (the work); the ties are given (YtalbfkgififmfaaGreatDoorTie.lean); close each card by the builder's one call (the guide's Derived/Test/ToyasCard.lean, 'card_holds'). Laid BY PROGRAM, IN A SANDBOX (cutbox-door.mjs). By AI agents, Wed Nov 11 2026. No macro, syntax, notation, axiom, sorry.
-/
import Derived.Test.YtalbfkgififmfaaGreatDoorRows
import GoSem.ClaimSeven
namespace Go.Proofs.YtalbfkgififmfaaGreatDoor
namespace Rows

/-- THE TIED CARD OF 'webfingerlaw28.DidfetchLooks'. -/
def didfetchLooksCard : Claim7 := { stood := { row := didfetchLooksRow, standIns := [], harness := (true, "a5969abc4903242bbaf709d914c3bdd4c1bd1362cfc57d56276ff97b26d17f48"), looks := false }, kinds := [], alts := [], laidByText := true, laidKinds := [.data, .data, .pinned], laidTests := true, laidLooks := .later }
def DidfetchLooksCardSaid : Prop := Claim7.holds Tryz.pinned (.plain (OpenSpec.ofChange didfetchLooksSpec)) didfetchLooksCard

/-- THE SECOND FORM's CARD OF 'webfingerlaw28.DidfetchLooks'. -/
def didfetchLooksUptoCard : Claim7 := { stood := { row := didfetchLooksUptoRow, standIns := [], harness := (true, "a5969abc4903242bbaf709d914c3bdd4c1bd1362cfc57d56276ff97b26d17f48"), looks := false }, kinds := [], alts := [], laidByText := true, laidKinds := [.data, .data, .pinned], laidTests := true, laidLooks := .later }
def DidfetchLooksUptoCardSaid : Prop := Claim7.holds Tryz.pinned (.plain (OpenSpec.upto didfetchLooksSpec)) didfetchLooksUptoCard
end Rows
end Go.Proofs.YtalbfkgififmfaaGreatDoor
