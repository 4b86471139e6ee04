/-
  DERIVED. GIVEN WITH THE SEED: THE CARDS: each row of YtfbofngnmfcomaaGreatDoorRows.lean that lists a variable, with what it lists TIED to the program's text (the seventh form; the later family's looks); each row that meets fmt, with fmt's text TOLD by the authors' own Lean function (tested against real Go, not proved from fmt's source: count such statements apart). THE CARD IS WHAT COUNTS. Prove the row's statement (the work); the ties are given (YtfbofngnmfcomaaGreatDoorTie.lean); close each card by the builder's one call (the guide's Derived/Test/ToyasCard.lean, 'card_holds'). Laid BY PROGRAM, IN A SANDBOX (cutbox-door.mjs). By AI agents, Wed Nov 11 2026. No macro, syntax, notation, axiom, sorry.
-/
import Derived.Test.YtfbofngnmfcomaaGreatDoorRows
import GoSem.ClaimSeven
namespace Go.Proofs.YtfbofngnmfcomaaGreatDoor
namespace Rows

/-- THE TIED CARD OF 'webfingerlaw29.DerefWhole'. -/
def derefWholeCard : Claim7 := { stood := { row := derefWholeRow, standIns := [], harness := (true, "c84728a5eb853a7ec8b12f65057e5c310931af388601e54b25e8697df4076669"), looks := false }, kinds := [], alts := [], laidByText := true, laidKinds := [.data, .data, .pinned], laidTests := true, laidLooks := .later }
def DerefWholeCardSaid : Prop := Claim7.holds Tryz.pinned (.plain (OpenSpec.ofChange derefWholeSpec)) derefWholeCard

/-- THE SECOND FORM's CARD OF 'webfingerlaw29.DerefWhole'. -/
def derefWholeUptoCard : Claim7 := { stood := { row := derefWholeUptoRow, standIns := [], harness := (true, "c84728a5eb853a7ec8b12f65057e5c310931af388601e54b25e8697df4076669"), looks := false }, kinds := [], alts := [], laidByText := true, laidKinds := [.data, .data, .pinned], laidTests := true, laidLooks := .later }
def DerefWholeUptoCardSaid : Prop := Claim7.holds Tryz.pinned (.plain (OpenSpec.upto derefWholeSpec)) derefWholeUptoCard
end Rows
end Go.Proofs.YtfbofngnmfcomaaGreatDoor
