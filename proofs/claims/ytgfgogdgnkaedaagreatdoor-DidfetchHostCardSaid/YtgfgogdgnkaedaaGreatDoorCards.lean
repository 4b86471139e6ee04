/-
  DERIVED. GIVEN WITH THE SEED: THE CARDS: each row of YtgfgogdgnkaedaaGreatDoorRows.lean that lists a variable, with what it lists TIED to the program's text (the seventh form; the later family's looks); each row that meets fmt, with fmt's text TOLD by the authors' own Lean function (tested against real Go, not proved from fmt's source: count such statements apart). THE CARD IS WHAT COUNTS. Prove the row's statement (the work); the ties are given (YtgfgogdgnkaedaaGreatDoorTie.lean); close each card by the builder's one call (the guide's Derived/Test/ToyasCard.lean, 'card_holds'). Laid BY PROGRAM, IN A SANDBOX (cutbox-door.mjs). By AI agents, Wed Nov 11 2026. No macro, syntax, notation, axiom, sorry.
-/
import Derived.Test.YtgfgogdgnkaedaaGreatDoorRows
import GoSem.ClaimSeven
namespace Go.Proofs.YtgfgogdgnkaedaaGreatDoor
namespace Rows

/-- THE TIED CARD OF 'webfingerlaw28.DidfetchHost'. -/
def didfetchHostCard : Claim7 := { stood := { row := didfetchHostRow, standIns := [], harness := (true, "9d1fa1168f411d0fb435d068e765523a0dcbc310a038965db4f3faf9031e6b06"), looks := false }, kinds := [], alts := [], laidByText := true, laidKinds := [.data, .data, .pinned], laidTests := true, laidLooks := .later }
def DidfetchHostCardSaid : Prop := Claim7.holds Tryz.pinned (.plain (OpenSpec.ofChange didfetchHostSpec)) didfetchHostCard

/-- THE SECOND FORM's CARD OF 'webfingerlaw28.DidfetchHost'. -/
def didfetchHostUptoCard : Claim7 := { stood := { row := didfetchHostUptoRow, standIns := [], harness := (true, "9d1fa1168f411d0fb435d068e765523a0dcbc310a038965db4f3faf9031e6b06"), looks := false }, kinds := [], alts := [], laidByText := true, laidKinds := [.data, .data, .pinned], laidTests := true, laidLooks := .later }
def DidfetchHostUptoCardSaid : Prop := Claim7.holds Tryz.pinned (.plain (OpenSpec.upto didfetchHostSpec)) didfetchHostUptoCard
end Rows
end Go.Proofs.YtgfgogdgnkaedaaGreatDoor
