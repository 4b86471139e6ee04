/-
  DERIVED. GIVEN WITH THE SEED: THE CARDS: each row of YtjgdhjpafjpjgaaGreatDoorRows.lean that lists a variable, with what it lists TIED to the program's text (the seventh form; the later family's looks); each row that meets fmt, with fmt's text TOLD by the authors' own Lean function (tested against real Go, not proved from fmt's source: count such statements apart). THE CARD IS WHAT COUNTS. Prove the row's statement (the work); the ties are given (YtjgdhjpafjpjgaaGreatDoorTie.lean); close each card by the builder's one call (the guide's Derived/Test/ToyasCard.lean, 'card_holds'). Laid BY PROGRAM, IN A SANDBOX (cutbox-door.mjs). By AI agents, Wed Nov 11 2026. No macro, syntax, notation, axiom, sorry.
-/
import Derived.Test.YtjgdhjpafjpjgaaGreatDoorRows
import GoSem.ClaimSeven
namespace Go.Proofs.YtjgdhjpafjpjgaaGreatDoor
namespace Rows

/-- THE TIED CARD OF 'webfingerlaw27.FingerURLs'. -/
def fingerURLsCard : Claim7 := { stood := { row := fingerURLsRow, standIns := [], harness := (true, "47efb0caec8104f0f20144532d86abd7646ab40c9700daaf8c742e86e58fa110"), looks := false }, kinds := [], alts := [], laidByText := true, laidKinds := [.data, .pinned], laidTests := true, laidLooks := .later }
def FingerURLsCardSaid : Prop := Claim7.holds Tryz.pinned (.plain (OpenSpec.ofChange fingerURLsSpec)) fingerURLsCard

/-- THE TIED CARD OF 'webfingerlaw29.DerefParams'. -/
def derefParamsCard : Claim7 := { stood := { row := derefParamsRow, standIns := [], harness := (true, "47efb0caec8104f0f20144532d86abd7646ab40c9700daaf8c742e86e58fa110"), looks := false }, kinds := [], alts := [], laidByText := true, laidKinds := [.data, .pinned], laidTests := true, laidLooks := .later }
def DerefParamsCardSaid : Prop := Claim7.holds Tryz.pinned (.plain (OpenSpec.ofChange derefParamsSpec)) derefParamsCard

/-- THE TIED CARD OF 'webfingerlaw29.DerefServices'. -/
def derefServicesCard : Claim7 := { stood := { row := derefServicesRow, standIns := [], harness := (true, "47efb0caec8104f0f20144532d86abd7646ab40c9700daaf8c742e86e58fa110"), looks := false }, kinds := [], alts := [], laidByText := true, laidKinds := [.data, .pinned], laidTests := true, laidLooks := .later }
def DerefServicesCardSaid : Prop := Claim7.holds Tryz.pinned (.plain (OpenSpec.ofChange derefServicesSpec)) derefServicesCard

/-- THE TIED CARD OF 'webfingerlaw27.FingerNames'. -/
def fingerNamesCard : Claim7 := { stood := { row := fingerNamesRow, standIns := [], harness := (true, "47efb0caec8104f0f20144532d86abd7646ab40c9700daaf8c742e86e58fa110"), looks := false }, kinds := [], alts := [], laidByText := true, laidKinds := [.data, .pinned], laidTests := true, laidLooks := .later }
def FingerNamesCardSaid : Prop := Claim7.holds Tryz.pinned (.plain (OpenSpec.ofChange fingerNamesSpec)) fingerNamesCard

/-- THE SECOND FORM's CARD OF 'webfingerlaw27.FingerURLs'. -/
def fingerURLsUptoCard : Claim7 := { stood := { row := fingerURLsUptoRow, standIns := [], harness := (true, "47efb0caec8104f0f20144532d86abd7646ab40c9700daaf8c742e86e58fa110"), looks := false }, kinds := [], alts := [], laidByText := true, laidKinds := [.data, .pinned], laidTests := true, laidLooks := .later }
def FingerURLsUptoCardSaid : Prop := Claim7.holds Tryz.pinned (.plain (OpenSpec.upto fingerURLsSpec)) fingerURLsUptoCard

/-- THE SECOND FORM's CARD OF 'webfingerlaw29.DerefParams'. -/
def derefParamsUptoCard : Claim7 := { stood := { row := derefParamsUptoRow, standIns := [], harness := (true, "47efb0caec8104f0f20144532d86abd7646ab40c9700daaf8c742e86e58fa110"), looks := false }, kinds := [], alts := [], laidByText := true, laidKinds := [.data, .pinned], laidTests := true, laidLooks := .later }
def DerefParamsUptoCardSaid : Prop := Claim7.holds Tryz.pinned (.plain (OpenSpec.upto derefParamsSpec)) derefParamsUptoCard

/-- THE SECOND FORM's CARD OF 'webfingerlaw29.DerefServices'. -/
def derefServicesUptoCard : Claim7 := { stood := { row := derefServicesUptoRow, standIns := [], harness := (true, "47efb0caec8104f0f20144532d86abd7646ab40c9700daaf8c742e86e58fa110"), looks := false }, kinds := [], alts := [], laidByText := true, laidKinds := [.data, .pinned], laidTests := true, laidLooks := .later }
def DerefServicesUptoCardSaid : Prop := Claim7.holds Tryz.pinned (.plain (OpenSpec.upto derefServicesSpec)) derefServicesUptoCard

/-- THE SECOND FORM's CARD OF 'webfingerlaw27.FingerNames'. -/
def fingerNamesUptoCard : Claim7 := { stood := { row := fingerNamesUptoRow, standIns := [], harness := (true, "47efb0caec8104f0f20144532d86abd7646ab40c9700daaf8c742e86e58fa110"), looks := false }, kinds := [], alts := [], laidByText := true, laidKinds := [.data, .pinned], laidTests := true, laidLooks := .later }
def FingerNamesUptoCardSaid : Prop := Claim7.holds Tryz.pinned (.plain (OpenSpec.upto fingerNamesSpec)) fingerNamesUptoCard
end Rows
end Go.Proofs.YtjgdhjpafjpjgaaGreatDoor
