/-
  DERIVED. GIVEN WITH THE SEED: THE CARDS: each row of YtbmilkoebhmnnaaGreatDoorRows.lean that lists a variable, with what it lists TIED to the program's text (the seventh form; the later family's looks); each row that meets fmt, with fmt's text TOLD by the authors' own Lean function (tested against real Go, not proved from fmt's source: count such statements apart). THE CARD IS WHAT COUNTS. Prove the row's statement (the work); the ties are given (YtbmilkoebhmnnaaGreatDoorTie.lean); close each card by the builder's one call (the guide's Derived/Test/ToyasCard.lean, 'card_holds'). Laid BY PROGRAM, IN A SANDBOX (cutbox-door.mjs). By AI agents, Wed Nov 11 2026. No macro, syntax, notation, axiom, sorry.
-/
import Derived.Test.YtbmilkoebhmnnaaGreatDoorRows
import GoSem.ClaimSeven
namespace Go.Proofs.YtbmilkoebhmnnaaGreatDoor
namespace Rows

/-- THE TIED CARD OF 'webfingerlaw14.JsondocParses'. -/
def jsondocParsesCard : Claim7 := { stood := { row := jsondocParsesRow, standIns := [], harness := (true, "9616cffb4488a4515c656420152c153d169dc18a31a81b35e370bf0d5e1a5eba"), looks := false }, kinds := [], alts := [], laidByText := true, laidKinds := [.data, .data, .pinned], laidTests := true, laidLooks := .later }
def JsondocParsesCardSaid : Prop := Claim7.holds Tryz.pinned (.plain (OpenSpec.ofChange jsondocParsesSpec)) jsondocParsesCard

/-- THE TIED CARD OF 'webfingerlaw14.JsondocCuts'. -/
def jsondocCutsCard : Claim7 := { stood := { row := jsondocCutsRow, standIns := [], harness := (true, "9616cffb4488a4515c656420152c153d169dc18a31a81b35e370bf0d5e1a5eba"), looks := false }, kinds := [], alts := [], laidByText := true, laidKinds := [.data, .data, .pinned], laidTests := true, laidLooks := .later }
def JsondocCutsCardSaid : Prop := Claim7.holds Tryz.pinned (.plain (OpenSpec.ofChange jsondocCutsSpec)) jsondocCutsCard

/-- THE TIED CARD OF 'webfingerlaw14.JsondocSpaces'. -/
def jsondocSpacesCard : Claim7 := { stood := { row := jsondocSpacesRow, standIns := [], harness := (true, "9616cffb4488a4515c656420152c153d169dc18a31a81b35e370bf0d5e1a5eba"), looks := false }, kinds := [], alts := [], laidByText := true, laidKinds := [.data, .data, .pinned], laidTests := true, laidLooks := .later }
def JsondocSpacesCardSaid : Prop := Claim7.holds Tryz.pinned (.plain (OpenSpec.ofChange jsondocSpacesSpec)) jsondocSpacesCard

/-- THE TIED CARD OF 'webfingerlaw14.JsondocGets'. -/
def jsondocGetsCard : Claim7 := { stood := { row := jsondocGetsRow, standIns := [], harness := (true, "9616cffb4488a4515c656420152c153d169dc18a31a81b35e370bf0d5e1a5eba"), looks := false }, kinds := [], alts := [], laidByText := true, laidKinds := [.data, .data, .pinned], laidTests := true, laidLooks := .later }
def JsondocGetsCardSaid : Prop := Claim7.holds Tryz.pinned (.plain (OpenSpec.ofChange jsondocGetsSpec)) jsondocGetsCard

/-- THE SECOND FORM's CARD OF 'webfingerlaw14.JsondocParses'. -/
def jsondocParsesUptoCard : Claim7 := { stood := { row := jsondocParsesUptoRow, standIns := [], harness := (true, "9616cffb4488a4515c656420152c153d169dc18a31a81b35e370bf0d5e1a5eba"), looks := false }, kinds := [], alts := [], laidByText := true, laidKinds := [.data, .data, .pinned], laidTests := true, laidLooks := .later }
def JsondocParsesUptoCardSaid : Prop := Claim7.holds Tryz.pinned (.plain (OpenSpec.upto jsondocParsesSpec)) jsondocParsesUptoCard

/-- THE SECOND FORM's CARD OF 'webfingerlaw14.JsondocCuts'. -/
def jsondocCutsUptoCard : Claim7 := { stood := { row := jsondocCutsUptoRow, standIns := [], harness := (true, "9616cffb4488a4515c656420152c153d169dc18a31a81b35e370bf0d5e1a5eba"), looks := false }, kinds := [], alts := [], laidByText := true, laidKinds := [.data, .data, .pinned], laidTests := true, laidLooks := .later }
def JsondocCutsUptoCardSaid : Prop := Claim7.holds Tryz.pinned (.plain (OpenSpec.upto jsondocCutsSpec)) jsondocCutsUptoCard

/-- THE SECOND FORM's CARD OF 'webfingerlaw14.JsondocSpaces'. -/
def jsondocSpacesUptoCard : Claim7 := { stood := { row := jsondocSpacesUptoRow, standIns := [], harness := (true, "9616cffb4488a4515c656420152c153d169dc18a31a81b35e370bf0d5e1a5eba"), looks := false }, kinds := [], alts := [], laidByText := true, laidKinds := [.data, .data, .pinned], laidTests := true, laidLooks := .later }
def JsondocSpacesUptoCardSaid : Prop := Claim7.holds Tryz.pinned (.plain (OpenSpec.upto jsondocSpacesSpec)) jsondocSpacesUptoCard

/-- THE SECOND FORM's CARD OF 'webfingerlaw14.JsondocGets'. -/
def jsondocGetsUptoCard : Claim7 := { stood := { row := jsondocGetsUptoRow, standIns := [], harness := (true, "9616cffb4488a4515c656420152c153d169dc18a31a81b35e370bf0d5e1a5eba"), looks := false }, kinds := [], alts := [], laidByText := true, laidKinds := [.data, .data, .pinned], laidTests := true, laidLooks := .later }
def JsondocGetsUptoCardSaid : Prop := Claim7.holds Tryz.pinned (.plain (OpenSpec.upto jsondocGetsSpec)) jsondocGetsUptoCard
end Rows
end Go.Proofs.YtbmilkoebhmnnaaGreatDoor
