/-
  DERIVED. GIVEN WITH THE SEED: THE CARDS: each row of YtbmilkoebhmnnaaDoorRows.lean that lists a variable, with what it lists TIED to the program's text (the seventh form; the later family's looks); each row that meets fmt, with fmt's text TOLD by the authors' own Lean function (tested against real Go, not proved from fmt's source: count such statements apart). THE CARD IS WHAT COUNTS. Prove the row's statement (the work); the ties are given (YtbmilkoebhmnnaaDoorTie.lean); close each card by the builder's one call (the guide's Derived/Test/ToyasCard.lean, 'card_holds'). Laid BY PROGRAM, IN A SANDBOX (cutbox-door.mjs). By AI agents, Wed Nov 11 2026. No macro, syntax, notation, axiom, sorry.
-/
import Derived.Test.YtbmilkoebhmnnaaDoorRows
import GoSem.ClaimSeven
namespace Go.Proofs.YtbmilkoebhmnnaaDoor
namespace Rows

/-- THE TIED CARD OF 'webfingerlaw14.JsondocDepth'. -/
def jsondocDepthCard : Claim7 := { stood := { row := jsondocDepthRow, standIns := [], harness := (true, "dafe97052be55424056691b09c85ea3faf71c50711d4d8c4acf4cf8c68514bdd"), looks := false }, kinds := [], alts := [], laidByText := true, laidKinds := [.data, .data, .pinned], laidTests := true, laidLooks := .later }
def JsondocDepthCardSaid : Prop := Claim7.holds Tryd.pinned (.plain (OpenSpec.ofChange jsondocDepthSpec)) jsondocDepthCard

/-- THE TIED CARD OF 'webfingerlaw14.JsondocTwice'. -/
def jsondocTwiceCard : Claim7 := { stood := { row := jsondocTwiceRow, standIns := [], harness := (true, "dafe97052be55424056691b09c85ea3faf71c50711d4d8c4acf4cf8c68514bdd"), looks := false }, kinds := [], alts := [], laidByText := true, laidKinds := [.data, .data, .pinned], laidTests := true, laidLooks := .later }
def JsondocTwiceCardSaid : Prop := Claim7.holds Tryd.pinned (.plain (OpenSpec.ofChange jsondocTwiceSpec)) jsondocTwiceCard

/-- THE TIED CARD OF 'webfingerlaw14.JsondocRaw'. -/
def jsondocRawCard : Claim7 := { stood := { row := jsondocRawRow, standIns := [], harness := (true, "dafe97052be55424056691b09c85ea3faf71c50711d4d8c4acf4cf8c68514bdd"), looks := false }, kinds := [], alts := [], laidByText := true, laidKinds := [.data, .data, .pinned], laidTests := true, laidLooks := .later }
def JsondocRawCardSaid : Prop := Claim7.holds Tryd.pinned (.plain (OpenSpec.ofChange jsondocRawSpec)) jsondocRawCard

/-- THE SECOND FORM's CARD OF 'webfingerlaw14.JsondocDepth'. -/
def jsondocDepthUptoCard : Claim7 := { stood := { row := jsondocDepthUptoRow, standIns := [], harness := (true, "dafe97052be55424056691b09c85ea3faf71c50711d4d8c4acf4cf8c68514bdd"), looks := false }, kinds := [], alts := [], laidByText := true, laidKinds := [.data, .data, .pinned], laidTests := true, laidLooks := .later }
def JsondocDepthUptoCardSaid : Prop := Claim7.holds Tryd.pinned (.plain (OpenSpec.upto jsondocDepthSpec)) jsondocDepthUptoCard

/-- THE SECOND FORM's CARD OF 'webfingerlaw14.JsondocTwice'. -/
def jsondocTwiceUptoCard : Claim7 := { stood := { row := jsondocTwiceUptoRow, standIns := [], harness := (true, "dafe97052be55424056691b09c85ea3faf71c50711d4d8c4acf4cf8c68514bdd"), looks := false }, kinds := [], alts := [], laidByText := true, laidKinds := [.data, .data, .pinned], laidTests := true, laidLooks := .later }
def JsondocTwiceUptoCardSaid : Prop := Claim7.holds Tryd.pinned (.plain (OpenSpec.upto jsondocTwiceSpec)) jsondocTwiceUptoCard

/-- THE SECOND FORM's CARD OF 'webfingerlaw14.JsondocRaw'. -/
def jsondocRawUptoCard : Claim7 := { stood := { row := jsondocRawUptoRow, standIns := [], harness := (true, "dafe97052be55424056691b09c85ea3faf71c50711d4d8c4acf4cf8c68514bdd"), looks := false }, kinds := [], alts := [], laidByText := true, laidKinds := [.data, .data, .pinned], laidTests := true, laidLooks := .later }
def JsondocRawUptoCardSaid : Prop := Claim7.holds Tryd.pinned (.plain (OpenSpec.upto jsondocRawSpec)) jsondocRawUptoCard
end Rows
end Go.Proofs.YtbmilkoebhmnnaaDoor
