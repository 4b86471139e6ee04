/-
  DERIVED. GIVEN WITH THE SEED: THE CARDS: each row of YtmdjjhakfoenpaaDoorRows.lean that lists a variable, with what it lists TIED to the program's text (the seventh form; the later family's looks); each row that meets fmt, with fmt's text TOLD by the authors' own Lean function (tested against real Go, not proved from fmt's source: count such statements apart). THE CARD IS WHAT COUNTS. Prove the row's statement (the work); the ties are given (YtmdjjhakfoenpaaDoorTie.lean); close each card by the builder's one call (the guide's Derived/Test/ToyasCard.lean, 'card_holds'). Laid BY PROGRAM, IN A SANDBOX (cutbox-door.mjs). By AI agents, Wed Nov 11 2026. No macro, syntax, notation, axiom, sorry.
-/
import Derived.Test.YtmdjjhakfoenpaaDoorRows
import GoSem.ClaimSeven
namespace Go.Proofs.YtmdjjhakfoenpaaDoor
namespace Rows

/-- THE TIED CARD OF 'webfingerlaw13.TokenReads'. -/
def tokenReadsCard : Claim7 := { stood := { row := tokenReadsRow, standIns := [], harness := (true, "e37fbe63729bf0784fe6d85cb75a243a7e4d8e87da462e36a08464983d128e1d"), looks := false }, kinds := [], alts := [], laidByText := true, laidKinds := [.data, .data, .pinned], laidTests := true, laidLooks := .later }
def TokenReadsCardSaid : Prop := Claim7.holds Tryd.pinned (.plain (OpenSpec.ofChange tokenReadsSpec)) tokenReadsCard

/-- THE TIED CARD OF 'webfingerlaw13.TokenQuotes'. -/
def tokenQuotesCard : Claim7 := { stood := { row := tokenQuotesRow, standIns := [], harness := (true, "e37fbe63729bf0784fe6d85cb75a243a7e4d8e87da462e36a08464983d128e1d"), looks := false }, kinds := [], alts := [], laidByText := true, laidKinds := [.data, .data, .pinned], laidTests := true, laidLooks := .later }
def TokenQuotesCardSaid : Prop := Claim7.holds Tryd.pinned (.plain (OpenSpec.ofChange tokenQuotesSpec)) tokenQuotesCard

/-- THE TIED CARD OF 'webfingerlaw13.TokenNumbers'. -/
def tokenNumbersCard : Claim7 := { stood := { row := tokenNumbersRow, standIns := [], harness := (true, "e37fbe63729bf0784fe6d85cb75a243a7e4d8e87da462e36a08464983d128e1d"), looks := false }, kinds := [], alts := [], laidByText := true, laidKinds := [.data, .data, .pinned], laidTests := true, laidLooks := .later }
def TokenNumbersCardSaid : Prop := Claim7.holds Tryd.pinned (.plain (OpenSpec.ofChange tokenNumbersSpec)) tokenNumbersCard

/-- THE TIED CARD OF 'webfingerlaw13.TokenOnce'. -/
def tokenOnceCard : Claim7 := { stood := { row := tokenOnceRow, standIns := [], harness := (true, "e37fbe63729bf0784fe6d85cb75a243a7e4d8e87da462e36a08464983d128e1d"), looks := false }, kinds := [], alts := [], laidByText := true, laidKinds := [.data, .data, .pinned], laidTests := true, laidLooks := .later }
def TokenOnceCardSaid : Prop := Claim7.holds Tryd.pinned (.plain (OpenSpec.ofChange tokenOnceSpec)) tokenOnceCard

/-- THE TIED CARD OF 'webfingerlaw13.TokenScales'. -/
def tokenScalesCard : Claim7 := { stood := { row := tokenScalesRow, standIns := [], harness := (true, "e37fbe63729bf0784fe6d85cb75a243a7e4d8e87da462e36a08464983d128e1d"), looks := false }, kinds := [], alts := [], laidByText := true, laidKinds := [.data, .data, .pinned], laidTests := true, laidLooks := .later }
def TokenScalesCardSaid : Prop := Claim7.holds Tryd.pinned (.plain (OpenSpec.ofChange tokenScalesSpec)) tokenScalesCard

/-- THE TIED CARD OF 'webfingerlaw13.TokenEscapes'. -/
def tokenEscapesCard : Claim7 := { stood := { row := tokenEscapesRow, standIns := [], harness := (true, "e37fbe63729bf0784fe6d85cb75a243a7e4d8e87da462e36a08464983d128e1d"), looks := false }, kinds := [], alts := [], laidByText := true, laidKinds := [.data, .data, .pinned], laidTests := true, laidLooks := .later }
def TokenEscapesCardSaid : Prop := Claim7.holds Tryd.pinned (.plain (OpenSpec.ofChange tokenEscapesSpec)) tokenEscapesCard

/-- THE SECOND FORM's CARD OF 'webfingerlaw13.TokenReads'. -/
def tokenReadsUptoCard : Claim7 := { stood := { row := tokenReadsUptoRow, standIns := [], harness := (true, "e37fbe63729bf0784fe6d85cb75a243a7e4d8e87da462e36a08464983d128e1d"), looks := false }, kinds := [], alts := [], laidByText := true, laidKinds := [.data, .data, .pinned], laidTests := true, laidLooks := .later }
def TokenReadsUptoCardSaid : Prop := Claim7.holds Tryd.pinned (.plain (OpenSpec.upto tokenReadsSpec)) tokenReadsUptoCard

/-- THE SECOND FORM's CARD OF 'webfingerlaw13.TokenQuotes'. -/
def tokenQuotesUptoCard : Claim7 := { stood := { row := tokenQuotesUptoRow, standIns := [], harness := (true, "e37fbe63729bf0784fe6d85cb75a243a7e4d8e87da462e36a08464983d128e1d"), looks := false }, kinds := [], alts := [], laidByText := true, laidKinds := [.data, .data, .pinned], laidTests := true, laidLooks := .later }
def TokenQuotesUptoCardSaid : Prop := Claim7.holds Tryd.pinned (.plain (OpenSpec.upto tokenQuotesSpec)) tokenQuotesUptoCard

/-- THE SECOND FORM's CARD OF 'webfingerlaw13.TokenNumbers'. -/
def tokenNumbersUptoCard : Claim7 := { stood := { row := tokenNumbersUptoRow, standIns := [], harness := (true, "e37fbe63729bf0784fe6d85cb75a243a7e4d8e87da462e36a08464983d128e1d"), looks := false }, kinds := [], alts := [], laidByText := true, laidKinds := [.data, .data, .pinned], laidTests := true, laidLooks := .later }
def TokenNumbersUptoCardSaid : Prop := Claim7.holds Tryd.pinned (.plain (OpenSpec.upto tokenNumbersSpec)) tokenNumbersUptoCard

/-- THE SECOND FORM's CARD OF 'webfingerlaw13.TokenOnce'. -/
def tokenOnceUptoCard : Claim7 := { stood := { row := tokenOnceUptoRow, standIns := [], harness := (true, "e37fbe63729bf0784fe6d85cb75a243a7e4d8e87da462e36a08464983d128e1d"), looks := false }, kinds := [], alts := [], laidByText := true, laidKinds := [.data, .data, .pinned], laidTests := true, laidLooks := .later }
def TokenOnceUptoCardSaid : Prop := Claim7.holds Tryd.pinned (.plain (OpenSpec.upto tokenOnceSpec)) tokenOnceUptoCard

/-- THE SECOND FORM's CARD OF 'webfingerlaw13.TokenScales'. -/
def tokenScalesUptoCard : Claim7 := { stood := { row := tokenScalesUptoRow, standIns := [], harness := (true, "e37fbe63729bf0784fe6d85cb75a243a7e4d8e87da462e36a08464983d128e1d"), looks := false }, kinds := [], alts := [], laidByText := true, laidKinds := [.data, .data, .pinned], laidTests := true, laidLooks := .later }
def TokenScalesUptoCardSaid : Prop := Claim7.holds Tryd.pinned (.plain (OpenSpec.upto tokenScalesSpec)) tokenScalesUptoCard

/-- THE SECOND FORM's CARD OF 'webfingerlaw13.TokenEscapes'. -/
def tokenEscapesUptoCard : Claim7 := { stood := { row := tokenEscapesUptoRow, standIns := [], harness := (true, "e37fbe63729bf0784fe6d85cb75a243a7e4d8e87da462e36a08464983d128e1d"), looks := false }, kinds := [], alts := [], laidByText := true, laidKinds := [.data, .data, .pinned], laidTests := true, laidLooks := .later }
def TokenEscapesUptoCardSaid : Prop := Claim7.holds Tryd.pinned (.plain (OpenSpec.upto tokenEscapesSpec)) tokenEscapesUptoCard
end Rows
end Go.Proofs.YtmdjjhakfoenpaaDoor
