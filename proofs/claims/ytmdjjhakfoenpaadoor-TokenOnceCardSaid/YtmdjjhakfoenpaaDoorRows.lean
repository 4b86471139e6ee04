/-
  NARROWER THAN 'FOR EVERY INPUT', by the rows' own cells (each row's printed sentence says how): TokenReads: laid · TokenQuotes: laid · TokenNumbers: laid · TokenOnce: laid · TokenScales: laid · TokenEscapes: laid.
  DERIVED. THE GIVEN ROWS OF THIS SEAT. 6 by the template 'for every input the law returns true; each argument reads behind the call as it read before'; 0 by the template 'total and deterministic' (their statements: YtmdjjhakfoenpaaDoorTotals.lean).
  GIVEN WITH THE SEED: the statements are not yours to turn. If you find one false, say at which input.
  Laid BY PROGRAM, IN A SANDBOX (cutbox-rows.mjs): the forced cells as the released guide's own fill.sh prints them over the translation b58c95f6503a2e1b… (all of the seat's roots in one cut). By AI agents, Wed Nov 11 2026. No macro, syntax, notation, axiom, sorry.
-/
import Derived.Test.YtmdjjhakfoenpaaDoorChecked
import GoSem.PinnedTables
import GoSem.Claim
import GoSem.ClaimJoined
import GoSem.ClaimMapViews
import Derived.JoinedTies
import Derived.KernelRfl
namespace Go.Proofs.YtmdjjhakfoenpaaDoor
/- THE CELL 'sum', in the pinned program and in every row, IS THE sha256 OF THE DUMP (.gsa) THAT YtmdjjhakfoenpaaDoorProg.lean LOADS. Nothing in Lean hashes anything: it is a label: what it is worth is what the hold of that sum in a sandbox is worth. -/
noncomputable def Tryd.pinned : Pinned := { name := "ytmdjjhakfoenpaadoor", sum := "b58c95f6503a2e1b3424bdc3a85c7f6cb6e0c56585b47574c6487b0a226137d5", checked := Tryd.checked }
namespace Rows
def none {H : Type} : Left H := { results := [], args := [] }

/- WHAT THE LISTED PACKAGE-LEVEL VARIABLES READ AS WHEN THE CALL BEGINS. Each datum BY PROGRAM (the guide's laid-datum.mjs) off the statement by which the dump's own 'gosem.cut.vars' lays the variable. In a bare row this is a premise. The card (YtmdjjhakfoenpaaDoorCards.lean) ties it to the program's text. -/
def laid_unicode_utf8_acceptRanges {H : Type} : DataW H := .agg [.agg [.lit (.int .u8 128), .lit (.int .u8 191)], .agg [.lit (.int .u8 160), .lit (.int .u8 191)], .agg [.lit (.int .u8 128), .lit (.int .u8 159)], .agg [.lit (.int .u8 144), .lit (.int .u8 191)], .agg [.lit (.int .u8 128), .lit (.int .u8 143)], .agg [.lit (.int .u8 0), .lit (.int .u8 0)], .agg [.lit (.int .u8 0), .lit (.int .u8 0)], .agg [.lit (.int .u8 0), .lit (.int .u8 0)], .agg [.lit (.int .u8 0), .lit (.int .u8 0)], .agg [.lit (.int .u8 0), .lit (.int .u8 0)], .agg [.lit (.int .u8 0), .lit (.int .u8 0)], .agg [.lit (.int .u8 0), .lit (.int .u8 0)], .agg [.lit (.int .u8 0), .lit (.int .u8 0)], .agg [.lit (.int .u8 0), .lit (.int .u8 0)], .agg [.lit (.int .u8 0), .lit (.int .u8 0)], .agg [.lit (.int .u8 0), .lit (.int .u8 0)]]
def laid_webfinger_utf8text_forms {H : Type} : DataW H := .agg [.agg [.lit (.int .u8 0), .lit (.int .u8 127), .lit (.int .i64 0)], .agg [.lit (.int .u8 192), .lit (.int .u8 31), .lit (.int .i64 128)], .agg [.lit (.int .u8 224), .lit (.int .u8 15), .lit (.int .i64 2048)], .agg [.lit (.int .u8 240), .lit (.int .u8 7), .lit (.int .i64 65536)]]
/-- One of Go's own tables, pinned by name: the form's constant. -/
def laid_unicode_utf8_first : DataW Unit := Go.Pinned.utf8First

/-- 'webfingerlaw13.TokenReads': WHATEVER THE INPUT: true; the input reads as it did. -/
def tokenReadsSpec : ChangeSpec := { name := "tokenReads", fn := fun _ => fun
  | [d1, d2] => { results := [.lit (.bool true)], args := [d1, d2] }
  | _ => none }
def tokenReadsRow : OpenClaim := { program := "ytmdjjhakfoenpaadoor", sum := "b58c95f6503a2e1b3424bdc3a85c7f6cb6e0c56585b47574c6487b0a226137d5", func := "webfinger/webfingerlaw13.TokenReads", spec := "tokenReads", inPlace := ["internal/bytealg.IndexByteString", "internal/bytealg.IndexString", "internal/abi.NoEscape"], unfollowed := true, recurses := true, named := ["internal/bytealg.MaxLen", "unicode/utf8.first", "unicode/utf8.acceptRanges", "webfinger/utf8text.forms"], apart := false, laid := [("unicode/utf8.acceptRanges", laid_unicode_utf8_acceptRanges), ("webfinger/utf8text.forms", laid_webfinger_utf8text_forms), ("unicode/utf8.first", laid_unicode_utf8_first)] }
def TokenReadsSaid : Prop := tokenReadsRow.holds Tryd.pinned (OpenSpec.ofChange tokenReadsSpec)

/-- ITS FALSE NEIGHBOUR: 'it returns false'. Refute it at one input. -/
def tokenReadsWrong : ChangeSpec := { name := "tokenReads", fn := fun _ => fun
  | [d1, d2] => { results := [.lit (.bool false)], args := [d1, d2] }
  | _ => none }
def TokenReadsWrongFalsely : Prop := tokenReadsRow.holds Tryd.pinned (OpenSpec.ofChange tokenReadsWrong)

/-- 'webfingerlaw13.TokenQuotes': WHATEVER THE INPUT: true; the input reads as it did. -/
def tokenQuotesSpec : ChangeSpec := { name := "tokenQuotes", fn := fun _ => fun
  | [d] => { results := [.lit (.bool true)], args := [d] }
  | _ => none }
def tokenQuotesRow : OpenClaim := { program := "ytmdjjhakfoenpaadoor", sum := "b58c95f6503a2e1b3424bdc3a85c7f6cb6e0c56585b47574c6487b0a226137d5", func := "webfinger/webfingerlaw13.TokenQuotes", spec := "tokenQuotes", inPlace := ["internal/bytealg.IndexByteString", "internal/bytealg.IndexString", "internal/abi.NoEscape"], unfollowed := true, recurses := true, named := ["internal/bytealg.MaxLen", "unicode/utf8.first", "unicode/utf8.acceptRanges", "webfinger/utf8text.forms"], apart := false, laid := [("unicode/utf8.acceptRanges", laid_unicode_utf8_acceptRanges), ("webfinger/utf8text.forms", laid_webfinger_utf8text_forms), ("unicode/utf8.first", laid_unicode_utf8_first)] }
def TokenQuotesSaid : Prop := tokenQuotesRow.holds Tryd.pinned (OpenSpec.ofChange tokenQuotesSpec)

/-- ITS FALSE NEIGHBOUR: 'it returns false'. Refute it at one input. -/
def tokenQuotesWrong : ChangeSpec := { name := "tokenQuotes", fn := fun _ => fun
  | [d] => { results := [.lit (.bool false)], args := [d] }
  | _ => none }
def TokenQuotesWrongFalsely : Prop := tokenQuotesRow.holds Tryd.pinned (OpenSpec.ofChange tokenQuotesWrong)

/-- 'webfingerlaw13.TokenNumbers': WHATEVER THE INPUT: true; the input reads as it did. -/
def tokenNumbersSpec : ChangeSpec := { name := "tokenNumbers", fn := fun _ => fun
  | [d] => { results := [.lit (.bool true)], args := [d] }
  | _ => none }
def tokenNumbersRow : OpenClaim := { program := "ytmdjjhakfoenpaadoor", sum := "b58c95f6503a2e1b3424bdc3a85c7f6cb6e0c56585b47574c6487b0a226137d5", func := "webfinger/webfingerlaw13.TokenNumbers", spec := "tokenNumbers", inPlace := ["internal/bytealg.IndexByteString", "internal/bytealg.IndexString", "internal/abi.NoEscape"], unfollowed := true, recurses := true, named := ["internal/bytealg.MaxLen", "unicode/utf8.first", "unicode/utf8.acceptRanges", "webfinger/utf8text.forms"], apart := false, laid := [("unicode/utf8.acceptRanges", laid_unicode_utf8_acceptRanges), ("webfinger/utf8text.forms", laid_webfinger_utf8text_forms), ("unicode/utf8.first", laid_unicode_utf8_first)] }
def TokenNumbersSaid : Prop := tokenNumbersRow.holds Tryd.pinned (OpenSpec.ofChange tokenNumbersSpec)

/-- ITS FALSE NEIGHBOUR: 'it returns false'. Refute it at one input. -/
def tokenNumbersWrong : ChangeSpec := { name := "tokenNumbers", fn := fun _ => fun
  | [d] => { results := [.lit (.bool false)], args := [d] }
  | _ => none }
def TokenNumbersWrongFalsely : Prop := tokenNumbersRow.holds Tryd.pinned (OpenSpec.ofChange tokenNumbersWrong)

/-- 'webfingerlaw13.TokenOnce': WHATEVER THE INPUT: true; the input reads as it did. -/
def tokenOnceSpec : ChangeSpec := { name := "tokenOnce", fn := fun _ => fun
  | [d] => { results := [.lit (.bool true)], args := [d] }
  | _ => none }
def tokenOnceRow : OpenClaim := { program := "ytmdjjhakfoenpaadoor", sum := "b58c95f6503a2e1b3424bdc3a85c7f6cb6e0c56585b47574c6487b0a226137d5", func := "webfinger/webfingerlaw13.TokenOnce", spec := "tokenOnce", inPlace := ["internal/bytealg.IndexByteString", "internal/bytealg.IndexString", "internal/abi.NoEscape"], unfollowed := true, recurses := true, named := ["internal/bytealg.MaxLen", "unicode/utf8.first", "unicode/utf8.acceptRanges", "webfinger/utf8text.forms"], apart := false, laid := [("unicode/utf8.acceptRanges", laid_unicode_utf8_acceptRanges), ("webfinger/utf8text.forms", laid_webfinger_utf8text_forms), ("unicode/utf8.first", laid_unicode_utf8_first)] }
def TokenOnceSaid : Prop := tokenOnceRow.holds Tryd.pinned (OpenSpec.ofChange tokenOnceSpec)

/-- ITS FALSE NEIGHBOUR: 'it returns false'. Refute it at one input. -/
def tokenOnceWrong : ChangeSpec := { name := "tokenOnce", fn := fun _ => fun
  | [d] => { results := [.lit (.bool false)], args := [d] }
  | _ => none }
def TokenOnceWrongFalsely : Prop := tokenOnceRow.holds Tryd.pinned (OpenSpec.ofChange tokenOnceWrong)

/-- 'webfingerlaw13.TokenScales': WHATEVER THE INPUT: true; the input reads as it did. -/
def tokenScalesSpec : ChangeSpec := { name := "tokenScales", fn := fun _ => fun
  | [d1, d2, d3] => { results := [.lit (.bool true)], args := [d1, d2, d3] }
  | _ => none }
def tokenScalesRow : OpenClaim := { program := "ytmdjjhakfoenpaadoor", sum := "b58c95f6503a2e1b3424bdc3a85c7f6cb6e0c56585b47574c6487b0a226137d5", func := "webfinger/webfingerlaw13.TokenScales", spec := "tokenScales", inPlace := ["internal/bytealg.IndexByteString", "internal/bytealg.IndexString", "internal/abi.NoEscape"], unfollowed := true, recurses := true, named := ["internal/bytealg.MaxLen", "unicode/utf8.first", "unicode/utf8.acceptRanges", "webfinger/utf8text.forms"], apart := false, laid := [("unicode/utf8.acceptRanges", laid_unicode_utf8_acceptRanges), ("webfinger/utf8text.forms", laid_webfinger_utf8text_forms), ("unicode/utf8.first", laid_unicode_utf8_first)] }
def TokenScalesSaid : Prop := tokenScalesRow.holds Tryd.pinned (OpenSpec.ofChange tokenScalesSpec)

/-- ITS FALSE NEIGHBOUR: 'it returns false'. Refute it at one input. -/
def tokenScalesWrong : ChangeSpec := { name := "tokenScales", fn := fun _ => fun
  | [d1, d2, d3] => { results := [.lit (.bool false)], args := [d1, d2, d3] }
  | _ => none }
def TokenScalesWrongFalsely : Prop := tokenScalesRow.holds Tryd.pinned (OpenSpec.ofChange tokenScalesWrong)

/-- 'webfingerlaw13.TokenEscapes': WHATEVER THE INPUT: true; the input reads as it did. -/
def tokenEscapesSpec : ChangeSpec := { name := "tokenEscapes", fn := fun _ => fun
  | [d1, d2] => { results := [.lit (.bool true)], args := [d1, d2] }
  | _ => none }
def tokenEscapesRow : OpenClaim := { program := "ytmdjjhakfoenpaadoor", sum := "b58c95f6503a2e1b3424bdc3a85c7f6cb6e0c56585b47574c6487b0a226137d5", func := "webfinger/webfingerlaw13.TokenEscapes", spec := "tokenEscapes", inPlace := ["internal/bytealg.IndexByteString", "internal/bytealg.IndexString", "internal/abi.NoEscape"], unfollowed := true, recurses := true, named := ["internal/bytealg.MaxLen", "unicode/utf8.first", "unicode/utf8.acceptRanges", "webfinger/utf8text.forms"], apart := false, laid := [("unicode/utf8.acceptRanges", laid_unicode_utf8_acceptRanges), ("webfinger/utf8text.forms", laid_webfinger_utf8text_forms), ("unicode/utf8.first", laid_unicode_utf8_first)] }
def TokenEscapesSaid : Prop := tokenEscapesRow.holds Tryd.pinned (OpenSpec.ofChange tokenEscapesSpec)

/-- ITS FALSE NEIGHBOUR: 'it returns false'. Refute it at one input. -/
def tokenEscapesWrong : ChangeSpec := { name := "tokenEscapes", fn := fun _ => fun
  | [d1, d2] => { results := [.lit (.bool false)], args := [d1, d2] }
  | _ => none }
def TokenEscapesWrongFalsely : Prop := tokenEscapesRow.holds Tryd.pinned (OpenSpec.ofChange tokenEscapesWrong)

/- THE SECOND FORM. 'bulk': how many values and letters a reading holds, each counted each time it is reached (what is shared counts as often as it is met; a slice's spare places count too). A statement '..UptoSaid' is the law's where the arguments, and the package variables that the reading takes, are together of bulk at most 1048576: NARROWER than '..Said'. Prove '..Said' where nothing that the law and all that it calls make is longer than what came in: it says more and counts as full. Else prove '..UptoSaid'. A law counts once. -/
mutual
def uptoBulk {H : Type} : DataW H → Nat
  | .lit (.string bytes) => bytes.length + 1
  | .lit _ => 1
  | .nil => 1
  | .ptr d => uptoBulk d + 1
  | .slice elems spare => uptoBulkAll elems + uptoBulkAll spare + 1
  | .agg parts => uptoBulkAll parts + 1
  | .iface _ d => uptoBulk d + 1
  | .map entries => uptoBulkEntries entries + 1
  | .held _ => 1
def uptoBulkAll {H : Type} : List (DataW H) → Nat
  | [] => 0
  | d :: r => uptoBulk d + uptoBulkAll r
def uptoBulkEntries {H : Type} : List (Lit × DataW H) → Nat
  | [] => 0
  | x :: r => uptoBulkEntry x + uptoBulkEntries r
def uptoBulkEntry {H : Type} : Lit × DataW H → Nat
  | (.string bytes, d) => bytes.length + uptoBulk d + 1
  | (_, d) => uptoBulk d + 1
 end
def uptoSmall : (H : Type) → List (DataW H) → Bool := fun _ ds => decide (uptoBulkAll ds ≤ 1048576)
def OpenSpec.upto (s : _root_.Go.ChangeSpec) : _root_.Go.OpenSpec := { _root_.Go.OpenSpec.ofChange s with cond := some uptoSmall }

/-- 'webfingerlaw13.TokenReads', WHERE WHAT IT READS IS OF BULK AT MOST 1048576: true; the input reads as it did. -/
def tokenReadsUptoRow : OpenClaim := { program := "ytmdjjhakfoenpaadoor", sum := "b58c95f6503a2e1b3424bdc3a85c7f6cb6e0c56585b47574c6487b0a226137d5", func := "webfinger/webfingerlaw13.TokenReads", spec := "tokenReads", inPlace := ["internal/bytealg.IndexByteString", "internal/bytealg.IndexString", "internal/abi.NoEscape"], unfollowed := true, recurses := true, named := ["internal/bytealg.MaxLen", "unicode/utf8.first", "unicode/utf8.acceptRanges", "webfinger/utf8text.forms"], apart := false, laid := [("unicode/utf8.acceptRanges", laid_unicode_utf8_acceptRanges), ("webfinger/utf8text.forms", laid_webfinger_utf8text_forms), ("unicode/utf8.first", laid_unicode_utf8_first)], narrowed := true }
def TokenReadsUptoSaid : Prop := tokenReadsUptoRow.holds Tryd.pinned (OpenSpec.upto tokenReadsSpec)

/-- 'webfingerlaw13.TokenQuotes', WHERE WHAT IT READS IS OF BULK AT MOST 1048576: true; the input reads as it did. -/
def tokenQuotesUptoRow : OpenClaim := { program := "ytmdjjhakfoenpaadoor", sum := "b58c95f6503a2e1b3424bdc3a85c7f6cb6e0c56585b47574c6487b0a226137d5", func := "webfinger/webfingerlaw13.TokenQuotes", spec := "tokenQuotes", inPlace := ["internal/bytealg.IndexByteString", "internal/bytealg.IndexString", "internal/abi.NoEscape"], unfollowed := true, recurses := true, named := ["internal/bytealg.MaxLen", "unicode/utf8.first", "unicode/utf8.acceptRanges", "webfinger/utf8text.forms"], apart := false, laid := [("unicode/utf8.acceptRanges", laid_unicode_utf8_acceptRanges), ("webfinger/utf8text.forms", laid_webfinger_utf8text_forms), ("unicode/utf8.first", laid_unicode_utf8_first)], narrowed := true }
def TokenQuotesUptoSaid : Prop := tokenQuotesUptoRow.holds Tryd.pinned (OpenSpec.upto tokenQuotesSpec)

/-- 'webfingerlaw13.TokenNumbers', WHERE WHAT IT READS IS OF BULK AT MOST 1048576: true; the input reads as it did. -/
def tokenNumbersUptoRow : OpenClaim := { program := "ytmdjjhakfoenpaadoor", sum := "b58c95f6503a2e1b3424bdc3a85c7f6cb6e0c56585b47574c6487b0a226137d5", func := "webfinger/webfingerlaw13.TokenNumbers", spec := "tokenNumbers", inPlace := ["internal/bytealg.IndexByteString", "internal/bytealg.IndexString", "internal/abi.NoEscape"], unfollowed := true, recurses := true, named := ["internal/bytealg.MaxLen", "unicode/utf8.first", "unicode/utf8.acceptRanges", "webfinger/utf8text.forms"], apart := false, laid := [("unicode/utf8.acceptRanges", laid_unicode_utf8_acceptRanges), ("webfinger/utf8text.forms", laid_webfinger_utf8text_forms), ("unicode/utf8.first", laid_unicode_utf8_first)], narrowed := true }
def TokenNumbersUptoSaid : Prop := tokenNumbersUptoRow.holds Tryd.pinned (OpenSpec.upto tokenNumbersSpec)

/-- 'webfingerlaw13.TokenOnce', WHERE WHAT IT READS IS OF BULK AT MOST 1048576: true; the input reads as it did. -/
def tokenOnceUptoRow : OpenClaim := { program := "ytmdjjhakfoenpaadoor", sum := "b58c95f6503a2e1b3424bdc3a85c7f6cb6e0c56585b47574c6487b0a226137d5", func := "webfinger/webfingerlaw13.TokenOnce", spec := "tokenOnce", inPlace := ["internal/bytealg.IndexByteString", "internal/bytealg.IndexString", "internal/abi.NoEscape"], unfollowed := true, recurses := true, named := ["internal/bytealg.MaxLen", "unicode/utf8.first", "unicode/utf8.acceptRanges", "webfinger/utf8text.forms"], apart := false, laid := [("unicode/utf8.acceptRanges", laid_unicode_utf8_acceptRanges), ("webfinger/utf8text.forms", laid_webfinger_utf8text_forms), ("unicode/utf8.first", laid_unicode_utf8_first)], narrowed := true }
def TokenOnceUptoSaid : Prop := tokenOnceUptoRow.holds Tryd.pinned (OpenSpec.upto tokenOnceSpec)

/-- 'webfingerlaw13.TokenScales', WHERE WHAT IT READS IS OF BULK AT MOST 1048576: true; the input reads as it did. -/
def tokenScalesUptoRow : OpenClaim := { program := "ytmdjjhakfoenpaadoor", sum := "b58c95f6503a2e1b3424bdc3a85c7f6cb6e0c56585b47574c6487b0a226137d5", func := "webfinger/webfingerlaw13.TokenScales", spec := "tokenScales", inPlace := ["internal/bytealg.IndexByteString", "internal/bytealg.IndexString", "internal/abi.NoEscape"], unfollowed := true, recurses := true, named := ["internal/bytealg.MaxLen", "unicode/utf8.first", "unicode/utf8.acceptRanges", "webfinger/utf8text.forms"], apart := false, laid := [("unicode/utf8.acceptRanges", laid_unicode_utf8_acceptRanges), ("webfinger/utf8text.forms", laid_webfinger_utf8text_forms), ("unicode/utf8.first", laid_unicode_utf8_first)], narrowed := true }
def TokenScalesUptoSaid : Prop := tokenScalesUptoRow.holds Tryd.pinned (OpenSpec.upto tokenScalesSpec)

/-- 'webfingerlaw13.TokenEscapes', WHERE WHAT IT READS IS OF BULK AT MOST 1048576: true; the input reads as it did. -/
def tokenEscapesUptoRow : OpenClaim := { program := "ytmdjjhakfoenpaadoor", sum := "b58c95f6503a2e1b3424bdc3a85c7f6cb6e0c56585b47574c6487b0a226137d5", func := "webfinger/webfingerlaw13.TokenEscapes", spec := "tokenEscapes", inPlace := ["internal/bytealg.IndexByteString", "internal/bytealg.IndexString", "internal/abi.NoEscape"], unfollowed := true, recurses := true, named := ["internal/bytealg.MaxLen", "unicode/utf8.first", "unicode/utf8.acceptRanges", "webfinger/utf8text.forms"], apart := false, laid := [("unicode/utf8.acceptRanges", laid_unicode_utf8_acceptRanges), ("webfinger/utf8text.forms", laid_webfinger_utf8text_forms), ("unicode/utf8.first", laid_unicode_utf8_first)], narrowed := true }
def TokenEscapesUptoSaid : Prop := tokenEscapesUptoRow.holds Tryd.pinned (OpenSpec.upto tokenEscapesSpec)

end Rows
end Go.Proofs.YtmdjjhakfoenpaaDoor
