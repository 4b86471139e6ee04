/-
  NARROWER THAN 'FOR EVERY INPUT', by the rows' own cells (each row's printed sentence says how): FingerURLs: laid · DerefParams: laid · DerefServices: laid · FingerNames: laid.
  DERIVED. THE GIVEN ROWS OF THIS SEAT. 4 by the template 'for every input the law returns true; each argument reads behind the call as it read before'; 0 by the template 'total and deterministic' (their statements: YtjgdhjpafjpjgaaGreatDoorTotals.lean).
  GIVEN WITH THE SEED: the statements are not yours to turn. If you find one false, say at which input.
  Laid BY PROGRAM, IN A SANDBOX (cutbox-rows.mjs): the forced cells as the released guide's own fill.sh prints them over the translation 30e525b59c7d6f77… (all of the seat's roots in one cut). By AI agents, Wed Nov 11 2026. No macro, syntax, notation, axiom, sorry.
-/
import Derived.Test.YtjgdhjpafjpjgaaGreatDoorChecked
import GoSem.PinnedTables
import GoSem.Claim
import GoSem.ClaimJoined
import GoSem.ClaimMapViews
import Derived.JoinedTies
import Derived.KernelRfl
namespace Go.Proofs.YtjgdhjpafjpjgaaGreatDoor
/- THE CELL 'sum', in the pinned program and in every row, IS THE sha256 OF THE DUMP (.gsa) THAT YtjgdhjpafjpjgaaGreatDoorProg.lean LOADS. Nothing in Lean hashes anything: it is a label: what it is worth is what the hold of that sum in a sandbox is worth. -/
noncomputable def Tryz.pinned : Pinned := { name := "ytjgdhjpafjpjgaagreatdoor", sum := "30e525b59c7d6f77047603ca56dcd2701d5f18aec5e6535b382227f13658a6b5", checked := Tryz.checked }
namespace Rows
def none {H : Type} : Left H := { results := [], args := [] }

/- WHAT THE LISTED PACKAGE-LEVEL VARIABLES READ AS WHEN THE CALL BEGINS. Each datum BY PROGRAM (the guide's laid-datum.mjs) off the statement by which the dump's own 'gosem.cut.vars' lays the variable. In a bare row this is a premise. The card (YtjgdhjpafjpjgaaGreatDoorCards.lean) ties it to the program's text. -/
def laid_unicode_utf8_acceptRanges {H : Type} : DataW H := .agg [.agg [.lit (.int .u8 128), .lit (.int .u8 191)], .agg [.lit (.int .u8 160), .lit (.int .u8 191)], .agg [.lit (.int .u8 128), .lit (.int .u8 159)], .agg [.lit (.int .u8 144), .lit (.int .u8 191)], .agg [.lit (.int .u8 128), .lit (.int .u8 143)], .agg [.lit (.int .u8 0), .lit (.int .u8 0)], .agg [.lit (.int .u8 0), .lit (.int .u8 0)], .agg [.lit (.int .u8 0), .lit (.int .u8 0)], .agg [.lit (.int .u8 0), .lit (.int .u8 0)], .agg [.lit (.int .u8 0), .lit (.int .u8 0)], .agg [.lit (.int .u8 0), .lit (.int .u8 0)], .agg [.lit (.int .u8 0), .lit (.int .u8 0)], .agg [.lit (.int .u8 0), .lit (.int .u8 0)], .agg [.lit (.int .u8 0), .lit (.int .u8 0)], .agg [.lit (.int .u8 0), .lit (.int .u8 0)], .agg [.lit (.int .u8 0), .lit (.int .u8 0)]]
/-- One of Go's own tables, pinned by name: the form's constant. -/
def laid_unicode_utf8_first : DataW Unit := Go.Pinned.utf8First

/-- 'webfingerlaw27.FingerURLs': WHATEVER THE INPUT: true; the input reads as it did. -/
def fingerURLsSpec : ChangeSpec := { name := "fingerURLs", fn := fun _ => fun
  | [d1, d2] => { results := [.lit (.bool true)], args := [d1, d2] }
  | _ => none }
def fingerURLsRow : OpenClaim := { program := "ytjgdhjpafjpjgaagreatdoor", sum := "30e525b59c7d6f77047603ca56dcd2701d5f18aec5e6535b382227f13658a6b5", func := "webfinger/webfingerlaw27.FingerURLs", spec := "fingerURLs", inPlace := ["internal/bytealg.IndexByteString", "internal/bytealg.IndexString", "internal/bytealg.CountString", "internal/abi.NoEscape", "internal/bytealg.MakeNoZero"], unfollowed := true, recurses := true, named := ["internal/bytealg.MaxLen", "unicode/utf8.first", "unicode/utf8.acceptRanges"], apart := false, laid := [("unicode/utf8.acceptRanges", laid_unicode_utf8_acceptRanges), ("unicode/utf8.first", laid_unicode_utf8_first)] }
def FingerURLsSaid : Prop := fingerURLsRow.holds Tryz.pinned (OpenSpec.ofChange fingerURLsSpec)

/-- ITS FALSE NEIGHBOUR: 'it returns false'. Refute it at one input. -/
def fingerURLsWrong : ChangeSpec := { name := "fingerURLs", fn := fun _ => fun
  | [d1, d2] => { results := [.lit (.bool false)], args := [d1, d2] }
  | _ => none }
def FingerURLsWrongFalsely : Prop := fingerURLsRow.holds Tryz.pinned (OpenSpec.ofChange fingerURLsWrong)

/-- 'webfingerlaw29.DerefParams': WHATEVER THE INPUT: true; the input reads as it did. -/
def derefParamsSpec : ChangeSpec := { name := "derefParams", fn := fun _ => fun
  | [d] => { results := [.lit (.bool true)], args := [d] }
  | _ => none }
def derefParamsRow : OpenClaim := { program := "ytjgdhjpafjpjgaagreatdoor", sum := "30e525b59c7d6f77047603ca56dcd2701d5f18aec5e6535b382227f13658a6b5", func := "webfinger/webfingerlaw29.DerefParams", spec := "derefParams", inPlace := ["internal/bytealg.IndexByteString", "internal/bytealg.IndexString", "internal/bytealg.CountString", "internal/abi.NoEscape", "internal/bytealg.MakeNoZero"], unfollowed := true, recurses := true, named := ["internal/bytealg.MaxLen", "unicode/utf8.first", "unicode/utf8.acceptRanges"], apart := false, laid := [("unicode/utf8.acceptRanges", laid_unicode_utf8_acceptRanges), ("unicode/utf8.first", laid_unicode_utf8_first)] }
def DerefParamsSaid : Prop := derefParamsRow.holds Tryz.pinned (OpenSpec.ofChange derefParamsSpec)

/-- ITS FALSE NEIGHBOUR: 'it returns false'. Refute it at one input. -/
def derefParamsWrong : ChangeSpec := { name := "derefParams", fn := fun _ => fun
  | [d] => { results := [.lit (.bool false)], args := [d] }
  | _ => none }
def DerefParamsWrongFalsely : Prop := derefParamsRow.holds Tryz.pinned (OpenSpec.ofChange derefParamsWrong)

/-- 'webfingerlaw29.DerefServices': WHATEVER THE INPUT: true; the input reads as it did. -/
def derefServicesSpec : ChangeSpec := { name := "derefServices", fn := fun _ => fun
  | [d1, d2, d3] => { results := [.lit (.bool true)], args := [d1, d2, d3] }
  | _ => none }
def derefServicesRow : OpenClaim := { program := "ytjgdhjpafjpjgaagreatdoor", sum := "30e525b59c7d6f77047603ca56dcd2701d5f18aec5e6535b382227f13658a6b5", func := "webfinger/webfingerlaw29.DerefServices", spec := "derefServices", inPlace := ["internal/bytealg.IndexByteString", "internal/bytealg.IndexString", "internal/bytealg.CountString", "internal/abi.NoEscape", "internal/bytealg.MakeNoZero"], unfollowed := true, recurses := true, named := ["internal/bytealg.MaxLen", "unicode/utf8.first", "unicode/utf8.acceptRanges"], apart := false, laid := [("unicode/utf8.acceptRanges", laid_unicode_utf8_acceptRanges), ("unicode/utf8.first", laid_unicode_utf8_first)] }
def DerefServicesSaid : Prop := derefServicesRow.holds Tryz.pinned (OpenSpec.ofChange derefServicesSpec)

/-- ITS FALSE NEIGHBOUR: 'it returns false'. Refute it at one input. -/
def derefServicesWrong : ChangeSpec := { name := "derefServices", fn := fun _ => fun
  | [d1, d2, d3] => { results := [.lit (.bool false)], args := [d1, d2, d3] }
  | _ => none }
def DerefServicesWrongFalsely : Prop := derefServicesRow.holds Tryz.pinned (OpenSpec.ofChange derefServicesWrong)

/-- 'webfingerlaw27.FingerNames': WHATEVER THE INPUT: true; the input reads as it did. -/
def fingerNamesSpec : ChangeSpec := { name := "fingerNames", fn := fun _ => fun
  | [d1, d2, d3] => { results := [.lit (.bool true)], args := [d1, d2, d3] }
  | _ => none }
def fingerNamesRow : OpenClaim := { program := "ytjgdhjpafjpjgaagreatdoor", sum := "30e525b59c7d6f77047603ca56dcd2701d5f18aec5e6535b382227f13658a6b5", func := "webfinger/webfingerlaw27.FingerNames", spec := "fingerNames", inPlace := ["internal/bytealg.IndexByteString", "internal/bytealg.IndexString", "internal/bytealg.CountString", "internal/abi.NoEscape", "internal/bytealg.MakeNoZero"], unfollowed := true, recurses := true, named := ["internal/bytealg.MaxLen", "unicode/utf8.first", "unicode/utf8.acceptRanges"], apart := false, laid := [("unicode/utf8.acceptRanges", laid_unicode_utf8_acceptRanges), ("unicode/utf8.first", laid_unicode_utf8_first)] }
def FingerNamesSaid : Prop := fingerNamesRow.holds Tryz.pinned (OpenSpec.ofChange fingerNamesSpec)

/-- ITS FALSE NEIGHBOUR: 'it returns false'. Refute it at one input. -/
def fingerNamesWrong : ChangeSpec := { name := "fingerNames", fn := fun _ => fun
  | [d1, d2, d3] => { results := [.lit (.bool false)], args := [d1, d2, d3] }
  | _ => none }
def FingerNamesWrongFalsely : Prop := fingerNamesRow.holds Tryz.pinned (OpenSpec.ofChange fingerNamesWrong)

/- THE SECOND FORM. 'bulk': how many values and letters a reading holds, each counted each time it is reached (what is shared counts as often as it is met; a slice's spare places count too). A statement '..UptoSaid' is the law's where the arguments, and the package variables that the reading takes, are together of bulk at most 1048576: NARROWER than '..Said'. Prove '..Said' where nothing that the law and all that it calls make is longer than what came in: it says more and counts as full. Else prove '..UptoSaid'. A law counts once. -/
mutual
def uptoBulk {H : Type} : DataW H → Nat
  | .lit (.string bytes) => bytes.length + 1
  | .lit _ => 1
  | .nil => 1
  | .ptr d => uptoBulk d + 1
  | .slice elems spare => uptoBulkAll elems + uptoBulkAll spare + 1
  | .agg parts => uptoBulkAll parts + 1
  | .iface _ d => uptoBulk d + 1
  | .map entries => uptoBulkEntries entries + 1
  | .held _ => 1
def uptoBulkAll {H : Type} : List (DataW H) → Nat
  | [] => 0
  | d :: r => uptoBulk d + uptoBulkAll r
def uptoBulkEntries {H : Type} : List (Lit × DataW H) → Nat
  | [] => 0
  | x :: r => uptoBulkEntry x + uptoBulkEntries r
def uptoBulkEntry {H : Type} : Lit × DataW H → Nat
  | (.string bytes, d) => bytes.length + uptoBulk d + 1
  | (_, d) => uptoBulk d + 1
 end
def uptoSmall : (H : Type) → List (DataW H) → Bool := fun _ ds => decide (uptoBulkAll ds ≤ 1048576)
def OpenSpec.upto (s : _root_.Go.ChangeSpec) : _root_.Go.OpenSpec := { _root_.Go.OpenSpec.ofChange s with cond := some uptoSmall }

/-- 'webfingerlaw27.FingerURLs', WHERE WHAT IT READS IS OF BULK AT MOST 1048576: true; the input reads as it did. -/
def fingerURLsUptoRow : OpenClaim := { program := "ytjgdhjpafjpjgaagreatdoor", sum := "30e525b59c7d6f77047603ca56dcd2701d5f18aec5e6535b382227f13658a6b5", func := "webfinger/webfingerlaw27.FingerURLs", spec := "fingerURLs", inPlace := ["internal/bytealg.IndexByteString", "internal/bytealg.IndexString", "internal/bytealg.CountString", "internal/abi.NoEscape", "internal/bytealg.MakeNoZero"], unfollowed := true, recurses := true, named := ["internal/bytealg.MaxLen", "unicode/utf8.first", "unicode/utf8.acceptRanges"], apart := false, laid := [("unicode/utf8.acceptRanges", laid_unicode_utf8_acceptRanges), ("unicode/utf8.first", laid_unicode_utf8_first)], narrowed := true }
def FingerURLsUptoSaid : Prop := fingerURLsUptoRow.holds Tryz.pinned (OpenSpec.upto fingerURLsSpec)

/-- 'webfingerlaw29.DerefParams', WHERE WHAT IT READS IS OF BULK AT MOST 1048576: true; the input reads as it did. -/
def derefParamsUptoRow : OpenClaim := { program := "ytjgdhjpafjpjgaagreatdoor", sum := "30e525b59c7d6f77047603ca56dcd2701d5f18aec5e6535b382227f13658a6b5", func := "webfinger/webfingerlaw29.DerefParams", spec := "derefParams", inPlace := ["internal/bytealg.IndexByteString", "internal/bytealg.IndexString", "internal/bytealg.CountString", "internal/abi.NoEscape", "internal/bytealg.MakeNoZero"], unfollowed := true, recurses := true, named := ["internal/bytealg.MaxLen", "unicode/utf8.first", "unicode/utf8.acceptRanges"], apart := false, laid := [("unicode/utf8.acceptRanges", laid_unicode_utf8_acceptRanges), ("unicode/utf8.first", laid_unicode_utf8_first)], narrowed := true }
def DerefParamsUptoSaid : Prop := derefParamsUptoRow.holds Tryz.pinned (OpenSpec.upto derefParamsSpec)

/-- 'webfingerlaw29.DerefServices', WHERE WHAT IT READS IS OF BULK AT MOST 1048576: true; the input reads as it did. -/
def derefServicesUptoRow : OpenClaim := { program := "ytjgdhjpafjpjgaagreatdoor", sum := "30e525b59c7d6f77047603ca56dcd2701d5f18aec5e6535b382227f13658a6b5", func := "webfinger/webfingerlaw29.DerefServices", spec := "derefServices", inPlace := ["internal/bytealg.IndexByteString", "internal/bytealg.IndexString", "internal/bytealg.CountString", "internal/abi.NoEscape", "internal/bytealg.MakeNoZero"], unfollowed := true, recurses := true, named := ["internal/bytealg.MaxLen", "unicode/utf8.first", "unicode/utf8.acceptRanges"], apart := false, laid := [("unicode/utf8.acceptRanges", laid_unicode_utf8_acceptRanges), ("unicode/utf8.first", laid_unicode_utf8_first)], narrowed := true }
def DerefServicesUptoSaid : Prop := derefServicesUptoRow.holds Tryz.pinned (OpenSpec.upto derefServicesSpec)

/-- 'webfingerlaw27.FingerNames', WHERE WHAT IT READS IS OF BULK AT MOST 1048576: true; the input reads as it did. -/
def fingerNamesUptoRow : OpenClaim := { program := "ytjgdhjpafjpjgaagreatdoor", sum := "30e525b59c7d6f77047603ca56dcd2701d5f18aec5e6535b382227f13658a6b5", func := "webfinger/webfingerlaw27.FingerNames", spec := "fingerNames", inPlace := ["internal/bytealg.IndexByteString", "internal/bytealg.IndexString", "internal/bytealg.CountString", "internal/abi.NoEscape", "internal/bytealg.MakeNoZero"], unfollowed := true, recurses := true, named := ["internal/bytealg.MaxLen", "unicode/utf8.first", "unicode/utf8.acceptRanges"], apart := false, laid := [("unicode/utf8.acceptRanges", laid_unicode_utf8_acceptRanges), ("unicode/utf8.first", laid_unicode_utf8_first)], narrowed := true }
def FingerNamesUptoSaid : Prop := fingerNamesUptoRow.holds Tryz.pinned (OpenSpec.upto fingerNamesSpec)

end Rows
end Go.Proofs.YtjgdhjpafjpjgaaGreatDoor
