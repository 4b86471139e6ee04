/- The data of the program. -/
import Derived.Test.YtdbeiialamganaaVM2
set_option linter.unusedVariables false
namespace Go.VM
structure Ref14Parser where
  s : (List UInt8)
  at_ : Int
  nodes : Int
  fail : Int
  where_ : Int
  deriving DecidableEq
def encRef14Parser (x : Ref14Parser) : AVal := .agg [.str x.s, .int .i64 x.at_, .int .i64 x.nodes, .int .i64 x.fail, .int .i64 x.where_]
theorem encRef14Parser_eq (x : Ref14Parser) : encRef14Parser x = .agg [.str x.s, .int .i64 x.at_, .int .i64 x.nodes, .int .i64 x.fail, .int .i64 x.where_] := rfl
structure ApiToken where
  kind : Int
  text : (List UInt8)
  at_ : Int
  deriving DecidableEq
def encApiToken (x : ApiToken) : AVal := .agg [.int .i64 x.kind, .str x.text, .int .i64 x.at_]
theorem encApiToken_eq (x : ApiToken) : encApiToken x = .agg [.int .i64 x.kind, .str x.text, .int .i64 x.at_] := rfl
structure ApiValue where
  kind : Int
  text : (List UInt8)
  keys : (List (List UInt8))
  items : (List ApiValue)
mutual
def encApiValue : ApiValue → AVal
  | ⟨kind, text, keys, items⟩ => .agg [.int .i64 kind, .str text, .slice 1 (List.map AVal.str keys) false, .slice 4 (encApiValues items) false]
def encApiValues : List ApiValue → List AVal
  | [] => []
  | x :: xs => encApiValue x :: encApiValues xs
end
theorem encApiValues_map (l : List ApiValue) : encApiValues l = List.map encApiValue l := by
  induction l with
  | nil => rfl
  | cons x l ih => simp only [encApiValues, List.map_cons, ih]
theorem encApiValue_eq (x : ApiValue) : encApiValue x = .agg [.int .i64 x.kind, .str x.text, .slice 1 (List.map AVal.str x.keys) false, .slice 4 (List.map encApiValue x.items) false] := by
  cases x; simp only [encApiValue, encApiValues_map]
structure JrdDecoder where
  e : Int
  deriving DecidableEq
def encJrdDecoder (x : JrdDecoder) : AVal := .agg [.int .i64 x.e]
theorem encJrdDecoder_eq (x : JrdDecoder) : encJrdDecoder x = .agg [.int .i64 x.e] := rfl
structure ApiProperty where
  name : (List UInt8)
  value : (List UInt8)
  null : Bool
  deriving DecidableEq
def encApiProperty (x : ApiProperty) : AVal := .agg [.str x.name, .str x.value, .bool x.null]
theorem encApiProperty_eq (x : ApiProperty) : encApiProperty x = .agg [.str x.name, .str x.value, .bool x.null] := rfl
structure ApiLink where
  rel : (List UInt8)
  type_ : (List UInt8)
  href : (List UInt8)
  template : (List UInt8)
  titles : (List ApiProperty)
  properties : (List ApiProperty)
  deriving DecidableEq
def encApiLink (x : ApiLink) : AVal := .agg [.str x.rel, .str x.type_, .str x.href, .str x.template, .slice 3 (List.map encApiProperty x.titles) false, .slice 3 (List.map encApiProperty x.properties) false]
theorem encApiLink_eq (x : ApiLink) : encApiLink x = .agg [.str x.rel, .str x.type_, .str x.href, .str x.template, .slice 3 (List.map encApiProperty x.titles) false, .slice 3 (List.map encApiProperty x.properties) false] := rfl
structure ApiJRD where
  subject : (List UInt8)
  aliases : (List (List UInt8))
  properties : (List ApiProperty)
  links : (List ApiLink)
  deriving DecidableEq
def encApiJRD (x : ApiJRD) : AVal := .agg [.str x.subject, .slice 1 (List.map AVal.str x.aliases) false, .slice 3 (List.map encApiProperty x.properties) false, .slice 6 (List.map encApiLink x.links) false]
theorem encApiJRD_eq (x : ApiJRD) : encApiJRD x = .agg [.str x.subject, .slice 1 (List.map AVal.str x.aliases) false, .slice 3 (List.map encApiProperty x.properties) false, .slice 6 (List.map encApiLink x.links) false] := rfl
def vT (g : Nat) : Option (List AVal) := none
end Go.VM
set_option linter.defProp false
namespace Go.VM
def eE := And.intro @encRef14Parser_eq (And.intro @encApiToken_eq (And.intro @encApiValue_eq (And.intro @encJrdDecoder_eq (And.intro @encApiProperty_eq (And.intro @encApiLink_eq (@encApiJRD_eq))))))
end Go.VM
