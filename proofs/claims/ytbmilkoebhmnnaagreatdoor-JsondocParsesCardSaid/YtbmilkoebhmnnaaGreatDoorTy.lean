/- The data of the program. -/
import Derived.Test.YtbmilkoebhmnnaaGreatDoorVM2
set_option linter.unusedVariables false
namespace Go.VM
structure TokenReader where
  s : (List UInt8)
  at_ : Int
  deriving DecidableEq
def encTokenReader (x : TokenReader) : AVal := .agg [.str x.s, .int .i64 x.at_]
theorem encTokenReader_eq (x : TokenReader) : encTokenReader x = .agg [.str x.s, .int .i64 x.at_] := rfl
structure Utf8textForm where
  mark : Int
  mask : Int
  least : Int
  deriving DecidableEq
def encUtf8textForm (x : Utf8textForm) : AVal := .agg [.int .u8 x.mark, .int .u8 x.mask, .int .i64 x.least]
theorem encUtf8textForm_eq (x : Utf8textForm) : encUtf8textForm x = .agg [.int .u8 x.mark, .int .u8 x.mask, .int .i64 x.least] := rfl
structure StringsBuilder where
  addr : Bool
  buf : (List UInt8)
  deriving DecidableEq
structure ApiToken where
  kind : Int
  text : (List UInt8)
  at_ : Int
  deriving DecidableEq
def encApiToken (x : ApiToken) : AVal := .agg [.int .i64 x.kind, .str x.text, .int .i64 x.at_]
theorem encApiToken_eq (x : ApiToken) : encApiToken x = .agg [.int .i64 x.kind, .str x.text, .int .i64 x.at_] := rfl
structure ApiValue where
  kind : Int
  text : (List UInt8)
  keys : (List (List UInt8))
  items : (List ApiValue)
mutual
def encApiValue : ApiValue → AVal
  | ⟨kind, text, keys, items⟩ => .agg [.int .i64 kind, .str text, .slice 1 (List.map AVal.str keys) false, .slice 4 (encApiValues items) false]
def encApiValues : List ApiValue → List AVal
  | [] => []
  | x :: xs => encApiValue x :: encApiValues xs
end
theorem encApiValues_map (l : List ApiValue) : encApiValues l = List.map encApiValue l := by
  induction l with
  | nil => rfl
  | cons x l ih => simp only [encApiValues, List.map_cons, ih]
theorem encApiValue_eq (x : ApiValue) : encApiValue x = .agg [.int .i64 x.kind, .str x.text, .slice 1 (List.map AVal.str x.keys) false, .slice 4 (List.map encApiValue x.items) false] := by
  cases x; simp only [encApiValue, encApiValues_map]
structure Ref14Parser where
  s : (List UInt8)
  at_ : Int
  nodes : Int
  fail : Int
  where_ : Int
  deriving DecidableEq
def encRef14Parser (x : Ref14Parser) : AVal := .agg [.str x.s, .int .i64 x.at_, .int .i64 x.nodes, .int .i64 x.fail, .int .i64 x.where_]
theorem encRef14Parser_eq (x : Ref14Parser) : encRef14Parser x = .agg [.str x.s, .int .i64 x.at_, .int .i64 x.nodes, .int .i64 x.fail, .int .i64 x.where_] := rfl
def tab_utf8text_forms : List Utf8textForm := [(Utf8textForm.mk 0 127 0), (Utf8textForm.mk 192 31 128), (Utf8textForm.mk 224 15 2048), (Utf8textForm.mk 240 7 65536)]
def cells_1 : List AVal := [.int .u8 0, .int .u8 127, .int .i64 0, .int .u8 192, .int .u8 31, .int .i64 128, .int .u8 224, .int .u8 15, .int .i64 2048, .int .u8 240, .int .u8 7, .int .i64 65536]
def vT (g : Nat) : Option (List AVal) := if g = 1 then some cells_1 else none
end Go.VM
set_option linter.defProp false
namespace Go.VM
def eE := And.intro @encTokenReader_eq (And.intro @encUtf8textForm_eq (And.intro @encApiToken_eq (And.intro @encApiValue_eq (@encRef14Parser_eq))))
end Go.VM
