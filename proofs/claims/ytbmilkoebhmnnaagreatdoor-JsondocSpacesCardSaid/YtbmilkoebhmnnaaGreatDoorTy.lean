import Derived.Test.YtbmilkoebhmnnaaGreatDoorVM2
set_option linter.unusedVariables false
namespace Go.VM
structure TokenReader where
  s : (List UInt8)
  at_ : Int
  deriving DecidableEq
def QE (x : TokenReader) : AVal := .agg [.str x.s, .int .i64 x.at_]
theorem M6 (x : TokenReader) : QE x = .agg [.str x.s, .int .i64 x.at_] := rfl
structure Utf8textForm where
  mark : Int
  mask : Int
  least : Int
  deriving DecidableEq
def PR (x : Utf8textForm) : AVal := .agg [.int .u8 x.mark, .int .u8 x.mask, .int .i64 x.least]
theorem ML (x : Utf8textForm) : PR x = .agg [.int .u8 x.mark, .int .u8 x.mask, .int .i64 x.least] := rfl
structure StringsBuilder where
  addr : Bool
  buf : (List UInt8)
  deriving DecidableEq
structure ApiToken where
  kind : Int
  text : (List UInt8)
  at_ : Int
  deriving DecidableEq
def Er (x : ApiToken) : AVal := .agg [.int .i64 x.kind, .str x.text, .int .i64 x.at_]
theorem Qz (x : ApiToken) : Er x = .agg [.int .i64 x.kind, .str x.text, .int .i64 x.at_] := rfl
structure ApiValue where
  kind : Int
  text : (List UInt8)
  keys : (List (List UInt8))
  items : (List ApiValue)
mutual
def AA : ApiValue → AVal
  | ⟨kind, text, keys, items⟩ => .agg [.int .i64 kind, .str text, .slice 1 (List.map AVal.str keys) false, .slice 4 (IY items) false]
def IY : List ApiValue → List AVal
  | [] => []
  | x :: xs => AA x :: IY xs
end
theorem Nl (l : List ApiValue) : IY l = List.map AA l := by
  induction l with
  | nil => rfl
  | cons x l ih => simp only [IY, List.map_cons, ih]
theorem BO (x : ApiValue) : AA x = .agg [.int .i64 x.kind, .str x.text, .slice 1 (List.map AVal.str x.keys) false, .slice 4 (List.map AA x.items) false] := by
  cases x; simp only [AA, Nl]
structure Ref14Parser where
  s : (List UInt8)
  at_ : Int
  nodes : Int
  fail : Int
  where_ : Int
  deriving DecidableEq
def Pp (x : Ref14Parser) : AVal := .agg [.str x.s, .int .i64 x.at_, .int .i64 x.nodes, .int .i64 x.fail, .int .i64 x.where_]
theorem NP (x : Ref14Parser) : Pp x = .agg [.str x.s, .int .i64 x.at_, .int .i64 x.nodes, .int .i64 x.fail, .int .i64 x.where_] := rfl
def Ak : List Utf8textForm := [(Utf8textForm.mk 0 127 0), (Utf8textForm.mk 192 31 128), (Utf8textForm.mk 224 15 2048), (Utf8textForm.mk 240 7 65536)]
def GG : List AVal := [.int .u8 0, .int .u8 127, .int .i64 0, .int .u8 192, .int .u8 31, .int .i64 128, .int .u8 224, .int .u8 15, .int .i64 2048, .int .u8 240, .int .u8 7, .int .i64 65536]
def vT (g : Nat) : Option (List AVal) := if g = 1 then some GG else none
end Go.VM
set_option linter.defProp false
namespace Go.VM
def eE := And.intro @M6 (And.intro @ML (And.intro @Qz (And.intro @BO (@NP))))
end Go.VM
