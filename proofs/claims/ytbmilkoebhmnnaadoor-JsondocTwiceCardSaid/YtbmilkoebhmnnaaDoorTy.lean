import Derived.Test.YtbmilkoebhmnnaaDoorVM2
set_option linter.unusedVariables false
namespace Go.VM
structure TokenReader where
  s : (List UInt8)
  at_ : Int
  deriving DecidableEq
def Qo (x : TokenReader) : AVal := .agg [.str x.s, .int .i64 x.at_]
theorem Mv (x : TokenReader) : Qo x = .agg [.str x.s, .int .i64 x.at_] := rfl
structure Utf8textForm where
  mark : Int
  mask : Int
  least : Int
  deriving DecidableEq
def O6 (x : Utf8textForm) : AVal := .agg [.int .u8 x.mark, .int .u8 x.mask, .int .i64 x.least]
theorem Li (x : Utf8textForm) : O6 x = .agg [.int .u8 x.mark, .int .u8 x.mask, .int .i64 x.least] := rfl
structure StringsBuilder where
  addr : Bool
  buf : (List UInt8)
  deriving DecidableEq
structure ApiToken where
  kind : Int
  text : (List UInt8)
  at_ : Int
  deriving DecidableEq
def Ej (x : ApiToken) : AVal := .agg [.int .i64 x.kind, .str x.text, .int .i64 x.at_]
theorem Pp (x : ApiToken) : Ej x = .agg [.int .i64 x.kind, .str x.text, .int .i64 x.at_] := rfl
structure ApiValue where
  kind : Int
  text : (List UInt8)
  keys : (List (List UInt8))
  items : (List ApiValue)
mutual
def AJ : ApiValue → AVal
  | ⟨kind, text, keys, items⟩ => .agg [.int .i64 kind, .str text, .slice 1 (List.map AVal.str keys) false, .slice 4 (Ev items) false]
def Ev : List ApiValue → List AVal
  | [] => []
  | x :: xs => AJ x :: Ev xs
end
theorem NT (l : List ApiValue) : Ev l = List.map AJ l := by
  induction l with
  | nil => rfl
  | cons x l ih => simp only [Ev, List.map_cons, ih]
theorem EB (x : ApiValue) : AJ x = .agg [.int .i64 x.kind, .str x.text, .slice 1 (List.map AVal.str x.keys) false, .slice 4 (List.map AJ x.items) false] := by
  cases x; simp only [AJ, NT]
def Ak : List Utf8textForm := [(Utf8textForm.mk 0 127 0), (Utf8textForm.mk 192 31 128), (Utf8textForm.mk 224 15 2048), (Utf8textForm.mk 240 7 65536)]
def GD : List AVal := [.int .u8 0, .int .u8 127, .int .i64 0, .int .u8 192, .int .u8 31, .int .i64 128, .int .u8 224, .int .u8 15, .int .i64 2048, .int .u8 240, .int .u8 7, .int .i64 65536]
def vT (g : Nat) : Option (List AVal) := if g = 1 then some GD else none
end Go.VM
set_option linter.defProp false
namespace Go.VM
def eE := And.intro @Mv (And.intro @Li (And.intro @Pp (@EB)))
end Go.VM
