import Derived.Test.YtooeobhihpkicaaGreatDoorVM2
set_option linter.unusedVariables false
namespace Go.VM
structure Ref14Parser where
  s:(List UInt8)
  at_:Int
  nodes:Int
  fail:Int
  where_:Int
  deriving DecidableEq
def Pt (x:Ref14Parser):AVal:=.agg [.str x.s,.int .i64 x.at_,.int .i64 x.nodes,.int .i64 x.fail,.int .i64 x.where_]
theorem M7 (x:Ref14Parser):Pt x=.agg [.str x.s,.int .i64 x.at_,.int .i64 x.nodes,.int .i64 x.fail,.int .i64 x.where_]:=rfl
structure ApiToken where
  kind:Int
  text:(List UInt8)
  at_:Int
  deriving DecidableEq
def HV (x:ApiToken):AVal:=.agg [.int .i64 x.kind,.str x.text,.int .i64 x.at_]
theorem PM (x:ApiToken):HV x=.agg [.int .i64 x.kind,.str x.text,.int .i64 x.at_]:=rfl
structure ApiValue where
  kind:Int
  text:(List UInt8)
  keys:(List (List UInt8))
  items:(List ApiValue)
mutual
def AC:ApiValue→AVal
  |⟨kind,text,keys,items⟩=>.agg [.int .i64 kind,.str text,.slice 1 (List.map AVal.str keys) false,.slice 4 (Iy items) false]
def Iy:List ApiValue→List AVal
  |[]=>[]
  |x::xs=>AC x::Iy xs
end
theorem NU (l:List ApiValue):Iy l=List.map AC l:=by
  induction l with
  |nil=>rfl
  |cons x l ih=>simp only[Iy,List.map_cons,ih]
theorem GQ (x:ApiValue):AC x=.agg [.int .i64 x.kind,.str x.text,.slice 1 (List.map AVal.str x.keys) false,.slice 4 (List.map AC x.items) false]:=by
  cases x;simp only[AC,NU]
structure TokenReader where
  s:(List UInt8)
  at_:Int
  deriving DecidableEq
def PW (x:TokenReader):AVal:=.agg [.str x.s,.int .i64 x.at_]
theorem M0 (x:TokenReader):PW x=.agg [.str x.s,.int .i64 x.at_]:=rfl
structure Utf8textForm where
  mark:Int
  mask:Int
  least:Int
  deriving DecidableEq
def Ob (x:Utf8textForm):AVal:=.agg [.int .u8 x.mark,.int .u8 x.mask,.int .i64 x.least]
theorem MN (x:Utf8textForm):Ob x=.agg [.int .u8 x.mark,.int .u8 x.mask,.int .i64 x.least]:=rfl
structure JsonwriteCounter where
  nodes:Int
  deriving DecidableEq
def L8 (x:JsonwriteCounter):AVal:=.agg [.int .i64 x.nodes]
theorem KM (x:JsonwriteCounter):L8 x=.agg [.int .i64 x.nodes]:=rfl
structure StringsBuilder where
  addr:Bool
  buf:(List UInt8)
  deriving DecidableEq
structure JsonwriteWriter where
  builder:StringsBuilder
  deriving DecidableEq
def DU:List Utf8textForm:=[(Utf8textForm.mk 0 127 0),(Utf8textForm.mk 192 31 128),(Utf8textForm.mk 224 15 2048),(Utf8textForm.mk 240 7 65536)]
def IZ:List AVal:=[.int .u8 0,.int .u8 127,.int .i64 0,.int .u8 192,.int .u8 31,.int .i64 128,.int .u8 224,.int .u8 15,.int .i64 2048,.int .u8 240,.int .u8 7,.int .i64 65536]
def vT (g:Nat):Option (List AVal):=if g=0 then some IZ else none
end Go.VM
set_option linter.defProp false
namespace Go.VM
def eE:=And.intro @M7 (And.intro @PM (And.intro @GQ (And.intro @M0 (And.intro @MN (@KM)))))
end Go.VM
