import Derived.Test.YtooeobhihpkicaaGreatDoorVM2
set_option linter.unusedVariables false
namespace Go.VM
structure Ref14Parser where
  s:(List UInt8)
  at_:Int
  nodes:Int
  fail:Int
  where_:Int
  deriving DecidableEq
def Q4 (x:Ref14Parser):AVal:=.agg [.str x.s,.int .i64 x.at_,.int .i64 x.nodes,.int .i64 x.fail,.int .i64 x.where_]
theorem NT (x:Ref14Parser):Q4 x=.agg [.str x.s,.int .i64 x.at_,.int .i64 x.nodes,.int .i64 x.fail,.int .i64 x.where_]:=rfl
structure ApiToken where
  kind:Int
  text:(List UInt8)
  at_:Int
  deriving DecidableEq
def Hz (x:ApiToken):AVal:=.agg [.int .i64 x.kind,.str x.text,.int .i64 x.at_]
theorem RS (x:ApiToken):Hz x=.agg [.int .i64 x.kind,.str x.text,.int .i64 x.at_]:=rfl
structure ApiValue where
  kind:Int
  text:(List UInt8)
  keys:(List (List UInt8))
  items:(List ApiValue)
mutual
def AB:ApiValue→AVal
  |⟨kind,text,keys,items⟩=>.agg [.int .i64 kind,.str text,.slice 1 (List.map AVal.str keys) false,.slice 4 (JW items) false]
def JW:List ApiValue→List AVal
  |[]=>[]
  |x::xs=>AB x::JW xs
end
theorem Ob (l:List ApiValue):JW l=List.map AB l:=by
  induction l with
  |nil=>rfl
  |cons x l ih=>simp only[JW,List.map_cons,ih]
theorem IJ (x:ApiValue):AB x=.agg [.int .i64 x.kind,.str x.text,.slice 1 (List.map AVal.str x.keys) false,.slice 4 (List.map AB x.items) false]:=by
  cases x;simp only[AB,Ob]
structure TokenReader where
  s:(List UInt8)
  at_:Int
  deriving DecidableEq
def Rk (x:TokenReader):AVal:=.agg [.str x.s,.int .i64 x.at_]
theorem Nu (x:TokenReader):Rk x=.agg [.str x.s,.int .i64 x.at_]:=rfl
structure Utf8textForm where
  mark:Int
  mask:Int
  least:Int
  deriving DecidableEq
def Pj (x:Utf8textForm):AVal:=.agg [.int .u8 x.mark,.int .u8 x.mask,.int .i64 x.least]
theorem NB (x:Utf8textForm):Pj x=.agg [.int .u8 x.mark,.int .u8 x.mask,.int .i64 x.least]:=rfl
structure JsonwriteCounter where
  nodes:Int
  deriving DecidableEq
def Me (x:JsonwriteCounter):AVal:=.agg [.int .i64 x.nodes]
theorem LD (x:JsonwriteCounter):Me x=.agg [.int .i64 x.nodes]:=rfl
structure StringsBuilder where
  addr:Bool
  buf:(List UInt8)
  deriving DecidableEq
structure JsonwriteWriter where
  builder:StringsBuilder
  deriving DecidableEq
def Dn:List Utf8textForm:=[(Utf8textForm.mk 0 127 0),(Utf8textForm.mk 192 31 128),(Utf8textForm.mk 224 15 2048),(Utf8textForm.mk 240 7 65536)]
def I5:List AVal:=[.int .u8 0,.int .u8 127,.int .i64 0,.int .u8 192,.int .u8 31,.int .i64 128,.int .u8 224,.int .u8 15,.int .i64 2048,.int .u8 240,.int .u8 7,.int .i64 65536]
def vT (g:Nat):Option (List AVal):=if g=0 then some I5 else none
end Go.VM
set_option linter.defProp false
namespace Go.VM
def eE:=And.intro @NT (And.intro @RS (And.intro @IJ (And.intro @Nu (And.intro @NB (@LD)))))
end Go.VM
