import Derived.Test.YtooeobhihpkicaaGreatDoorVM2
set_option linter.unusedVariables false
namespace Go.VM
structure Ref14Parser where
  s:(List UInt8)
  at_:Int
  nodes:Int
  fail:Int
  where_:Int
  deriving DecidableEq
def R4 (x:Ref14Parser):AVal:=.agg [.str x.s,.int .i64 x.at_,.int .i64 x.nodes,.int .i64 x.fail,.int .i64 x.where_]
theorem N7 (x:Ref14Parser):R4 x=.agg [.str x.s,.int .i64 x.at_,.int .i64 x.nodes,.int .i64 x.fail,.int .i64 x.where_]:=rfl
structure ApiToken where
  kind:Int
  text:(List UInt8)
  at_:Int
  deriving DecidableEq
def IC (x:ApiToken):AVal:=.agg [.int .i64 x.kind,.str x.text,.int .i64 x.at_]
theorem RH (x:ApiToken):IC x=.agg [.int .i64 x.kind,.str x.text,.int .i64 x.at_]:=rfl
structure ApiValue where
  kind:Int
  text:(List UInt8)
  keys:(List (List UInt8))
  items:(List ApiValue)
mutual
def AJ:ApiValue→AVal
  |⟨kind,text,keys,items⟩=>.agg [.int .i64 kind,.str text,.slice 1 (List.map AVal.str keys) false,.slice 4 (JV items) false]
def JV:List ApiValue→List AVal
  |[]=>[]
  |x::xs=>AJ x::JV xs
end
theorem Oi (l:List ApiValue):JV l=List.map AJ l:=by
  induction l with
  |nil=>rfl
  |cons x l ih=>simp only[JV,List.map_cons,ih]
theorem Q3 (x:ApiValue):AJ x=.agg [.int .i64 x.kind,.str x.text,.slice 1 (List.map AVal.str x.keys) false,.slice 4 (List.map AJ x.items) false]:=by
  cases x;simp only[AJ,Oi]
structure TokenReader where
  s:(List UInt8)
  at_:Int
  deriving DecidableEq
def Ql (x:TokenReader):AVal:=.agg [.str x.s,.int .i64 x.at_]
theorem OA (x:TokenReader):Ql x=.agg [.str x.s,.int .i64 x.at_]:=rfl
structure Utf8textForm where
  mark:Int
  mask:Int
  least:Int
  deriving DecidableEq
def Pj (x:Utf8textForm):AVal:=.agg [.int .u8 x.mark,.int .u8 x.mask,.int .i64 x.least]
theorem M7 (x:Utf8textForm):Pj x=.agg [.int .u8 x.mark,.int .u8 x.mask,.int .i64 x.least]:=rfl
structure JsonwriteCounter where
  nodes:Int
  deriving DecidableEq
def Mh (x:JsonwriteCounter):AVal:=.agg [.int .i64 x.nodes]
theorem Kw (x:JsonwriteCounter):Mh x=.agg [.int .i64 x.nodes]:=rfl
structure StringsBuilder where
  addr:Bool
  buf:(List UInt8)
  deriving DecidableEq
structure JsonwriteWriter where
  builder:StringsBuilder
  deriving DecidableEq
def Dv:List Utf8textForm:=[(Utf8textForm.mk 0 127 0),(Utf8textForm.mk 192 31 128),(Utf8textForm.mk 224 15 2048),(Utf8textForm.mk 240 7 65536)]
def I8:List AVal:=[.int .u8 0,.int .u8 127,.int .i64 0,.int .u8 192,.int .u8 31,.int .i64 128,.int .u8 224,.int .u8 15,.int .i64 2048,.int .u8 240,.int .u8 7,.int .i64 65536]
def vT (g:Nat):Option (List AVal):=if g=0 then some I8 else none
end Go.VM
set_option linter.defProp false
namespace Go.VM
def eE:=And.intro @N7 (And.intro @RH (And.intro @Q3 (And.intro @OA (And.intro @M7 (@Kw)))))
end Go.VM
