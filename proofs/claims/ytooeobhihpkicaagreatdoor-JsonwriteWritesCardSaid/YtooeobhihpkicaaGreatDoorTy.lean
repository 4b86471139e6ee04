import Derived.Test.YtooeobhihpkicaaGreatDoorVM2
set_option linter.unusedVariables false
namespace Go.VM
structure Ref14Parser where
  s:(List UInt8)
  at_:Int
  nodes:Int
  fail:Int
  where_:Int
  deriving DecidableEq
def QY (x:Ref14Parser):AVal:=.agg [.str x.s,.int .i64 x.at_,.int .i64 x.nodes,.int .i64 x.fail,.int .i64 x.where_]
theorem Nu (x:Ref14Parser):QY x=.agg [.str x.s,.int .i64 x.at_,.int .i64 x.nodes,.int .i64 x.fail,.int .i64 x.where_]:=rfl
structure ApiToken where
  kind:Int
  text:(List UInt8)
  at_:Int
  deriving DecidableEq
def IX (x:ApiToken):AVal:=.agg [.int .i64 x.kind,.str x.text,.int .i64 x.at_]
theorem Ql (x:ApiToken):IX x=.agg [.int .i64 x.kind,.str x.text,.int .i64 x.at_]:=rfl
structure ApiValue where
  kind:Int
  text:(List UInt8)
  keys:(List (List UInt8))
  items:(List ApiValue)
mutual
def AA:ApiValue→AVal
  |⟨kind,text,keys,items⟩=>.agg [.int .i64 kind,.str text,.slice 1 (List.map AVal.str keys) false,.slice 4 (Je items) false]
def Je:List ApiValue→List AVal
  |[]=>[]
  |x::xs=>AA x::Je xs
end
theorem Oh (l:List ApiValue):Je l=List.map AA l:=by
  induction l with
  |nil=>rfl
  |cons x l ih=>simp only[Je,List.map_cons,ih]
theorem Il (x:ApiValue):AA x=.agg [.int .i64 x.kind,.str x.text,.slice 1 (List.map AVal.str x.keys) false,.slice 4 (List.map AA x.items) false]:=by
  cases x;simp only[AA,Oh]
structure TokenReader where
  s:(List UInt8)
  at_:Int
  deriving DecidableEq
def Qw (x:TokenReader):AVal:=.agg [.str x.s,.int .i64 x.at_]
theorem Nr (x:TokenReader):Qw x=.agg [.str x.s,.int .i64 x.at_]:=rfl
structure Utf8textForm where
  mark:Int
  mask:Int
  least:Int
  deriving DecidableEq
def Pk (x:Utf8textForm):AVal:=.agg [.int .u8 x.mark,.int .u8 x.mask,.int .i64 x.least]
theorem NF (x:Utf8textForm):Pk x=.agg [.int .u8 x.mark,.int .u8 x.mask,.int .i64 x.least]:=rfl
structure JsonwriteCounter where
  nodes:Int
  deriving DecidableEq
def Mk (x:JsonwriteCounter):AVal:=.agg [.int .i64 x.nodes]
theorem LM (x:JsonwriteCounter):Mk x=.agg [.int .i64 x.nodes]:=rfl
structure StringsBuilder where
  addr:Bool
  buf:(List UInt8)
  deriving DecidableEq
structure JsonwriteWriter where
  builder:StringsBuilder
  deriving DecidableEq
def Dn:List Utf8textForm:=[(Utf8textForm.mk 0 127 0),(Utf8textForm.mk 192 31 128),(Utf8textForm.mk 224 15 2048),(Utf8textForm.mk 240 7 65536)]
def JE:List AVal:=[.int .u8 0,.int .u8 127,.int .i64 0,.int .u8 192,.int .u8 31,.int .i64 128,.int .u8 224,.int .u8 15,.int .i64 2048,.int .u8 240,.int .u8 7,.int .i64 65536]
def vT (g:Nat):Option (List AVal):=if g=0 then some JE else none
end Go.VM
set_option linter.defProp false
namespace Go.VM
def eE:=And.intro @Nu (And.intro @Ql (And.intro @Il (And.intro @Nr (And.intro @NF (@LM)))))
end Go.VM
