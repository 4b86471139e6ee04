import Derived.Test.YtjgdhjpafjpjgaaGreatDoorVM2
set_option linter.unusedVariables false
namespace Go.VM
structure ApiField where
  name:(List UInt8)
  value:(List UInt8)
  deriving DecidableEq
def DU (x:ApiField):AVal:=.agg [.str x.name,.str x.value]
theorem Tx (x:ApiField):DU x=.agg [.str x.name,.str x.value]:=rfl
structure Ref14Parser where
  s:(List UInt8)
  at_:Int
  nodes:Int
  fail:Int
  where_:Int
  deriving DecidableEq
def TS (x:Ref14Parser):AVal:=.agg [.str x.s,.int .i64 x.at_,.int .i64 x.nodes,.int .i64 x.fail,.int .i64 x.where_]
theorem Qg (x:Ref14Parser):TS x=.agg [.str x.s,.int .i64 x.at_,.int .i64 x.nodes,.int .i64 x.fail,.int .i64 x.where_]:=rfl
structure ApiToken where
  kind:Int
  text:(List UInt8)
  at_:Int
  deriving DecidableEq
def GQ (x:ApiToken):AVal:=.agg [.int .i64 x.kind,.str x.text,.int .i64 x.at_]
theorem Tf (x:ApiToken):GQ x=.agg [.int .i64 x.kind,.str x.text,.int .i64 x.at_]:=rfl
structure ApiValue where
  kind:Int
  text:(List UInt8)
  keys:(List (List UInt8))
  items:(List ApiValue)
mutual
def AC:ApiValue→AVal
  |⟨kind,text,keys,items⟩=>.agg [.int .i64 kind,.str text,.slice 1 (List.map AVal.str keys) false,.slice 4 (K3 items) false]
def K3:List ApiValue→List AVal
  |[]=>[]
  |x::xs=>AC x::K3 xs
end
theorem Rl (l:List ApiValue):K3 l=List.map AC l:=by
  induction l with
  |nil=>rfl
  |cons x l ih=>simp only[K3,List.map_cons,ih]
theorem Uk (x:ApiValue):AC x=.agg [.int .i64 x.kind,.str x.text,.slice 1 (List.map AVal.str x.keys) false,.slice 4 (List.map AC x.items) false]:=by
  cases x;simp only[AC,Rl]
structure ApiHostPort where
  host:(List UInt8)
  port:Int
  deriving DecidableEq
def Fb (x:ApiHostPort):AVal:=.agg [.str x.host,.int .i64 x.port]
theorem P8 (x:ApiHostPort):Fb x=.agg [.str x.host,.int .i64 x.port]:=rfl
structure ApiURL where
  host:(List UInt8)
  port:Int
  path:(List UInt8)
  query:(List UInt8)
  fragment:(List UInt8)
  hasQuery:Bool
  hasFrag:Bool
  deriving DecidableEq
def Em (x:ApiURL):AVal:=.agg [.str x.host,.int .i64 x.port,.str x.path,.str x.query,.str x.fragment,.bool x.hasQuery,.bool x.hasFrag]
theorem ABW (x:ApiURL):Em x=.agg [.str x.host,.int .i64 x.port,.str x.path,.str x.query,.str x.fragment,.bool x.hasQuery,.bool x.hasFrag]:=rfl
structure ApiDID where
  method:(List UInt8)
  iD:(List UInt8)
  deriving DecidableEq
def GM (x:ApiDID):AVal:=.agg [.str x.method,.str x.iD]
theorem Xx (x:ApiDID):GM x=.agg [.str x.method,.str x.iD]:=rfl
structure StringsBuilder where
  addr:Bool
  buf:(List UInt8)
  deriving DecidableEq
structure DiddocDecoder where
  did:ApiDID
  e:Int
  deriving DecidableEq
def Ri (x:DiddocDecoder):AVal:=.agg [.str x.did.method,.str x.did.iD,.int .i64 x.e]
theorem O5 (x:DiddocDecoder):Ri x=.agg [.str x.did.method,.str x.did.iD,.int .i64 x.e]:=rfl
structure ApiDIDURL where
  dID:ApiDID
  path:(List UInt8)
  query:(List UInt8)
  fragment:(List UInt8)
  hasQuery:Bool
  hasFrag:Bool
  deriving DecidableEq
def CR (x:ApiDIDURL):AVal:=.agg [.str x.dID.method,.str x.dID.iD,.str x.path,.str x.query,.str x.fragment,.bool x.hasQuery,.bool x.hasFrag]
theorem Kl (x:ApiDIDURL):CR x=.agg [.str x.dID.method,.str x.dID.iD,.str x.path,.str x.query,.str x.fragment,.bool x.hasQuery,.bool x.hasFrag]:=rfl
structure ApiService where
  iD:(List UInt8)
  types:(List (List UInt8))
  endpoints:(List (List UInt8))
  deriving DecidableEq
def AP (x:ApiService):AVal:=.agg [.str x.iD,.slice 1 (List.map AVal.str x.types) false,.slice 1 (List.map AVal.str x.endpoints) false]
theorem Rs (x:ApiService):AP x=.agg [.str x.iD,.slice 1 (List.map AVal.str x.types) false,.slice 1 (List.map AVal.str x.endpoints) false]:=rfl
structure ApiMethod where
  iD:(List UInt8)
  type_:(List UInt8)
  controller:(List UInt8)
  deriving DecidableEq
def AU (x:ApiMethod):AVal:=.agg [.str x.iD,.str x.type_,.str x.controller]
theorem S9 (x:ApiMethod):AU x=.agg [.str x.iD,.str x.type_,.str x.controller]:=rfl
structure ApiDoc where
  iD:(List UInt8)
  also:(List (List UInt8))
  controllers:(List (List UInt8))
  methods:(List ApiMethod)
  services:(List ApiService)
  deriving DecidableEq
def K7 (x:ApiDoc):AVal:=.agg [.str x.iD,.slice 1 (List.map AVal.str x.also) false,.slice 1 (List.map AVal.str x.controllers) false,.slice 3 (List.map AU x.methods) false,.slice 3 (List.map AP x.services) false]
theorem Xk (x:ApiDoc):K7 x=.agg [.str x.iD,.slice 1 (List.map AVal.str x.also) false,.slice 1 (List.map AVal.str x.controllers) false,.slice 3 (List.map AU x.methods) false,.slice 3 (List.map AP x.services) false]:=rfl
structure ApiURI where
  scheme:(List UInt8)
  authority:(List UInt8)
  path:(List UInt8)
  query:(List UInt8)
  fragment:(List UInt8)
  hasScheme:Bool
  hasAuthority:Bool
  hasQuery:Bool
  hasFrag:Bool
  deriving DecidableEq
def Eo (x:ApiURI):AVal:=.agg [.str x.scheme,.str x.authority,.str x.path,.str x.query,.str x.fragment,.bool x.hasScheme,.bool x.hasAuthority,.bool x.hasQuery,.bool x.hasFrag]
theorem Za (x:ApiURI):Eo x=.agg [.str x.scheme,.str x.authority,.str x.path,.str x.query,.str x.fragment,.bool x.hasScheme,.bool x.hasAuthority,.bool x.hasQuery,.bool x.hasFrag]:=rfl
structure Ref17Reader where
  d:ApiDID
  fail:Int
  deriving DecidableEq
def Uj (x:Ref17Reader):AVal:=.agg [.str x.d.method,.str x.d.iD,.int .i64 x.fail]
theorem QK (x:Ref17Reader):Uj x=.agg [.str x.d.method,.str x.d.iD,.int .i64 x.fail]:=rfl
def vT (g:Nat):Option (List AVal):=none
end Go.VM
set_option linter.defProp false
namespace Go.VM
def eE:=And.intro @Tx (And.intro @Qg (And.intro @Tf (And.intro @Uk (And.intro @P8 (And.intro @ABW (And.intro @Xx (And.intro @O5 (And.intro @Kl (And.intro @Rs (And.intro @Xk (And.intro @S9 (And.intro @Za (@QK)))))))))))))
end Go.VM
