import Derived.Test.YtmalodjbhonipaaGreatDoorVM2
set_option linter.unusedVariables false
namespace Go.VM
structure Ref14Parser where
  s:(List UInt8)
  at_:Int
  nodes:Int
  fail:Int
  where_:Int
  deriving DecidableEq
def Sz (x:Ref14Parser):AVal:=.agg [.str x.s,.int .i64 x.at_,.int .i64 x.nodes,.int .i64 x.fail,.int .i64 x.where_]
theorem QA (x:Ref14Parser):Sz x=.agg [.str x.s,.int .i64 x.at_,.int .i64 x.nodes,.int .i64 x.fail,.int .i64 x.where_]:=rfl
structure ApiToken where
  kind:Int
  text:(List UInt8)
  at_:Int
  deriving DecidableEq
def I7 (x:ApiToken):AVal:=.agg [.int .i64 x.kind,.str x.text,.int .i64 x.at_]
theorem Sw (x:ApiToken):I7 x=.agg [.int .i64 x.kind,.str x.text,.int .i64 x.at_]:=rfl
structure ApiValue where
  kind:Int
  text:(List UInt8)
  keys:(List (List UInt8))
  items:(List ApiValue)
mutual
def AR:ApiValue→AVal
  |⟨kind,text,keys,items⟩=>.agg [.int .i64 kind,.str text,.slice 1 (List.map AVal.str keys) false,.slice 4 (KY items) false]
def KY:List ApiValue→List AVal
  |[]=>[]
  |x::xs=>AR x::KY xs
end
theorem Qv (l:List ApiValue):KY l=List.map AR l:=by
  induction l with
  |nil=>rfl
  |cons x l ih=>simp only[KY,aK,ih]
theorem UD (x:ApiValue):AR x=.agg [.int .i64 x.kind,.str x.text,.slice 1 (List.map AVal.str x.keys) false,.slice 4 (List.map AR x.items) false]:=by
  cases x;simp only[AR,Qv]
structure ApiDID where
  method:(List UInt8)
  iD:(List UInt8)
  deriving DecidableEq
def Jy (x:ApiDID):AVal:=.agg [.str x.method,.str x.iD]
theorem Ye (x:ApiDID):Jy x=.agg [.str x.method,.str x.iD]:=rfl
structure StringsBuilder where
  addr:Bool
  buf:(List UInt8)
  deriving DecidableEq
structure DiddocDecoder where
  did:ApiDID
  e:Int
  deriving DecidableEq
def Qo (x:DiddocDecoder):AVal:=.agg [.str x.did.method,.str x.did.iD,.int .i64 x.e]
theorem OM (x:DiddocDecoder):Qo x=.agg [.str x.did.method,.str x.did.iD,.int .i64 x.e]:=rfl
structure ApiDIDURL where
  dID:ApiDID
  path:(List UInt8)
  query:(List UInt8)
  fragment:(List UInt8)
  hasQuery:Bool
  hasFrag:Bool
  deriving DecidableEq
def BZ (x:ApiDIDURL):AVal:=.agg [.str x.dID.method,.str x.dID.iD,.str x.path,.str x.query,.str x.fragment,.bool x.hasQuery,.bool x.hasFrag]
theorem KJ (x:ApiDIDURL):BZ x=.agg [.str x.dID.method,.str x.dID.iD,.str x.path,.str x.query,.str x.fragment,.bool x.hasQuery,.bool x.hasFrag]:=rfl
structure ApiService where
  iD:(List UInt8)
  types:(List (List UInt8))
  endpoints:(List (List UInt8))
  deriving DecidableEq
def Cc (x:ApiService):AVal:=.agg [.str x.iD,.slice 1 (List.map AVal.str x.types) false,.slice 1 (List.map AVal.str x.endpoints) false]
theorem Qq (x:ApiService):Cc x=.agg [.str x.iD,.slice 1 (List.map AVal.str x.types) false,.slice 1 (List.map AVal.str x.endpoints) false]:=rfl
structure ApiMethod where
  iD:(List UInt8)
  type_:(List UInt8)
  controller:(List UInt8)
  deriving DecidableEq
def Ef (x:ApiMethod):AVal:=.agg [.str x.iD,.str x.type_,.str x.controller]
theorem Rq (x:ApiMethod):Ef x=.agg [.str x.iD,.str x.type_,.str x.controller]:=rfl
structure ApiDoc where
  iD:(List UInt8)
  also:(List (List UInt8))
  controllers:(List (List UInt8))
  methods:(List ApiMethod)
  services:(List ApiService)
  deriving DecidableEq
def Nl (x:ApiDoc):AVal:=.agg [.str x.iD,.slice 1 (List.map AVal.str x.also) false,.slice 1 (List.map AVal.str x.controllers) false,.slice 3 (List.map Ef x.methods) false,.slice 3 (List.map Cc x.services) false]
theorem Yz (x:ApiDoc):Nl x=.agg [.str x.iD,.slice 1 (List.map AVal.str x.also) false,.slice 1 (List.map AVal.str x.controllers) false,.slice 3 (List.map Ef x.methods) false,.slice 3 (List.map Cc x.services) false]:=rfl
structure ApiField where
  name:(List UInt8)
  value:(List UInt8)
  deriving DecidableEq
def Cu (x:ApiField):AVal:=.agg [.str x.name,.str x.value]
theorem Ti (x:ApiField):Cu x=.agg [.str x.name,.str x.value]:=rfl
structure ApiHostPort where
  host:(List UInt8)
  port:Int
  deriving DecidableEq
def FV (x:ApiHostPort):AVal:=.agg [.str x.host,.int .i64 x.port]
theorem P9 (x:ApiHostPort):FV x=.agg [.str x.host,.int .i64 x.port]:=rfl
structure ApiURL where
  host:(List UInt8)
  port:Int
  path:(List UInt8)
  query:(List UInt8)
  fragment:(List UInt8)
  hasQuery:Bool
  hasFrag:Bool
  deriving DecidableEq
def Eb (x:ApiURL):AVal:=.agg [.str x.host,.int .i64 x.port,.str x.path,.str x.query,.str x.fragment,.bool x.hasQuery,.bool x.hasFrag]
theorem Zk (x:ApiURL):Eb x=.agg [.str x.host,.int .i64 x.port,.str x.path,.str x.query,.str x.fragment,.bool x.hasQuery,.bool x.hasFrag]:=rfl
structure ApiURI where
  scheme:(List UInt8)
  authority:(List UInt8)
  path:(List UInt8)
  query:(List UInt8)
  fragment:(List UInt8)
  hasScheme:Bool
  hasAuthority:Bool
  hasQuery:Bool
  hasFrag:Bool
  deriving DecidableEq
def Ed (x:ApiURI):AVal:=.agg [.str x.scheme,.str x.authority,.str x.path,.str x.query,.str x.fragment,.bool x.hasScheme,.bool x.hasAuthority,.bool x.hasQuery,.bool x.hasFrag]
theorem Yd (x:ApiURI):Ed x=.agg [.str x.scheme,.str x.authority,.str x.path,.str x.query,.str x.fragment,.bool x.hasScheme,.bool x.hasAuthority,.bool x.hasQuery,.bool x.hasFrag]:=rfl
structure Ref17Reader where
  d:ApiDID
  fail:Int
  deriving DecidableEq
def UF (x:Ref17Reader):AVal:=.agg [.str x.d.method,.str x.d.iD,.int .i64 x.fail]
theorem Ph (x:Ref17Reader):UF x=.agg [.str x.d.method,.str x.d.iD,.int .i64 x.fail]:=rfl
def AUm:List AVal:=[.num .i64]
def vT (g:Nat):Option (List AVal):=if g=0 then some AUm else none
end Go.VM
set_option linter.defProp false
namespace Go.VM
def eE:=ab @QA (ab @Sw (ab @UD (ab @Ye (ab @OM (ab @KJ (ab @Qq (ab @Yz (ab @Rq (ab @Ti (ab @P9 (ab @Zk (ab @Yd (@Ph)))))))))))))
end Go.VM
