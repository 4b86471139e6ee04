import Derived.Test.YtjgdhjpafjpjgaaGreatDoorVM2
set_option linter.unusedVariables false
namespace Go.VM
structure ApiField where
  name:(List UInt8)
  value:(List UInt8)
  deriving DecidableEq
def Bz (x:ApiField):AVal:=.agg [.str x.name,.str x.value]
theorem Nb (x:ApiField):Bz x=.agg [.str x.name,.str x.value]:=rfl
structure Ref14Parser where
  s:(List UInt8)
  at_:Int
  nodes:Int
  fail:Int
  where_:Int
  deriving DecidableEq
def Nh (x:Ref14Parser):AVal:=.agg [.str x.s,.int .i64 x.at_,.int .i64 x.nodes,.int .i64 x.fail,.int .i64 x.where_]
theorem Lx (x:Ref14Parser):Nh x=.agg [.str x.s,.int .i64 x.at_,.int .i64 x.nodes,.int .i64 x.fail,.int .i64 x.where_]:=rfl
structure ApiToken where
  kind:Int
  text:(List UInt8)
  at_:Int
  deriving DecidableEq
def Fx (x:ApiToken):AVal:=.agg [.int .i64 x.kind,.str x.text,.int .i64 x.at_]
theorem OQ (x:ApiToken):Fx x=.agg [.int .i64 x.kind,.str x.text,.int .i64 x.at_]:=rfl
structure ApiValue where
  kind:Int
  text:(List UInt8)
  keys:(List (List UInt8))
  items:(List ApiValue)
mutual
def AJ:ApiValue→AVal
  |⟨kind,text,keys,items⟩=>.agg [.int .i64 kind,.str text,.slice 1 (List.map AVal.str keys) false,.slice 4 (Ha items) false]
def Ha:List ApiValue→List AVal
  |[]=>[]
  |x::xs=>AJ x::Ha xs
end
theorem Mh (l:List ApiValue):Ha l=List.map AJ l:=by
  induction l with
  |nil=>rfl
  |cons x l ih=>simp only[Ha,List.map_cons,ih]
theorem OA (x:ApiValue):AJ x=.agg [.int .i64 x.kind,.str x.text,.slice 1 (List.map AVal.str x.keys) false,.slice 4 (List.map AJ x.items) false]:=by
  cases x;simp only[AJ,Mh]
structure ApiHostPort where
  host:(List UInt8)
  port:Int
  deriving DecidableEq
def GH (x:ApiHostPort):AVal:=.agg [.str x.host,.int .i64 x.port]
theorem MF (x:ApiHostPort):GH x=.agg [.str x.host,.int .i64 x.port]:=rfl
structure ApiURL where
  host:(List UInt8)
  port:Int
  path:(List UInt8)
  query:(List UInt8)
  fragment:(List UInt8)
  hasQuery:Bool
  hasFrag:Bool
  deriving DecidableEq
def Fj (x:ApiURL):AVal:=.agg [.str x.host,.int .i64 x.port,.str x.path,.str x.query,.str x.fragment,.bool x.hasQuery,.bool x.hasFrag]
theorem UR (x:ApiURL):Fj x=.agg [.str x.host,.int .i64 x.port,.str x.path,.str x.query,.str x.fragment,.bool x.hasQuery,.bool x.hasFrag]:=rfl
structure ApiDID where
  method:(List UInt8)
  iD:(List UInt8)
  deriving DecidableEq
def KU (x:ApiDID):AVal:=.agg [.str x.method,.str x.iD]
theorem R5 (x:ApiDID):KU x=.agg [.str x.method,.str x.iD]:=rfl
structure StringsBuilder where
  addr:Bool
  buf:(List UInt8)
  deriving DecidableEq
structure DiddocDecoder where
  did:ApiDID
  e:Int
  deriving DecidableEq
def MM (x:DiddocDecoder):AVal:=.agg [.str x.did.method,.str x.did.iD,.int .i64 x.e]
theorem Kg (x:DiddocDecoder):MM x=.agg [.str x.did.method,.str x.did.iD,.int .i64 x.e]:=rfl
structure ApiDIDURL where
  dID:ApiDID
  path:(List UInt8)
  query:(List UInt8)
  fragment:(List UInt8)
  hasQuery:Bool
  hasFrag:Bool
  deriving DecidableEq
def FE (x:ApiDIDURL):AVal:=.agg [.str x.dID.method,.str x.dID.iD,.str x.path,.str x.query,.str x.fragment,.bool x.hasQuery,.bool x.hasFrag]
theorem NJ (x:ApiDIDURL):FE x=.agg [.str x.dID.method,.str x.dID.iD,.str x.path,.str x.query,.str x.fragment,.bool x.hasQuery,.bool x.hasFrag]:=rfl
structure ApiService where
  iD:(List UInt8)
  types:(List (List UInt8))
  endpoints:(List (List UInt8))
  deriving DecidableEq
def Ac (x:ApiService):AVal:=.agg [.str x.iD,.slice 1 (List.map AVal.str x.types) false,.slice 1 (List.map AVal.str x.endpoints) false]
theorem MO (x:ApiService):Ac x=.agg [.str x.iD,.slice 1 (List.map AVal.str x.types) false,.slice 1 (List.map AVal.str x.endpoints) false]:=rfl
structure ApiMethod where
  iD:(List UInt8)
  type_:(List UInt8)
  controller:(List UInt8)
  deriving DecidableEq
def Ad (x:ApiMethod):AVal:=.agg [.str x.iD,.str x.type_,.str x.controller]
theorem NH (x:ApiMethod):Ad x=.agg [.str x.iD,.str x.type_,.str x.controller]:=rfl
structure ApiDoc where
  iD:(List UInt8)
  also:(List (List UInt8))
  controllers:(List (List UInt8))
  methods:(List ApiMethod)
  services:(List ApiService)
  deriving DecidableEq
def Me (x:ApiDoc):AVal:=.agg [.str x.iD,.slice 1 (List.map AVal.str x.also) false,.slice 1 (List.map AVal.str x.controllers) false,.slice 3 (List.map Ad x.methods) false,.slice 3 (List.map Ac x.services) false]
theorem Px (x:ApiDoc):Me x=.agg [.str x.iD,.slice 1 (List.map AVal.str x.also) false,.slice 1 (List.map AVal.str x.controllers) false,.slice 3 (List.map Ad x.methods) false,.slice 3 (List.map Ac x.services) false]:=rfl
structure ApiURI where
  scheme:(List UInt8)
  authority:(List UInt8)
  path:(List UInt8)
  query:(List UInt8)
  fragment:(List UInt8)
  hasScheme:Bool
  hasAuthority:Bool
  hasQuery:Bool
  hasFrag:Bool
  deriving DecidableEq
def Fv (x:ApiURI):AVal:=.agg [.str x.scheme,.str x.authority,.str x.path,.str x.query,.str x.fragment,.bool x.hasScheme,.bool x.hasAuthority,.bool x.hasQuery,.bool x.hasFrag]
theorem QE (x:ApiURI):Fv x=.agg [.str x.scheme,.str x.authority,.str x.path,.str x.query,.str x.fragment,.bool x.hasScheme,.bool x.hasAuthority,.bool x.hasQuery,.bool x.hasFrag]:=rfl
def vT (g:Nat):Option (List AVal):=none
end Go.VM
set_option linter.defProp false
namespace Go.VM
def eE:=And.intro @Nb (And.intro @Lx (And.intro @OQ (And.intro @OA (And.intro @MF (And.intro @UR (And.intro @R5 (And.intro @Kg (And.intro @NJ (And.intro @MO (And.intro @Px (And.intro @NH (@QE))))))))))))
end Go.VM
