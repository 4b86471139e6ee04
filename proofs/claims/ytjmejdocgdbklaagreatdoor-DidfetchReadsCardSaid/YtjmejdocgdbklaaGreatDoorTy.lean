import Derived.Test.YtjmejdocgdbklaaGreatDoorVM2
set_option linter.defProp false
set_option linter.unusedVariables false
namespace Go.VM
structure ApiField where
  name:B8
  value:B8
  deriving DecidableEq
def FD (x:ApiField):AVal:=.agg [.str x.name,.str x.value]
theorem TY (x:ApiField):FD x=.agg [.str x.name,.str x.value]:=rfl
structure ApiHead where
  minor:Int
  status:Int
  fields:(List ApiField)
  deriving DecidableEq
def OD (x:ApiHead):AVal:=.agg [.int .i64 x.minor,.int .i64 x.status,.slice 2 (List.map FD x.fields) false]
theorem ADk (x:ApiHead):OD x=.agg [.int .i64 x.minor,.int .i64 x.status,.slice 2 (List.map FD x.fields) false]:=rfl
structure StringsBuilder where
  addr:Bool
  buf:B8
  deriving DecidableEq
structure GrammarCursor where
  s:B8
  at_:Int
  deriving DecidableEq
def YL (x:GrammarCursor):AVal:=.agg [.str x.s,.int .i64 x.at_]
theorem U4 (x:GrammarCursor):YL x=.agg [.str x.s,.int .i64 x.at_]:=rfl
structure ApiMedia where
  type_:B8
  sub:B8
  params:(List ApiField)
  deriving DecidableEq
def JM (x:ApiMedia):AVal:=.agg [.str x.type_,.str x.sub,.slice 2 (List.map FD x.params) false]
theorem AAn (x:ApiMedia):JM x=.agg [.str x.type_,.str x.sub,.slice 2 (List.map FD x.params) false]:=rfl
structure TokenReader where
  s:B8
  at_:Int
  deriving DecidableEq
def AAx (x:TokenReader):AVal:=.agg [.str x.s,.int .i64 x.at_]
theorem WK (x:TokenReader):AAx x=.agg [.str x.s,.int .i64 x.at_]:=rfl
structure Utf8textForm where
  mark:Int
  mask:Int
  least:Int
  deriving DecidableEq
def Zl (x:Utf8textForm):AVal:=.agg [.int .u8 x.mark,.int .u8 x.mask,.int .i64 x.least]
theorem Vd (x:Utf8textForm):Zl x=.agg [.int .u8 x.mark,.int .u8 x.mask,.int .i64 x.least]:=rfl
structure ApiToken where
  kind:Int
  text:B8
  at_:Int
  deriving DecidableEq
def Eb (x:ApiToken):AVal:=.agg [.int .i64 x.kind,.str x.text,.int .i64 x.at_]
theorem ACO (x:ApiToken):Eb x=.agg [.int .i64 x.kind,.str x.text,.int .i64 x.at_]:=rfl
structure ApiValue where
  kind:Int
  text:B8
  keys:(List B8)
  items:(List ApiValue)
mutual
def AP:ApiValue->AVal
  |⟨kind,text,keys,items⟩=>.agg [.int .i64 kind,.str text,.slice 1 (List.map AVal.str keys) false,.slice 4 (PL items) false]
def PL:List ApiValue->List AVal
  |[]=>[]
  |x::xs=>AP x::PL xs
end
def YP (l:List ApiValue):PL l=List.map AP l:=by
  induction l with
  |nil=>rfl
  |cons x l ih=>simp only[PL,aE,ih]
def Iq (x:ApiValue):AP x=.agg [.int .i64 x.kind,.str x.text,.slice 1 (List.map AVal.str x.keys) false,.slice 4 (List.map AP x.items) false]:=by
  cases x;simp only[AP,YP]
structure ApiDID where
  method:B8
  iD:B8
  deriving DecidableEq
def Cy (x:ApiDID):AVal:=.agg [.str x.method,.str x.iD]
theorem R7 (x:ApiDID):Cy x=.agg [.str x.method,.str x.iD]:=rfl
structure DiddocDecoder where
  did:ApiDID
  e:Int
  deriving DecidableEq
def Yi (x:DiddocDecoder):AVal:=.agg [.str x.did.method,.str x.did.iD,.int .i64 x.e]
theorem U2 (x:DiddocDecoder):Yi x=.agg [.str x.did.method,.str x.did.iD,.int .i64 x.e]:=rfl
structure ApiDIDURL where
  dID:ApiDID
  path:B8
  query:B8
  fragment:B8
  hasQuery:Bool
  hasFrag:Bool
  deriving DecidableEq
def KN (x:ApiDIDURL):AVal:=.agg [.str x.dID.method,.str x.dID.iD,.str x.path,.str x.query,.str x.fragment,.bool x.hasQuery,.bool x.hasFrag]
theorem Zy (x:ApiDIDURL):KN x=.agg [.str x.dID.method,.str x.dID.iD,.str x.path,.str x.query,.str x.fragment,.bool x.hasQuery,.bool x.hasFrag]:=rfl
structure ApiService where
  iD:B8
  types:(List B8)
  endpoints:(List B8)
  deriving DecidableEq
def Ej (x:ApiService):AVal:=.agg [.str x.iD,.slice 1 (List.map AVal.str x.types) false,.slice 1 (List.map AVal.str x.endpoints) false]
theorem YY (x:ApiService):Ej x=.agg [.str x.iD,.slice 1 (List.map AVal.str x.types) false,.slice 1 (List.map AVal.str x.endpoints) false]:=rfl
structure ApiMethod where
  iD:B8
  type_:B8
  controller:B8
  deriving DecidableEq
def Ha (x:ApiMethod):AVal:=.agg [.str x.iD,.str x.type_,.str x.controller]
theorem Zp (x:ApiMethod):Ha x=.agg [.str x.iD,.str x.type_,.str x.controller]:=rfl
structure ApiDoc where
  iD:B8
  also:(List B8)
  controllers:(List B8)
  methods:(List ApiMethod)
  services:(List ApiService)
  deriving DecidableEq
def YT (x:ApiDoc):AVal:=.agg [.str x.iD,.slice 1 (List.map AVal.str x.also) false,.slice 1 (List.map AVal.str x.controllers) false,.slice 3 (List.map Ha x.methods) false,.slice 3 (List.map Ej x.services) false]
theorem AJI (x:ApiDoc):YT x=.agg [.str x.iD,.slice 1 (List.map AVal.str x.also) false,.slice 1 (List.map AVal.str x.controllers) false,.slice 3 (List.map Ha x.methods) false,.slice 3 (List.map Ej x.services) false]:=rfl
structure ApiAcct where
  user:B8
  host:B8
  deriving DecidableEq
def Po (x:ApiAcct):AVal:=.agg [.str x.user,.str x.host]
theorem ADj (x:ApiAcct):Po x=.agg [.str x.user,.str x.host]:=rfl
structure ApiID where
  kind:Int
  text:B8
  host:B8
  port:Int
  deriving DecidableEq
def MU (x:ApiID):AVal:=.agg [.int .i64 x.kind,.str x.text,.str x.host,.int .i64 x.port]
theorem ANd (x:ApiID):MU x=.agg [.int .i64 x.kind,.str x.text,.str x.host,.int .i64 x.port]:=rfl
structure ApiMail where
  local_:B8
  host:B8
  deriving DecidableEq
def QB (x:ApiMail):AVal:=.agg [.str x.local_,.str x.host]
theorem ACz (x:ApiMail):QB x=.agg [.str x.local_,.str x.host]:=rfl
structure ApiHostPort where
  host:B8
  port:Int
  deriving DecidableEq
def FJ (x:ApiHostPort):AVal:=.agg [.str x.host,.int .i64 x.port]
theorem XL (x:ApiHostPort):FJ x=.agg [.str x.host,.int .i64 x.port]:=rfl
structure ApiURL where
  host:B8
  port:Int
  path:B8
  query:B8
  fragment:B8
  hasQuery:Bool
  hasFrag:Bool
  deriving DecidableEq
def Gv (x:ApiURL):AVal:=.agg [.str x.host,.int .i64 x.port,.str x.path,.str x.query,.str x.fragment,.bool x.hasQuery,.bool x.hasFrag]
theorem AJc (x:ApiURL):Gv x=.agg [.str x.host,.int .i64 x.port,.str x.path,.str x.query,.str x.fragment,.bool x.hasQuery,.bool x.hasFrag]:=rfl
structure ApiURI where
  scheme:B8
  authority:B8
  path:B8
  query:B8
  fragment:B8
  hasScheme:Bool
  hasAuthority:Bool
  hasQuery:Bool
  hasFrag:Bool
  deriving DecidableEq
def Yz (x:ApiURI):AVal:=.agg [.str x.scheme,.str x.authority,.str x.path,.str x.query,.str x.fragment,.bool x.hasScheme,.bool x.hasAuthority,.bool x.hasQuery,.bool x.hasFrag]
theorem AHp (x:ApiURI):Yz x=.agg [.str x.scheme,.str x.authority,.str x.path,.str x.query,.str x.fragment,.bool x.hasScheme,.bool x.hasAuthority,.bool x.hasQuery,.bool x.hasFrag]:=rfl
structure DidwebMapper where
  e:Int
  deriving DecidableEq
def Zr (x:DidwebMapper):AVal:=.agg [.int .i64 x.e]
theorem Vu (x:DidwebMapper):Zr x=.agg [.int .i64 x.e]:=rfl
structure ApiExchange where
  uRL:ApiURL
  status:Int
  err:Int
  deriving DecidableEq
def J8 (x:ApiExchange):AVal:=.agg [.str x.uRL.host,.int .i64 x.uRL.port,.str x.uRL.path,.str x.uRL.query,.str x.uRL.fragment,.bool x.uRL.hasQuery,.bool x.uRL.hasFrag,.int .i64 x.status,.int .i64 x.err]
theorem Ql (x:ApiExchange):J8 x=.agg [.str x.uRL.host,.int .i64 x.uRL.port,.str x.uRL.path,.str x.uRL.query,.str x.uRL.fragment,.bool x.uRL.hasQuery,.bool x.uRL.hasFrag,.int .i64 x.status,.int .i64 x.err]:=rfl
structure ApiResponse where
  uRL:ApiURL
  head:ApiHead
  body:B8
  trace:(List ApiExchange)
  deriving DecidableEq
def Im (x:ApiResponse):AVal:=.agg [.str x.uRL.host,.int .i64 x.uRL.port,.str x.uRL.path,.str x.uRL.query,.str x.uRL.fragment,.bool x.uRL.hasQuery,.bool x.uRL.hasFrag,.int .i64 x.head.minor,.int .i64 x.head.status,.slice 2 (List.map FD x.head.fields) false,.str x.body,.slice 9 (List.map J8 x.trace) false]
theorem NZ (x:ApiResponse):Im x=.agg [.str x.uRL.host,.int .i64 x.uRL.port,.str x.uRL.path,.str x.uRL.query,.str x.uRL.fragment,.bool x.uRL.hasQuery,.bool x.uRL.hasFrag,.int .i64 x.head.minor,.int .i64 x.head.status,.slice 2 (List.map FD x.head.fields) false,.str x.body,.slice 9 (List.map J8 x.trace) false]:=rfl
structure MadeDice where
  l:(List Int)
  deriving DecidableEq
def APh (x:MadeDice):AVal:=.agg [.slice 1 (List.map (AVal.int .u8) x.l) false]
theorem ACI (x:MadeDice):APh x=.agg [.slice 1 (List.map (AVal.int .u8) x.l) false]:=rfl
structure Ref14Parser where
  s:B8
  at_:Int
  nodes:Int
  fail:Int
  where_:Int
  deriving DecidableEq
def AAv (x:Ref14Parser):AVal:=.agg [.str x.s,.int .i64 x.at_,.int .i64 x.nodes,.int .i64 x.fail,.int .i64 x.where_]
theorem XP (x:Ref14Parser):AAv x=.agg [.str x.s,.int .i64 x.at_,.int .i64 x.nodes,.int .i64 x.fail,.int .i64 x.where_]:=rfl
structure Ref17Reader where
  d:ApiDID
  fail:Int
  deriving DecidableEq
def ACM (x:Ref17Reader):AVal:=.agg [.str x.d.method,.str x.d.iD,.int .i64 x.fail]
theorem W9 (x:Ref17Reader):ACM x=.agg [.str x.d.method,.str x.d.iD,.int .i64 x.fail]:=rfl
def A7:List Utf8textForm:=[(Utf8textForm.mk 0 127 0),(Utf8textForm.mk 192 31 128),(Utf8textForm.mk 224 15 2048),(Utf8textForm.mk 240 7 65536)]
def Mc:List AVal:=[.int .u8 0,.int .u8 127,.int .i64 0,.int .u8 192,.int .u8 31,.int .i64 128,.int .u8 224,.int .u8 15,.int .i64 2048,.int .u8 240,.int .u8 7,.int .i64 65536]
def Aj3:List AVal:=[.num .i64]
def vT (g:Nat):Option (List AVal):=if g=1 then some Mc else if g=0 then some Aj3 else none
end Go.VM
set_option linter.defProp false
namespace Go.VM
def eE:=ac @ADk (ac @TY (ac @U4 (ac @AAn (ac @WK (ac @Vd (ac @ACO (ac @Iq (ac @R7 (ac @U2 (ac @Zy (ac @YY (ac @AJI (ac @Zp (ac @ADj (ac @ANd (ac @ACz (ac @XL (ac @AJc (ac @AHp (ac @Vu (ac @NZ (ac @Ql (ac @ACI (ac @XP (@W9)))))))))))))))))))))))))
end Go.VM
