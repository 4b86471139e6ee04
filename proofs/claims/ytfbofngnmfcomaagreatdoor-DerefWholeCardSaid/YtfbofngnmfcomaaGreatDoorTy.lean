import Derived.Test.YtfbofngnmfcomaaGreatDoorVM2
set_option linter.defProp false
set_option linter.unusedVariables false
namespace Go.VM
structure Ref14Parser where
  s:B8
  at_:Int
  nodes:Int
  fail:Int
  where_:Int
  deriving DecidableEq
def ABL (x:Ref14Parser):AVal:=.agg [.str x.s,.int .i64 x.at_,.int .i64 x.nodes,.int .i64 x.fail,.int .i64 x.where_]
theorem Wq (x:Ref14Parser):ABL x=.agg [.str x.s,.int .i64 x.at_,.int .i64 x.nodes,.int .i64 x.fail,.int .i64 x.where_]:=rfl
structure ApiToken where
  kind:Int
  text:B8
  at_:Int
  deriving DecidableEq
def Dc (x:ApiToken):AVal:=.agg [.int .i64 x.kind,.str x.text,.int .i64 x.at_]
theorem AAx (x:ApiToken):Dc x=.agg [.int .i64 x.kind,.str x.text,.int .i64 x.at_]:=rfl
structure ApiValue where
  kind:Int
  text:B8
  keys:(List B8)
  items:(List ApiValue)
mutual
def AB:ApiValue->AVal
  |⟨kind,text,keys,items⟩=>.agg [.int .i64 kind,.str text,.slice 1 (List.map AVal.str keys) false,.slice 4 (Pg items) false]
def Pg:List ApiValue->List AVal
  |[]=>[]
  |x::xs=>AB x::Pg xs
end
def YK (l:List ApiValue):Pg l=List.map AB l:=by
  induction l with
  |nil=>rfl
  |cons x l ih=>simp only[Pg,aF,ih]
def Hq (x:ApiValue):AB x=.agg [.int .i64 x.kind,.str x.text,.slice 1 (List.map AVal.str x.keys) false,.slice 4 (List.map AB x.items) false]:=by
  cases x;simp only[AB,YK]
structure ApiDID where
  method:B8
  iD:B8
  deriving DecidableEq
def Cv (x:ApiDID):AVal:=.agg [.str x.method,.str x.iD]
theorem AEr (x:ApiDID):Cv x=.agg [.str x.method,.str x.iD]:=rfl
structure StringsBuilder where
  addr:Bool
  buf:B8
  deriving DecidableEq
structure DiddocDecoder where
  did:ApiDID
  e:Int
  deriving DecidableEq
def YD (x:DiddocDecoder):AVal:=.agg [.str x.did.method,.str x.did.iD,.int .i64 x.e]
theorem Uj (x:DiddocDecoder):YD x=.agg [.str x.did.method,.str x.did.iD,.int .i64 x.e]:=rfl
structure ApiDIDURL where
  dID:ApiDID
  path:B8
  query:B8
  fragment:B8
  hasQuery:Bool
  hasFrag:Bool
  deriving DecidableEq
def GA (x:ApiDIDURL):AVal:=.agg [.str x.dID.method,.str x.dID.iD,.str x.path,.str x.query,.str x.fragment,.bool x.hasQuery,.bool x.hasFrag]
theorem Y4 (x:ApiDIDURL):GA x=.agg [.str x.dID.method,.str x.dID.iD,.str x.path,.str x.query,.str x.fragment,.bool x.hasQuery,.bool x.hasFrag]:=rfl
structure ApiService where
  iD:B8
  types:(List B8)
  endpoints:(List B8)
  deriving DecidableEq
def Cr (x:ApiService):AVal:=.agg [.str x.iD,.slice 1 (List.map AVal.str x.types) false,.slice 1 (List.map AVal.str x.endpoints) false]
theorem Xg (x:ApiService):Cr x=.agg [.str x.iD,.slice 1 (List.map AVal.str x.types) false,.slice 1 (List.map AVal.str x.endpoints) false]:=rfl
structure ApiMethod where
  iD:B8
  type_:B8
  controller:B8
  deriving DecidableEq
def Lc (x:ApiMethod):AVal:=.agg [.str x.iD,.str x.type_,.str x.controller]
theorem ZP (x:ApiMethod):Lc x=.agg [.str x.iD,.str x.type_,.str x.controller]:=rfl
structure ApiDoc where
  iD:B8
  also:(List B8)
  controllers:(List B8)
  methods:(List ApiMethod)
  services:(List ApiService)
  deriving DecidableEq
def R3 (x:ApiDoc):AVal:=.agg [.str x.iD,.slice 1 (List.map AVal.str x.also) false,.slice 1 (List.map AVal.str x.controllers) false,.slice 3 (List.map Lc x.methods) false,.slice 3 (List.map Cr x.services) false]
theorem AKy (x:ApiDoc):R3 x=.agg [.str x.iD,.slice 1 (List.map AVal.str x.also) false,.slice 1 (List.map AVal.str x.controllers) false,.slice 3 (List.map Lc x.methods) false,.slice 3 (List.map Cr x.services) false]:=rfl
structure ApiField where
  name:B8
  value:B8
  deriving DecidableEq
def Ad (x:ApiField):AVal:=.agg [.str x.name,.str x.value]
theorem AAu (x:ApiField):Ad x=.agg [.str x.name,.str x.value]:=rfl
structure ApiHostPort where
  host:B8
  port:Int
  deriving DecidableEq
def Da (x:ApiHostPort):AVal:=.agg [.str x.host,.int .i64 x.port]
theorem WV (x:ApiHostPort):Da x=.agg [.str x.host,.int .i64 x.port]:=rfl
structure ApiURL where
  host:B8
  port:Int
  path:B8
  query:B8
  fragment:B8
  hasQuery:Bool
  hasFrag:Bool
  deriving DecidableEq
def Aa (x:ApiURL):AVal:=.agg [.str x.host,.int .i64 x.port,.str x.path,.str x.query,.str x.fragment,.bool x.hasQuery,.bool x.hasFrag]
theorem ANX (x:ApiURL):Aa x=.agg [.str x.host,.int .i64 x.port,.str x.path,.str x.query,.str x.fragment,.bool x.hasQuery,.bool x.hasFrag]:=rfl
structure ApiURI where
  scheme:B8
  authority:B8
  path:B8
  query:B8
  fragment:B8
  hasScheme:Bool
  hasAuthority:Bool
  hasQuery:Bool
  hasFrag:Bool
  deriving DecidableEq
def Fq (x:ApiURI):AVal:=.agg [.str x.scheme,.str x.authority,.str x.path,.str x.query,.str x.fragment,.bool x.hasScheme,.bool x.hasAuthority,.bool x.hasQuery,.bool x.hasFrag]
theorem AHQ (x:ApiURI):Fq x=.agg [.str x.scheme,.str x.authority,.str x.path,.str x.query,.str x.fragment,.bool x.hasScheme,.bool x.hasAuthority,.bool x.hasQuery,.bool x.hasFrag]:=rfl
structure MadeDice where
  l:(List Int)
  deriving DecidableEq
def AP3 (x:MadeDice):AVal:=.agg [.slice 1 (List.map (AVal.int .u8) x.l) false]
theorem ABP (x:MadeDice):AP3 x=.agg [.slice 1 (List.map (AVal.int .u8) x.l) false]:=rfl
structure ApiID where
  kind:Int
  text:B8
  host:B8
  port:Int
  deriving DecidableEq
def Qb (x:ApiID):AVal:=.agg [.int .i64 x.kind,.str x.text,.str x.host,.int .i64 x.port]
theorem AQZ (x:ApiID):Qb x=.agg [.int .i64 x.kind,.str x.text,.str x.host,.int .i64 x.port]:=rfl
structure ApiProperty where
  name:B8
  value:B8
  null:Bool
  deriving DecidableEq
def GK (x:ApiProperty):AVal:=.agg [.str x.name,.str x.value,.bool x.null]
theorem V4 (x:ApiProperty):GK x=.agg [.str x.name,.str x.value,.bool x.null]:=rfl
structure ApiLink where
  rel:B8
  type_:B8
  href:B8
  template:B8
  titles:(List ApiProperty)
  properties:(List ApiProperty)
  deriving DecidableEq
def Mq (x:ApiLink):AVal:=.agg [.str x.rel,.str x.type_,.str x.href,.str x.template,.slice 3 (List.map GK x.titles) false,.slice 3 (List.map GK x.properties) false]
theorem ABh (x:ApiLink):Mq x=.agg [.str x.rel,.str x.type_,.str x.href,.str x.template,.slice 3 (List.map GK x.titles) false,.slice 3 (List.map GK x.properties) false]:=rfl
structure ApiJRD where
  subject:B8
  aliases:(List B8)
  properties:(List ApiProperty)
  links:(List ApiLink)
  deriving DecidableEq
def Abt (x:ApiJRD):AVal:=.agg [.str x.subject,.slice 1 (List.map AVal.str x.aliases) false,.slice 3 (List.map GK x.properties) false,.slice 6 (List.map Mq x.links) false]
theorem ALD (x:ApiJRD):Abt x=.agg [.str x.subject,.slice 1 (List.map AVal.str x.aliases) false,.slice 3 (List.map GK x.properties) false,.slice 6 (List.map Mq x.links) false]:=rfl
structure ApiHead where
  minor:Int
  status:Int
  fields:(List ApiField)
  deriving DecidableEq
def Gj (x:ApiHead):AVal:=.agg [.int .i64 x.minor,.int .i64 x.status,.slice 2 (List.map Ad x.fields) false]
theorem AB6 (x:ApiHead):Gj x=.agg [.int .i64 x.minor,.int .i64 x.status,.slice 2 (List.map Ad x.fields) false]:=rfl
structure ApiAnswer where
  host:B8
  port:Int
  target:B8
  raw:B8
  fail:Int
  from_:Int
  until_:Int
  deriving DecidableEq
def Aw (x:ApiAnswer):AVal:=.agg [.str x.host,.int .i64 x.port,.str x.target,.str x.raw,.int .i64 x.fail,.int .u64 x.from_,.int .u64 x.until_]
theorem ZV (x:ApiAnswer):Aw x=.agg [.str x.host,.int .i64 x.port,.str x.target,.str x.raw,.int .i64 x.fail,.int .u64 x.from_,.int .u64 x.until_]:=rfl
structure ApiExchange where
  uRL:ApiURL
  status:Int
  err:Int
  deriving DecidableEq
def A7 (x:ApiExchange):AVal:=.agg [.str x.uRL.host,.int .i64 x.uRL.port,.str x.uRL.path,.str x.uRL.query,.str x.uRL.fragment,.bool x.uRL.hasQuery,.bool x.uRL.hasFrag,.int .i64 x.status,.int .i64 x.err]
theorem Wp (x:ApiExchange):A7 x=.agg [.str x.uRL.host,.int .i64 x.uRL.port,.str x.uRL.path,.str x.uRL.query,.str x.uRL.fragment,.bool x.uRL.hasQuery,.bool x.uRL.hasFrag,.int .i64 x.status,.int .i64 x.err]:=rfl
structure ApiResponse where
  uRL:ApiURL
  head:ApiHead
  body:B8
  trace:(List ApiExchange)
  deriving DecidableEq
def GU (x:ApiResponse):AVal:=.agg [.str x.uRL.host,.int .i64 x.uRL.port,.str x.uRL.path,.str x.uRL.query,.str x.uRL.fragment,.bool x.uRL.hasQuery,.bool x.uRL.hasFrag,.int .i64 x.head.minor,.int .i64 x.head.status,.slice 2 (List.map Ad x.head.fields) false,.str x.body,.slice 9 (List.map A7 x.trace) false]
theorem WS (x:ApiResponse):GU x=.agg [.str x.uRL.host,.int .i64 x.uRL.port,.str x.uRL.path,.str x.uRL.query,.str x.uRL.fragment,.bool x.uRL.hasQuery,.bool x.uRL.hasFrag,.int .i64 x.head.minor,.int .i64 x.head.status,.slice 2 (List.map Ad x.head.fields) false,.str x.body,.slice 9 (List.map A7 x.trace) false]:=rfl
structure ApiFetch where
  next:ApiURL
  hops:Int
  done:Bool
  err:Int
  final:ApiResponse
  seen:(List ApiURL)
  deriving DecidableEq
def Je (x:ApiFetch):AVal:=.agg [.str x.next.host,.int .i64 x.next.port,.str x.next.path,.str x.next.query,.str x.next.fragment,.bool x.next.hasQuery,.bool x.next.hasFrag,.int .i64 x.hops,.bool x.done,.int .i64 x.err,.str x.final.uRL.host,.int .i64 x.final.uRL.port,.str x.final.uRL.path,.str x.final.uRL.query,.str x.final.uRL.fragment,.bool x.final.uRL.hasQuery,.bool x.final.uRL.hasFrag,.int .i64 x.final.head.minor,.int .i64 x.final.head.status,.slice 2 (List.map Ad x.final.head.fields) false,.str x.final.body,.slice 9 (List.map A7 x.final.trace) false,.slice 7 (List.map Aa x.seen) false]
theorem Zt (x:ApiFetch):Je x=.agg [.str x.next.host,.int .i64 x.next.port,.str x.next.path,.str x.next.query,.str x.next.fragment,.bool x.next.hasQuery,.bool x.next.hasFrag,.int .i64 x.hops,.bool x.done,.int .i64 x.err,.str x.final.uRL.host,.int .i64 x.final.uRL.port,.str x.final.uRL.path,.str x.final.uRL.query,.str x.final.uRL.fragment,.bool x.final.uRL.hasQuery,.bool x.final.uRL.hasFrag,.int .i64 x.final.head.minor,.int .i64 x.final.head.status,.slice 2 (List.map Ad x.final.head.fields) false,.str x.final.body,.slice 9 (List.map A7 x.final.trace) false,.slice 7 (List.map Aa x.seen) false]:=rfl
structure ApiMedia where
  type_:B8
  sub:B8
  params:(List ApiField)
  deriving DecidableEq
def Ir (x:ApiMedia):AVal:=.agg [.str x.type_,.str x.sub,.slice 2 (List.map Ad x.params) false]
theorem AAb (x:ApiMedia):Ir x=.agg [.str x.type_,.str x.sub,.slice 2 (List.map Ad x.params) false]:=rfl
structure Ref17Reader where
  d:ApiDID
  fail:Int
  deriving DecidableEq
def AA9 (x:Ref17Reader):AVal:=.agg [.str x.d.method,.str x.d.iD,.int .i64 x.fail]
theorem WQ (x:Ref17Reader):AA9 x=.agg [.str x.d.method,.str x.d.iD,.int .i64 x.fail]:=rfl
structure DidwebMapper where
  e:Int
  deriving DecidableEq
def Y3 (x:DidwebMapper):AVal:=.agg [.int .i64 x.e]
theorem Vh (x:DidwebMapper):Y3 x=.agg [.int .i64 x.e]:=rfl
structure WorldRequest where
  origin:ApiHostPort
  target:B8
  now:Int
  deriving DecidableEq
def Sw (x:WorldRequest):AVal:=.agg [.str x.origin.host,.int .i64 x.origin.port,.str x.target,.int .u64 x.now]
theorem VQ (x:WorldRequest):Sw x=.agg [.str x.origin.host,.int .i64 x.origin.port,.str x.target,.int .u64 x.now]:=rfl
structure HeadLines where
  rest:B8
  more:Bool
  deriving DecidableEq
def ANW (x:HeadLines):AVal:=.agg [.str x.rest,.bool x.more]
theorem ZT (x:HeadLines):ANW x=.agg [.str x.rest,.bool x.more]:=rfl
structure BodyChunks where
  rest:B8
  size:Int
  deriving DecidableEq
def ACc (x:BodyChunks):AVal:=.agg [.str x.rest,.int .u64 x.size]
theorem Xx (x:BodyChunks):ACc x=.agg [.str x.rest,.int .u64 x.size]:=rfl
structure GrammarCursor where
  s:B8
  at_:Int
  deriving DecidableEq
def Xd (x:GrammarCursor):AVal:=.agg [.str x.s,.int .i64 x.at_]
theorem Uq (x:GrammarCursor):Xd x=.agg [.str x.s,.int .i64 x.at_]:=rfl
structure TokenReader where
  s:B8
  at_:Int
  deriving DecidableEq
def ABS (x:TokenReader):AVal:=.agg [.str x.s,.int .i64 x.at_]
theorem WA (x:TokenReader):ABS x=.agg [.str x.s,.int .i64 x.at_]:=rfl
structure Utf8textForm where
  mark:Int
  mask:Int
  least:Int
  deriving DecidableEq
def ZK (x:Utf8textForm):AVal:=.agg [.int .u8 x.mark,.int .u8 x.mask,.int .i64 x.least]
theorem Vr (x:Utf8textForm):ZK x=.agg [.int .u8 x.mark,.int .u8 x.mask,.int .i64 x.least]:=rfl
structure ApiDeref where
  uRL:B8
  value:ApiValue
  trace:(List ApiExchange)
def UB (x:ApiDeref):AVal:=.agg [.str x.uRL,.int .i64 x.value.kind,.str x.value.text,.slice 1 (List.map AVal.str x.value.keys) false,.slice 4 (List.map AB x.value.items) false,.slice 9 (List.map A7 x.trace) false]
theorem AAL (x:ApiDeref):UB x=.agg [.str x.uRL,.int .i64 x.value.kind,.str x.value.text,.slice 1 (List.map AVal.str x.value.keys) false,.slice 4 (List.map AB x.value.items) false,.slice 9 (List.map A7 x.trace) false]:=rfl
def Mr:List Utf8textForm:=[(Utf8textForm.mk 0 127 0),(Utf8textForm.mk 192 31 128),(Utf8textForm.mk 224 15 2048),(Utf8textForm.mk 240 7 65536)]
def OX:List AVal:=[.int .u8 0,.int .u8 127,.int .i64 0,.int .u8 192,.int .u8 31,.int .i64 128,.int .u8 224,.int .u8 15,.int .i64 2048,.int .u8 240,.int .u8 7,.int .i64 65536]
def Ao8:List AVal:=[.num .i64]
def vT (g:Nat):Option (List AVal):=if g=3 then some OX else if g=0 then some Ao8 else none
instance AnJ:EO ApiService Cr:=⟨⟩
end Go.VM
set_option linter.defProp false
namespace Go.VM
def eE:=ac @Wq (ac @AAx (ac @Hq (ac @AEr (ac @Uj (ac @Y4 (ac @Xg (ac @AKy (ac @ZP (ac @AAu (ac @WV (ac @ANX (ac @AHQ (ac @ABP (ac @AQZ (ac @ABh (ac @V4 (ac @ALD (ac @AB6 (ac @ZV (ac @Zt (ac @WS (ac @Wp (ac @AAb (ac @WQ (ac @Vh (ac @VQ (ac @ZT (ac @Xx (ac @Uq (ac @WA (ac @Vr (@AAL))))))))))))))))))))))))))))))))
end Go.VM
