import Derived.Test.YtenhbiooanampaaGreatDoorVM2
set_option linter.defProp false
set_option linter.unusedVariables false
namespace Go.VM
structure ApiField where
  name:B8
  value:B8
  deriving DecidableEq
def Am (x:ApiField):AVal:=.agg [.str x.name,.str x.value]
theorem ACp (x:ApiField):Am x=.agg [.str x.name,.str x.value]:=rfl
structure ApiHead where
  minor:Int
  status:Int
  fields:(List ApiField)
  deriving DecidableEq
def FX (x:ApiHead):AVal:=.agg [.int .i64 x.minor,.int .i64 x.status,.slice 2 (List.map Am x.fields) false]
theorem AC8 (x:ApiHead):FX x=.agg [.int .i64 x.minor,.int .i64 x.status,.slice 2 (List.map Am x.fields) false]:=rfl
structure StringsBuilder where
  addr:Bool
  buf:B8
  deriving DecidableEq
structure GrammarCursor where
  s:B8
  at_:Int
  deriving DecidableEq
def Yp (x:GrammarCursor):AVal:=.agg [.str x.s,.int .i64 x.at_]
theorem Vd (x:GrammarCursor):Yp x=.agg [.str x.s,.int .i64 x.at_]:=rfl
structure ApiMedia where
  type_:B8
  sub:B8
  params:(List ApiField)
  deriving DecidableEq
def I6 (x:ApiMedia):AVal:=.agg [.str x.type_,.str x.sub,.slice 2 (List.map Am x.params) false]
theorem ABO (x:ApiMedia):I6 x=.agg [.str x.type_,.str x.sub,.slice 2 (List.map Am x.params) false]:=rfl
structure TokenReader where
  s:B8
  at_:Int
  deriving DecidableEq
def ABP (x:TokenReader):AVal:=.agg [.str x.s,.int .i64 x.at_]
theorem Xe (x:TokenReader):ABP x=.agg [.str x.s,.int .i64 x.at_]:=rfl
structure Utf8textForm where
  mark:Int
  mask:Int
  least:Int
  deriving DecidableEq
def AAb (x:Utf8textForm):AVal:=.agg [.int .u8 x.mark,.int .u8 x.mask,.int .i64 x.least]
theorem WY (x:Utf8textForm):AAb x=.agg [.int .u8 x.mark,.int .u8 x.mask,.int .i64 x.least]:=rfl
structure ApiToken where
  kind:Int
  text:B8
  at_:Int
  deriving DecidableEq
def Dz (x:ApiToken):AVal:=.agg [.int .i64 x.kind,.str x.text,.int .i64 x.at_]
theorem ABM (x:ApiToken):Dz x=.agg [.int .i64 x.kind,.str x.text,.int .i64 x.at_]:=rfl
structure ApiValue where
  kind:Int
  text:B8
  keys:(List B8)
  items:(List ApiValue)
mutual
def AC:ApiValue->AVal
  |⟨kind,text,keys,items⟩=>.agg [.int .i64 kind,.str text,.slice 1 (List.map AVal.str keys) false,.slice 4 (QV items) false]
def QV:List ApiValue->List AVal
  |[]=>[]
  |x::xs=>AC x::QV xs
end
def Yi (l:List ApiValue):QV l=List.map AC l:=by
  induction l with
  |nil=>rfl
  |cons x l ih=>simp only[QV,aF,ih]
def IV (x:ApiValue):AC x=.agg [.int .i64 x.kind,.str x.text,.slice 1 (List.map AVal.str x.keys) false,.slice 4 (List.map AC x.items) false]:=by
  cases x;simp only[AC,Yi]
structure ApiDID where
  method:B8
  iD:B8
  deriving DecidableEq
def CL (x:ApiDID):AVal:=.agg [.str x.method,.str x.iD]
theorem TL (x:ApiDID):CL x=.agg [.str x.method,.str x.iD]:=rfl
structure DiddocDecoder where
  did:ApiDID
  e:Int
  deriving DecidableEq
def ZB (x:DiddocDecoder):AVal:=.agg [.str x.did.method,.str x.did.iD,.int .i64 x.e]
theorem Vk (x:DiddocDecoder):ZB x=.agg [.str x.did.method,.str x.did.iD,.int .i64 x.e]:=rfl
structure ApiDIDURL where
  dID:ApiDID
  path:B8
  query:B8
  fragment:B8
  hasQuery:Bool
  hasFrag:Bool
  deriving DecidableEq
def KC (x:ApiDIDURL):AVal:=.agg [.str x.dID.method,.str x.dID.iD,.str x.path,.str x.query,.str x.fragment,.bool x.hasQuery,.bool x.hasFrag]
theorem AAo (x:ApiDIDURL):KC x=.agg [.str x.dID.method,.str x.dID.iD,.str x.path,.str x.query,.str x.fragment,.bool x.hasQuery,.bool x.hasFrag]:=rfl
structure ApiService where
  iD:B8
  types:(List B8)
  endpoints:(List B8)
  deriving DecidableEq
def C9 (x:ApiService):AVal:=.agg [.str x.iD,.slice 1 (List.map AVal.str x.types) false,.slice 1 (List.map AVal.str x.endpoints) false]
theorem ZQ (x:ApiService):C9 x=.agg [.str x.iD,.slice 1 (List.map AVal.str x.types) false,.slice 1 (List.map AVal.str x.endpoints) false]:=rfl
structure ApiMethod where
  iD:B8
  type_:B8
  controller:B8
  deriving DecidableEq
def MN (x:ApiMethod):AVal:=.agg [.str x.iD,.str x.type_,.str x.controller]
theorem AAL (x:ApiMethod):MN x=.agg [.str x.iD,.str x.type_,.str x.controller]:=rfl
structure ApiDoc where
  iD:B8
  also:(List B8)
  controllers:(List B8)
  methods:(List ApiMethod)
  services:(List ApiService)
  deriving DecidableEq
def U8 (x:ApiDoc):AVal:=.agg [.str x.iD,.slice 1 (List.map AVal.str x.also) false,.slice 1 (List.map AVal.str x.controllers) false,.slice 3 (List.map MN x.methods) false,.slice 3 (List.map C9 x.services) false]
theorem AKC (x:ApiDoc):U8 x=.agg [.str x.iD,.slice 1 (List.map AVal.str x.also) false,.slice 1 (List.map AVal.str x.controllers) false,.slice 3 (List.map MN x.methods) false,.slice 3 (List.map C9 x.services) false]:=rfl
structure ApiHostPort where
  host:B8
  port:Int
  deriving DecidableEq
def D8 (x:ApiHostPort):AVal:=.agg [.str x.host,.int .i64 x.port]
theorem YS (x:ApiHostPort):D8 x=.agg [.str x.host,.int .i64 x.port]:=rfl
structure ApiURL where
  host:B8
  port:Int
  path:B8
  query:B8
  fragment:B8
  hasQuery:Bool
  hasFrag:Bool
  deriving DecidableEq
def Ad (x:ApiURL):AVal:=.agg [.str x.host,.int .i64 x.port,.str x.path,.str x.query,.str x.fragment,.bool x.hasQuery,.bool x.hasFrag]
theorem AMb (x:ApiURL):Ad x=.agg [.str x.host,.int .i64 x.port,.str x.path,.str x.query,.str x.fragment,.bool x.hasQuery,.bool x.hasFrag]:=rfl
structure ApiURI where
  scheme:B8
  authority:B8
  path:B8
  query:B8
  fragment:B8
  hasScheme:Bool
  hasAuthority:Bool
  hasQuery:Bool
  hasFrag:Bool
  deriving DecidableEq
def Ga (x:ApiURI):AVal:=.agg [.str x.scheme,.str x.authority,.str x.path,.str x.query,.str x.fragment,.bool x.hasScheme,.bool x.hasAuthority,.bool x.hasQuery,.bool x.hasFrag]
theorem AJH (x:ApiURI):Ga x=.agg [.str x.scheme,.str x.authority,.str x.path,.str x.query,.str x.fragment,.bool x.hasScheme,.bool x.hasAuthority,.bool x.hasQuery,.bool x.hasFrag]:=rfl
structure DidwebMapper where
  e:Int
  deriving DecidableEq
def AAj (x:DidwebMapper):AVal:=.agg [.int .i64 x.e]
theorem W9 (x:DidwebMapper):AAj x=.agg [.int .i64 x.e]:=rfl
structure ApiID where
  kind:Int
  text:B8
  host:B8
  port:Int
  deriving DecidableEq
def OV (x:ApiID):AVal:=.agg [.int .i64 x.kind,.str x.text,.str x.host,.int .i64 x.port]
theorem ASH (x:ApiID):OV x=.agg [.int .i64 x.kind,.str x.text,.str x.host,.int .i64 x.port]:=rfl
structure ApiExchange where
  uRL:ApiURL
  status:Int
  err:Int
  deriving DecidableEq
def BQ (x:ApiExchange):AVal:=.agg [.str x.uRL.host,.int .i64 x.uRL.port,.str x.uRL.path,.str x.uRL.query,.str x.uRL.fragment,.bool x.uRL.hasQuery,.bool x.uRL.hasFrag,.int .i64 x.status,.int .i64 x.err]
theorem X4 (x:ApiExchange):BQ x=.agg [.str x.uRL.host,.int .i64 x.uRL.port,.str x.uRL.path,.str x.uRL.query,.str x.uRL.fragment,.bool x.uRL.hasQuery,.bool x.uRL.hasFrag,.int .i64 x.status,.int .i64 x.err]:=rfl
structure ApiResponse where
  uRL:ApiURL
  head:ApiHead
  body:B8
  trace:(List ApiExchange)
  deriving DecidableEq
def Eg (x:ApiResponse):AVal:=.agg [.str x.uRL.host,.int .i64 x.uRL.port,.str x.uRL.path,.str x.uRL.query,.str x.uRL.fragment,.bool x.uRL.hasQuery,.bool x.uRL.hasFrag,.int .i64 x.head.minor,.int .i64 x.head.status,.slice 2 (List.map Am x.head.fields) false,.str x.body,.slice 9 (List.map BQ x.trace) false]
theorem XV (x:ApiResponse):Eg x=.agg [.str x.uRL.host,.int .i64 x.uRL.port,.str x.uRL.path,.str x.uRL.query,.str x.uRL.fragment,.bool x.uRL.hasQuery,.bool x.uRL.hasFrag,.int .i64 x.head.minor,.int .i64 x.head.status,.slice 2 (List.map Am x.head.fields) false,.str x.body,.slice 9 (List.map BQ x.trace) false]:=rfl
structure MadeDice where
  l:(List Int)
  deriving DecidableEq
def AQF (x:MadeDice):AVal:=.agg [.slice 1 (List.map (AVal.int .u8) x.l) false]
theorem AA7 (x:MadeDice):AQF x=.agg [.slice 1 (List.map (AVal.int .u8) x.l) false]:=rfl
structure ApiAcct where
  user:B8
  host:B8
  deriving DecidableEq
def WS (x:ApiAcct):AVal:=.agg [.str x.user,.str x.host]
theorem AD9 (x:ApiAcct):WS x=.agg [.str x.user,.str x.host]:=rfl
structure ApiMail where
  local_:B8
  host:B8
  deriving DecidableEq
def WB (x:ApiMail):AVal:=.agg [.str x.local_,.str x.host]
theorem ADa (x:ApiMail):WB x=.agg [.str x.local_,.str x.host]:=rfl
structure ApiProperty where
  name:B8
  value:B8
  null:Bool
  deriving DecidableEq
def Gz (x:ApiProperty):AVal:=.agg [.str x.name,.str x.value,.bool x.null]
theorem YL (x:ApiProperty):Gz x=.agg [.str x.name,.str x.value,.bool x.null]:=rfl
structure ApiLink where
  rel:B8
  type_:B8
  href:B8
  template:B8
  titles:(List ApiProperty)
  properties:(List ApiProperty)
  deriving DecidableEq
def NW (x:ApiLink):AVal:=.agg [.str x.rel,.str x.type_,.str x.href,.str x.template,.slice 3 (List.map Gz x.titles) false,.slice 3 (List.map Gz x.properties) false]
theorem AEO (x:ApiLink):NW x=.agg [.str x.rel,.str x.type_,.str x.href,.str x.template,.slice 3 (List.map Gz x.titles) false,.slice 3 (List.map Gz x.properties) false]:=rfl
structure ApiJRD where
  subject:B8
  aliases:(List B8)
  properties:(List ApiProperty)
  links:(List ApiLink)
  deriving DecidableEq
def Aba (x:ApiJRD):AVal:=.agg [.str x.subject,.slice 1 (List.map AVal.str x.aliases) false,.slice 3 (List.map Gz x.properties) false,.slice 6 (List.map NW x.links) false]
theorem AKE (x:ApiJRD):Aba x=.agg [.str x.subject,.slice 1 (List.map AVal.str x.aliases) false,.slice 3 (List.map Gz x.properties) false,.slice 6 (List.map NW x.links) false]:=rfl
structure ApiAnswer where
  host:B8
  port:Int
  target:B8
  raw:B8
  fail:Int
  from_:Int
  until_:Int
  deriving DecidableEq
def Bd (x:ApiAnswer):AVal:=.agg [.str x.host,.int .i64 x.port,.str x.target,.str x.raw,.int .i64 x.fail,.int .u64 x.from_,.int .u64 x.until_]
theorem AAg (x:ApiAnswer):Bd x=.agg [.str x.host,.int .i64 x.port,.str x.target,.str x.raw,.int .i64 x.fail,.int .u64 x.from_,.int .u64 x.until_]:=rfl
structure ApiFetch where
  next:ApiURL
  hops:Int
  done:Bool
  err:Int
  final:ApiResponse
  seen:(List ApiURL)
  deriving DecidableEq
def J2 (x:ApiFetch):AVal:=.agg [.str x.next.host,.int .i64 x.next.port,.str x.next.path,.str x.next.query,.str x.next.fragment,.bool x.next.hasQuery,.bool x.next.hasFrag,.int .i64 x.hops,.bool x.done,.int .i64 x.err,.str x.final.uRL.host,.int .i64 x.final.uRL.port,.str x.final.uRL.path,.str x.final.uRL.query,.str x.final.uRL.fragment,.bool x.final.uRL.hasQuery,.bool x.final.uRL.hasFrag,.int .i64 x.final.head.minor,.int .i64 x.final.head.status,.slice 2 (List.map Am x.final.head.fields) false,.str x.final.body,.slice 9 (List.map BQ x.final.trace) false,.slice 7 (List.map Ad x.seen) false]
theorem ACw (x:ApiFetch):J2 x=.agg [.str x.next.host,.int .i64 x.next.port,.str x.next.path,.str x.next.query,.str x.next.fragment,.bool x.next.hasQuery,.bool x.next.hasFrag,.int .i64 x.hops,.bool x.done,.int .i64 x.err,.str x.final.uRL.host,.int .i64 x.final.uRL.port,.str x.final.uRL.path,.str x.final.uRL.query,.str x.final.uRL.fragment,.bool x.final.uRL.hasQuery,.bool x.final.uRL.hasFrag,.int .i64 x.final.head.minor,.int .i64 x.final.head.status,.slice 2 (List.map Am x.final.head.fields) false,.str x.final.body,.slice 9 (List.map BQ x.final.trace) false,.slice 7 (List.map Ad x.seen) false]:=rfl
structure WorldRequest where
  origin:ApiHostPort
  target:B8
  now:Int
  deriving DecidableEq
def Tm (x:WorldRequest):AVal:=.agg [.str x.origin.host,.int .i64 x.origin.port,.str x.target,.int .u64 x.now]
theorem XB (x:WorldRequest):Tm x=.agg [.str x.origin.host,.int .i64 x.origin.port,.str x.target,.int .u64 x.now]:=rfl
structure HeadLines where
  rest:B8
  more:Bool
  deriving DecidableEq
def AO4 (x:HeadLines):AVal:=.agg [.str x.rest,.bool x.more]
theorem AAP (x:HeadLines):AO4 x=.agg [.str x.rest,.bool x.more]:=rfl
structure BodyChunks where
  rest:B8
  size:Int
  deriving DecidableEq
def AED (x:BodyChunks):AVal:=.agg [.str x.rest,.int .u64 x.size]
theorem ZA (x:BodyChunks):AED x=.agg [.str x.rest,.int .u64 x.size]:=rfl
structure Ref14Parser where
  s:B8
  at_:Int
  nodes:Int
  fail:Int
  where_:Int
  deriving DecidableEq
def ACn (x:Ref14Parser):AVal:=.agg [.str x.s,.int .i64 x.at_,.int .i64 x.nodes,.int .i64 x.fail,.int .i64 x.where_]
theorem Xb (x:Ref14Parser):ACn x=.agg [.str x.s,.int .i64 x.at_,.int .i64 x.nodes,.int .i64 x.fail,.int .i64 x.where_]:=rfl
structure Ref17Reader where
  d:ApiDID
  fail:Int
  deriving DecidableEq
def ACK (x:Ref17Reader):AVal:=.agg [.str x.d.method,.str x.d.iD,.int .i64 x.fail]
theorem Xc (x:Ref17Reader):ACK x=.agg [.str x.d.method,.str x.d.iD,.int .i64 x.fail]:=rfl
def NV:List Utf8textForm:=[(Utf8textForm.mk 0 127 0),(Utf8textForm.mk 192 31 128),(Utf8textForm.mk 224 15 2048),(Utf8textForm.mk 240 7 65536)]
def PY:List AVal:=[.int .u8 0,.int .u8 127,.int .i64 0,.int .u8 192,.int .u8 31,.int .i64 128,.int .u8 224,.int .u8 15,.int .i64 2048,.int .u8 240,.int .u8 7,.int .i64 65536]
def AsH:List AVal:=[.num .i64]
def vT (g:Nat):Option (List AVal):=if g=3 then some PY else if g=0 then some AsH else none
instance AxL:EO ApiDID CL:=⟨⟩
instance Asl:EO ApiService C9:=⟨⟩
end Go.VM
namespace Go.VM
def eE:=ac @AC8 (ac @ACp (ac @Vd (ac @ABO (ac @Xe (ac @WY (ac @ABM (ac @IV (ac @TL (ac @Vk (ac @AAo (ac @ZQ (ac @AKC (ac @AAL (ac @YS (ac @AMb (ac @AJH (ac @W9 (ac @ASH (ac @XV (ac @X4 (ac @AA7 (ac @AD9 (ac @ADa (ac @AEO (ac @YL (ac @AKE (ac @AAg (ac @ACw (ac @XB (ac @AAP (ac @ZA (ac @Xb (@Xc)))))))))))))))))))))))))))))))))
end Go.VM
