import Derived.Test.YtgfgogdgnkaedaaGreatDoorVM2
set_option linter.unusedVariables false
namespace Go.VM
structure StringsBuilder where
  addr:Bool
  buf:(List UInt8)
  deriving DecidableEq
structure ApiDID where
  method:(List UInt8)
  iD:(List UInt8)
  deriving DecidableEq
def Df (x:ApiDID):AVal:=.agg [.str x.method,.str x.iD]
theorem AEC (x:ApiDID):Df x=.agg [.str x.method,.str x.iD]:=rfl
structure DiddocDecoder where
  did:ApiDID
  e:Int
  deriving DecidableEq
def XF (x:DiddocDecoder):AVal:=.agg [.str x.did.method,.str x.did.iD,.int .i64 x.e]
theorem Tq (x:DiddocDecoder):XF x=.agg [.str x.did.method,.str x.did.iD,.int .i64 x.e]:=rfl
structure ApiValue where
  kind:Int
  text:(List UInt8)
  keys:(List (List UInt8))
  items:(List ApiValue)
mutual
def AL:ApiValue→AVal
  |⟨kind,text,keys,items⟩=>.agg [.int .i64 kind,.str text,.slice 1 (List.map AVal.str keys) false,.slice 4 (Oa items) false]
def Oa:List ApiValue→List AVal
  |[]=>[]
  |x::xs=>AL x::Oa xs
end
theorem Wv (l:List ApiValue):Oa l=List.map AL l:=by
  induction l with
  |nil=>rfl
  |cons x l ih=>simp only[Oa,aE,ih]
theorem Hm (x:ApiValue):AL x=.agg [.int .i64 x.kind,.str x.text,.slice 1 (List.map AVal.str x.keys) false,.slice 4 (List.map AL x.items) false]:=by
  cases x;simp only[AL,Wv]
structure ApiDIDURL where
  dID:ApiDID
  path:(List UInt8)
  query:(List UInt8)
  fragment:(List UInt8)
  hasQuery:Bool
  hasFrag:Bool
  deriving DecidableEq
def Ob (x:ApiDIDURL):AVal:=.agg [.str x.dID.method,.str x.dID.iD,.str x.path,.str x.query,.str x.fragment,.bool x.hasQuery,.bool x.hasFrag]
theorem Yi (x:ApiDIDURL):Ob x=.agg [.str x.dID.method,.str x.dID.iD,.str x.path,.str x.query,.str x.fragment,.bool x.hasQuery,.bool x.hasFrag]:=rfl
structure ApiService where
  iD:(List UInt8)
  types:(List (List UInt8))
  endpoints:(List (List UInt8))
  deriving DecidableEq
def Fx (x:ApiService):AVal:=.agg [.str x.iD,.slice 1 (List.map AVal.str x.types) false,.slice 1 (List.map AVal.str x.endpoints) false]
theorem XQ (x:ApiService):Fx x=.agg [.str x.iD,.slice 1 (List.map AVal.str x.types) false,.slice 1 (List.map AVal.str x.endpoints) false]:=rfl
structure ApiMethod where
  iD:(List UInt8)
  type_:(List UInt8)
  controller:(List UInt8)
  deriving DecidableEq
def NA (x:ApiMethod):AVal:=.agg [.str x.iD,.str x.type_,.str x.controller]
theorem Yn (x:ApiMethod):NA x=.agg [.str x.iD,.str x.type_,.str x.controller]:=rfl
structure ApiDoc where
  iD:(List UInt8)
  also:(List (List UInt8))
  controllers:(List (List UInt8))
  methods:(List ApiMethod)
  services:(List ApiService)
  deriving DecidableEq
def TV (x:ApiDoc):AVal:=.agg [.str x.iD,.slice 1 (List.map AVal.str x.also) false,.slice 1 (List.map AVal.str x.controllers) false,.slice 3 (List.map NA x.methods) false,.slice 3 (List.map Fx x.services) false]
theorem AEi (x:ApiDoc):TV x=.agg [.str x.iD,.slice 1 (List.map AVal.str x.also) false,.slice 1 (List.map AVal.str x.controllers) false,.slice 3 (List.map NA x.methods) false,.slice 3 (List.map Fx x.services) false]:=rfl
structure ApiField where
  name:(List UInt8)
  value:(List UInt8)
  deriving DecidableEq
def Aj (x:ApiField):AVal:=.agg [.str x.name,.str x.value]
theorem AAU (x:ApiField):Aj x=.agg [.str x.name,.str x.value]:=rfl
structure ApiHead where
  minor:Int
  status:Int
  fields:(List ApiField)
  deriving DecidableEq
def Ib (x:ApiHead):AVal:=.agg [.int .i64 x.minor,.int .i64 x.status,.slice 2 (List.map Aj x.fields) false]
theorem ABE (x:ApiHead):Ib x=.agg [.int .i64 x.minor,.int .i64 x.status,.slice 2 (List.map Aj x.fields) false]:=rfl
structure GrammarCursor where
  s:(List UInt8)
  at_:Int
  deriving DecidableEq
def XT (x:GrammarCursor):AVal:=.agg [.str x.s,.int .i64 x.at_]
theorem Tm (x:GrammarCursor):XT x=.agg [.str x.s,.int .i64 x.at_]:=rfl
structure ApiMedia where
  type_:(List UInt8)
  sub:(List UInt8)
  params:(List ApiField)
  deriving DecidableEq
def N7 (x:ApiMedia):AVal:=.agg [.str x.type_,.str x.sub,.slice 2 (List.map Aj x.params) false]
theorem ZA (x:ApiMedia):N7 x=.agg [.str x.type_,.str x.sub,.slice 2 (List.map Aj x.params) false]:=rfl
structure TokenReader where
  s:(List UInt8)
  at_:Int
  deriving DecidableEq
def ZR (x:TokenReader):AVal:=.agg [.str x.s,.int .i64 x.at_]
theorem WP (x:TokenReader):ZR x=.agg [.str x.s,.int .i64 x.at_]:=rfl
structure Utf8textForm where
  mark:Int
  mask:Int
  least:Int
  deriving DecidableEq
def Yj (x:Utf8textForm):AVal:=.agg [.int .u8 x.mark,.int .u8 x.mask,.int .i64 x.least]
theorem Uk (x:Utf8textForm):Yj x=.agg [.int .u8 x.mark,.int .u8 x.mask,.int .i64 x.least]:=rfl
structure ApiToken where
  kind:Int
  text:(List UInt8)
  at_:Int
  deriving DecidableEq
def Gv (x:ApiToken):AVal:=.agg [.int .i64 x.kind,.str x.text,.int .i64 x.at_]
theorem AAc (x:ApiToken):Gv x=.agg [.int .i64 x.kind,.str x.text,.int .i64 x.at_]:=rfl
structure ApiAcct where
  user:(List UInt8)
  host:(List UInt8)
  deriving DecidableEq
def Oy (x:ApiAcct):AVal:=.agg [.str x.user,.str x.host]
theorem ABo (x:ApiAcct):Oy x=.agg [.str x.user,.str x.host]:=rfl
structure ApiID where
  kind:Int
  text:(List UInt8)
  host:(List UInt8)
  port:Int
  deriving DecidableEq
def CU (x:ApiID):AVal:=.agg [.int .i64 x.kind,.str x.text,.str x.host,.int .i64 x.port]
theorem AQW (x:ApiID):CU x=.agg [.int .i64 x.kind,.str x.text,.str x.host,.int .i64 x.port]:=rfl
structure ApiHostPort where
  host:(List UInt8)
  port:Int
  deriving DecidableEq
def DV (x:ApiHostPort):AVal:=.agg [.str x.host,.int .i64 x.port]
theorem WC (x:ApiHostPort):DV x=.agg [.str x.host,.int .i64 x.port]:=rfl
structure ApiURL where
  host:(List UInt8)
  port:Int
  path:(List UInt8)
  query:(List UInt8)
  fragment:(List UInt8)
  hasQuery:Bool
  hasFrag:Bool
  deriving DecidableEq
def Ah (x:ApiURL):AVal:=.agg [.str x.host,.int .i64 x.port,.str x.path,.str x.query,.str x.fragment,.bool x.hasQuery,.bool x.hasFrag]
theorem AIM (x:ApiURL):Ah x=.agg [.str x.host,.int .i64 x.port,.str x.path,.str x.query,.str x.fragment,.bool x.hasQuery,.bool x.hasFrag]:=rfl
structure ApiURI where
  scheme:(List UInt8)
  authority:(List UInt8)
  path:(List UInt8)
  query:(List UInt8)
  fragment:(List UInt8)
  hasScheme:Bool
  hasAuthority:Bool
  hasQuery:Bool
  hasFrag:Bool
  deriving DecidableEq
def Fb (x:ApiURI):AVal:=.agg [.str x.scheme,.str x.authority,.str x.path,.str x.query,.str x.fragment,.bool x.hasScheme,.bool x.hasAuthority,.bool x.hasQuery,.bool x.hasFrag]
theorem AKv (x:ApiURI):Fb x=.agg [.str x.scheme,.str x.authority,.str x.path,.str x.query,.str x.fragment,.bool x.hasScheme,.bool x.hasAuthority,.bool x.hasQuery,.bool x.hasFrag]:=rfl
structure DidwebMapper where
  e:Int
  deriving DecidableEq
def Yk (x:DidwebMapper):AVal:=.agg [.int .i64 x.e]
theorem Uc (x:DidwebMapper):Yk x=.agg [.int .i64 x.e]:=rfl
structure ApiExchange where
  uRL:ApiURL
  status:Int
  err:Int
  deriving DecidableEq
def Bi (x:ApiExchange):AVal:=.agg [.str x.uRL.host,.int .i64 x.uRL.port,.str x.uRL.path,.str x.uRL.query,.str x.uRL.fragment,.bool x.uRL.hasQuery,.bool x.uRL.hasFrag,.int .i64 x.status,.int .i64 x.err]
theorem WG (x:ApiExchange):Bi x=.agg [.str x.uRL.host,.int .i64 x.uRL.port,.str x.uRL.path,.str x.uRL.query,.str x.uRL.fragment,.bool x.uRL.hasQuery,.bool x.uRL.hasFrag,.int .i64 x.status,.int .i64 x.err]:=rfl
structure ApiResponse where
  uRL:ApiURL
  head:ApiHead
  body:(List UInt8)
  trace:(List ApiExchange)
  deriving DecidableEq
def KS (x:ApiResponse):AVal:=.agg [.str x.uRL.host,.int .i64 x.uRL.port,.str x.uRL.path,.str x.uRL.query,.str x.uRL.fragment,.bool x.uRL.hasQuery,.bool x.uRL.hasFrag,.int .i64 x.head.minor,.int .i64 x.head.status,.slice 2 (List.map Aj x.head.fields) false,.str x.body,.slice 9 (List.map Bi x.trace) false]
theorem Vo (x:ApiResponse):KS x=.agg [.str x.uRL.host,.int .i64 x.uRL.port,.str x.uRL.path,.str x.uRL.query,.str x.uRL.fragment,.bool x.uRL.hasQuery,.bool x.uRL.hasFrag,.int .i64 x.head.minor,.int .i64 x.head.status,.slice 2 (List.map Aj x.head.fields) false,.str x.body,.slice 9 (List.map Bi x.trace) false]:=rfl
structure MadeDice where
  l:(List Int)
  deriving DecidableEq
def AOM (x:MadeDice):AVal:=.agg [.slice 1 (List.map (AVal.int .u8) x.l) false]
theorem ZC (x:MadeDice):AOM x=.agg [.slice 1 (List.map (AVal.int .u8) x.l) false]:=rfl
structure ApiMail where
  local_:(List UInt8)
  host:(List UInt8)
  deriving DecidableEq
def Um (x:ApiMail):AVal:=.agg [.str x.local_,.str x.host]
theorem AAy (x:ApiMail):Um x=.agg [.str x.local_,.str x.host]:=rfl
structure ApiProperty where
  name:(List UInt8)
  value:(List UInt8)
  null:Bool
  deriving DecidableEq
def F8 (x:ApiProperty):AVal:=.agg [.str x.name,.str x.value,.bool x.null]
theorem V4 (x:ApiProperty):F8 x=.agg [.str x.name,.str x.value,.bool x.null]:=rfl
structure ApiLink where
  rel:(List UInt8)
  type_:(List UInt8)
  href:(List UInt8)
  template:(List UInt8)
  titles:(List ApiProperty)
  properties:(List ApiProperty)
  deriving DecidableEq
def Lt (x:ApiLink):AVal:=.agg [.str x.rel,.str x.type_,.str x.href,.str x.template,.slice 3 (List.map F8 x.titles) false,.slice 3 (List.map F8 x.properties) false]
theorem ABh (x:ApiLink):Lt x=.agg [.str x.rel,.str x.type_,.str x.href,.str x.template,.slice 3 (List.map F8 x.titles) false,.slice 3 (List.map F8 x.properties) false]:=rfl
structure ApiJRD where
  subject:(List UInt8)
  aliases:(List (List UInt8))
  properties:(List ApiProperty)
  links:(List ApiLink)
  deriving DecidableEq
def AZr (x:ApiJRD):AVal:=.agg [.str x.subject,.slice 1 (List.map AVal.str x.aliases) false,.slice 3 (List.map F8 x.properties) false,.slice 6 (List.map Lt x.links) false]
theorem AJN (x:ApiJRD):AZr x=.agg [.str x.subject,.slice 1 (List.map AVal.str x.aliases) false,.slice 3 (List.map F8 x.properties) false,.slice 6 (List.map Lt x.links) false]:=rfl
structure ApiAnswer where
  host:(List UInt8)
  port:Int
  target:(List UInt8)
  raw:(List UInt8)
  fail:Int
  from_:Int
  until_:Int
  deriving DecidableEq
def CQ (x:ApiAnswer):AVal:=.agg [.str x.host,.int .i64 x.port,.str x.target,.str x.raw,.int .i64 x.fail,.int .u64 x.from_,.int .u64 x.until_]
theorem Ye (x:ApiAnswer):CQ x=.agg [.str x.host,.int .i64 x.port,.str x.target,.str x.raw,.int .i64 x.fail,.int .u64 x.from_,.int .u64 x.until_]:=rfl
structure ApiFetch where
  next:ApiURL
  hops:Int
  done:Bool
  err:Int
  final:ApiResponse
  seen:(List ApiURL)
  deriving DecidableEq
def P5 (x:ApiFetch):AVal:=.agg [.str x.next.host,.int .i64 x.next.port,.str x.next.path,.str x.next.query,.str x.next.fragment,.bool x.next.hasQuery,.bool x.next.hasFrag,.int .i64 x.hops,.bool x.done,.int .i64 x.err,.str x.final.uRL.host,.int .i64 x.final.uRL.port,.str x.final.uRL.path,.str x.final.uRL.query,.str x.final.uRL.fragment,.bool x.final.uRL.hasQuery,.bool x.final.uRL.hasFrag,.int .i64 x.final.head.minor,.int .i64 x.final.head.status,.slice 2 (List.map Aj x.final.head.fields) false,.str x.final.body,.slice 9 (List.map Bi x.final.trace) false,.slice 7 (List.map Ah x.seen) false]
theorem ZW (x:ApiFetch):P5 x=.agg [.str x.next.host,.int .i64 x.next.port,.str x.next.path,.str x.next.query,.str x.next.fragment,.bool x.next.hasQuery,.bool x.next.hasFrag,.int .i64 x.hops,.bool x.done,.int .i64 x.err,.str x.final.uRL.host,.int .i64 x.final.uRL.port,.str x.final.uRL.path,.str x.final.uRL.query,.str x.final.uRL.fragment,.bool x.final.uRL.hasQuery,.bool x.final.uRL.hasFrag,.int .i64 x.final.head.minor,.int .i64 x.final.head.status,.slice 2 (List.map Aj x.final.head.fields) false,.str x.final.body,.slice 9 (List.map Bi x.final.trace) false,.slice 7 (List.map Ah x.seen) false]:=rfl
structure WorldRequest where
  origin:ApiHostPort
  target:(List UInt8)
  now:Int
  deriving DecidableEq
def RO (x:WorldRequest):AVal:=.agg [.str x.origin.host,.int .i64 x.origin.port,.str x.target,.int .u64 x.now]
theorem Ug (x:WorldRequest):RO x=.agg [.str x.origin.host,.int .i64 x.origin.port,.str x.target,.int .u64 x.now]:=rfl
structure HeadLines where
  rest:(List UInt8)
  more:Bool
  deriving DecidableEq
def AJy (x:HeadLines):AVal:=.agg [.str x.rest,.bool x.more]
theorem Yg (x:HeadLines):AJy x=.agg [.str x.rest,.bool x.more]:=rfl
structure BodyChunks where
  rest:(List UInt8)
  size:Int
  deriving DecidableEq
def ABX (x:BodyChunks):AVal:=.agg [.str x.rest,.int .u64 x.size]
theorem XK (x:BodyChunks):ABX x=.agg [.str x.rest,.int .u64 x.size]:=rfl
structure ApiFresh where
  store:Bool
  seconds:Int
  deriving DecidableEq
def Xx (x:ApiFresh):AVal:=.agg [.bool x.store,.int .u64 x.seconds]
theorem ZV (x:ApiFresh):Xx x=.agg [.bool x.store,.int .u64 x.seconds]:=rfl
structure ApiFinding where
  subject:ApiID
  names:(List ApiID)
  via:Int
  fresh:ApiFresh
  trace:(List ApiExchange)
  deriving DecidableEq
def UH (x:ApiFinding):AVal:=.agg [.int .i64 x.subject.kind,.str x.subject.text,.str x.subject.host,.int .i64 x.subject.port,.slice 4 (List.map CU x.names) false,.int .i64 x.via,.bool x.fresh.store,.int .u64 x.fresh.seconds,.slice 9 (List.map Bi x.trace) false]
theorem XO (x:ApiFinding):UH x=.agg [.int .i64 x.subject.kind,.str x.subject.text,.str x.subject.host,.int .i64 x.subject.port,.slice 4 (List.map CU x.names) false,.int .i64 x.via,.bool x.fresh.store,.int .u64 x.fresh.seconds,.slice 9 (List.map Bi x.trace) false]:=rfl
def L6:List Utf8textForm:=[(Utf8textForm.mk 0 127 0),(Utf8textForm.mk 192 31 128),(Utf8textForm.mk 224 15 2048),(Utf8textForm.mk 240 7 65536)]
def Nh:List AVal:=[.int .u8 0,.int .u8 127,.int .i64 0,.int .u8 192,.int .u8 31,.int .i64 128,.int .u8 224,.int .u8 15,.int .i64 2048,.int .u8 240,.int .u8 7,.int .i64 65536]
def AnF:List AVal:=[.num .i64]
def vT (g:Nat):Option (List AVal):=if g=3 then some Nh else if g=0 then some AnF else none
instance AnG:EO ApiService Fx:=⟨⟩
end Go.VM
set_option linter.defProp false
namespace Go.VM
def eE:=ac @AEC (ac @Tq (ac @Hm (ac @Yi (ac @XQ (ac @AEi (ac @Yn (ac @ABE (ac @AAU (ac @Tm (ac @ZA (ac @WP (ac @Uk (ac @AAc (ac @ABo (ac @AQW (ac @WC (ac @AIM (ac @AKv (ac @Uc (ac @Vo (ac @WG (ac @ZC (ac @AAy (ac @ABh (ac @V4 (ac @AJN (ac @Ye (ac @ZW (ac @Ug (ac @Yg (ac @XK (ac @ZV (@XO)))))))))))))))))))))))))))))))))
end Go.VM
