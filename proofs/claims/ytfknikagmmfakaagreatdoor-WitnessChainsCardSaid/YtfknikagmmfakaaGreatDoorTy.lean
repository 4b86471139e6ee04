import Derived.Test.YtfknikagmmfakaaGreatDoorVM2
set_option linter.unusedVariables false
namespace Go.VM
structure ApiURL where
  host:(List UInt8)
  port:Int
  path:(List UInt8)
  query:(List UInt8)
  fragment:(List UInt8)
  hasQuery:Bool
  hasFrag:Bool
  deriving DecidableEq
def A7 (x:ApiURL):AVal:=.agg [.str x.host,.int .i64 x.port,.str x.path,.str x.query,.str x.fragment,.bool x.hasQuery,.bool x.hasFrag]
theorem Zm (x:ApiURL):A7 x=.agg [.str x.host,.int .i64 x.port,.str x.path,.str x.query,.str x.fragment,.bool x.hasQuery,.bool x.hasFrag]:=rfl
structure ApiExchange where
  uRL:ApiURL
  status:Int
  err:Int
  deriving DecidableEq
def AL (x:ApiExchange):AVal:=.agg [.str x.uRL.host,.int .i64 x.uRL.port,.str x.uRL.path,.str x.uRL.query,.str x.uRL.fragment,.bool x.uRL.hasQuery,.bool x.uRL.hasFrag,.int .i64 x.status,.int .i64 x.err]
theorem M9 (x:ApiExchange):AL x=.agg [.str x.uRL.host,.int .i64 x.uRL.port,.str x.uRL.path,.str x.uRL.query,.str x.uRL.fragment,.bool x.uRL.hasQuery,.bool x.uRL.hasFrag,.int .i64 x.status,.int .i64 x.err]:=rfl
structure MadeDice where
  l:(List Int)
  deriving DecidableEq
def AKf (x:MadeDice):AVal:=.agg [.slice 1 (List.map (AVal.int .u8) x.l) false]
theorem WR (x:MadeDice):AKf x=.agg [.slice 1 (List.map (AVal.int .u8) x.l) false]:=rfl
structure ApiAcct where
  user:(List UInt8)
  host:(List UInt8)
  deriving DecidableEq
def MP (x:ApiAcct):AVal:=.agg [.str x.user,.str x.host]
theorem YO (x:ApiAcct):MP x=.agg [.str x.user,.str x.host]:=rfl
structure ApiHostPort where
  host:(List UInt8)
  port:Int
  deriving DecidableEq
def Ay (x:ApiHostPort):AVal:=.agg [.str x.host,.int .i64 x.port]
theorem Sj (x:ApiHostPort):Ay x=.agg [.str x.host,.int .i64 x.port]:=rfl
structure ApiURI where
  scheme:(List UInt8)
  authority:(List UInt8)
  path:(List UInt8)
  query:(List UInt8)
  fragment:(List UInt8)
  hasScheme:Bool
  hasAuthority:Bool
  hasQuery:Bool
  hasFrag:Bool
  deriving DecidableEq
def Kb (x:ApiURI):AVal:=.agg [.str x.scheme,.str x.authority,.str x.path,.str x.query,.str x.fragment,.bool x.hasScheme,.bool x.hasAuthority,.bool x.hasQuery,.bool x.hasFrag]
theorem ABe (x:ApiURI):Kb x=.agg [.str x.scheme,.str x.authority,.str x.path,.str x.query,.str x.fragment,.bool x.hasScheme,.bool x.hasAuthority,.bool x.hasQuery,.bool x.hasFrag]:=rfl
structure ApiID where
  kind:Int
  text:(List UInt8)
  host:(List UInt8)
  port:Int
  deriving DecidableEq
def Aj (x:ApiID):AVal:=.agg [.int .i64 x.kind,.str x.text,.str x.host,.int .i64 x.port]
theorem AM4 (x:ApiID):Aj x=.agg [.int .i64 x.kind,.str x.text,.str x.host,.int .i64 x.port]:=rfl
structure ApiValue where
  kind:Int
  text:(List UInt8)
  keys:(List (List UInt8))
  items:(List ApiValue)
mutual
def AB:ApiValue→AVal
  |⟨kind,text,keys,items⟩=>.agg [.int .i64 kind,.str text,.slice 1 (List.map AVal.str keys) false,.slice 4 (Lv items) false]
def Lv:List ApiValue→List AVal
  |[]=>[]
  |x::xs=>AB x::Lv xs
end
theorem TG (l:List ApiValue):Lv l=List.map AB l:=by
  induction l with
  |nil=>rfl
  |cons x l ih=>simp only[Lv,List.map_cons,ih]
theorem En (x:ApiValue):AB x=.agg [.int .i64 x.kind,.str x.text,.slice 1 (List.map AVal.str x.keys) false,.slice 4 (List.map AB x.items) false]:=by
  cases x;simp only[AB,TG]
structure ApiProperty where
  name:(List UInt8)
  value:(List UInt8)
  null:Bool
  deriving DecidableEq
def BM (x:ApiProperty):AVal:=.agg [.str x.name,.str x.value,.bool x.null]
theorem Rx (x:ApiProperty):BM x=.agg [.str x.name,.str x.value,.bool x.null]:=rfl
structure ApiLink where
  rel:(List UInt8)
  type_:(List UInt8)
  href:(List UInt8)
  template:(List UInt8)
  titles:(List ApiProperty)
  properties:(List ApiProperty)
  deriving DecidableEq
def BS (x:ApiLink):AVal:=.agg [.str x.rel,.str x.type_,.str x.href,.str x.template,.slice 3 (List.map BM x.titles) false,.slice 3 (List.map BM x.properties) false]
theorem YE (x:ApiLink):BS x=.agg [.str x.rel,.str x.type_,.str x.href,.str x.template,.slice 3 (List.map BM x.titles) false,.slice 3 (List.map BM x.properties) false]:=rfl
structure ApiJRD where
  subject:(List UInt8)
  aliases:(List (List UInt8))
  properties:(List ApiProperty)
  links:(List ApiLink)
  deriving DecidableEq
def GZ (x:ApiJRD):AVal:=.agg [.str x.subject,.slice 1 (List.map AVal.str x.aliases) false,.slice 3 (List.map BM x.properties) false,.slice 6 (List.map BS x.links) false]
theorem AGq (x:ApiJRD):GZ x=.agg [.str x.subject,.slice 1 (List.map AVal.str x.aliases) false,.slice 3 (List.map BM x.properties) false,.slice 6 (List.map BS x.links) false]:=rfl
structure ApiField where
  name:(List UInt8)
  value:(List UInt8)
  deriving DecidableEq
def Ae (x:ApiField):AVal:=.agg [.str x.name,.str x.value]
theorem WG (x:ApiField):Ae x=.agg [.str x.name,.str x.value]:=rfl
structure ApiHead where
  minor:Int
  status:Int
  fields:(List ApiField)
  deriving DecidableEq
def EP (x:ApiHead):AVal:=.agg [.int .i64 x.minor,.int .i64 x.status,.slice 2 (List.map Ae x.fields) false]
theorem XH (x:ApiHead):EP x=.agg [.int .i64 x.minor,.int .i64 x.status,.slice 2 (List.map Ae x.fields) false]:=rfl
structure ApiAnswer where
  host:(List UInt8)
  port:Int
  target:(List UInt8)
  raw:(List UInt8)
  fail:Int
  from_:Int
  until_:Int
  deriving DecidableEq
def Ap (x:ApiAnswer):AVal:=.agg [.str x.host,.int .i64 x.port,.str x.target,.str x.raw,.int .i64 x.fail,.int .u64 x.from_,.int .u64 x.until_]
theorem Uw (x:ApiAnswer):Ap x=.agg [.str x.host,.int .i64 x.port,.str x.target,.str x.raw,.int .i64 x.fail,.int .u64 x.from_,.int .u64 x.until_]:=rfl
structure ApiResponse where
  uRL:ApiURL
  head:ApiHead
  body:(List UInt8)
  trace:(List ApiExchange)
  deriving DecidableEq
def Dl (x:ApiResponse):AVal:=.agg [.str x.uRL.host,.int .i64 x.uRL.port,.str x.uRL.path,.str x.uRL.query,.str x.uRL.fragment,.bool x.uRL.hasQuery,.bool x.uRL.hasFrag,.int .i64 x.head.minor,.int .i64 x.head.status,.slice 2 (List.map Ae x.head.fields) false,.str x.body,.slice 9 (List.map AL x.trace) false]
theorem Ru (x:ApiResponse):Dl x=.agg [.str x.uRL.host,.int .i64 x.uRL.port,.str x.uRL.path,.str x.uRL.query,.str x.uRL.fragment,.bool x.uRL.hasQuery,.bool x.uRL.hasFrag,.int .i64 x.head.minor,.int .i64 x.head.status,.slice 2 (List.map Ae x.head.fields) false,.str x.body,.slice 9 (List.map AL x.trace) false]:=rfl
structure ApiFetch where
  next:ApiURL
  hops:Int
  done:Bool
  err:Int
  final:ApiResponse
  seen:(List ApiURL)
  deriving DecidableEq
def LY (x:ApiFetch):AVal:=.agg [.str x.next.host,.int .i64 x.next.port,.str x.next.path,.str x.next.query,.str x.next.fragment,.bool x.next.hasQuery,.bool x.next.hasFrag,.int .i64 x.hops,.bool x.done,.int .i64 x.err,.str x.final.uRL.host,.int .i64 x.final.uRL.port,.str x.final.uRL.path,.str x.final.uRL.query,.str x.final.uRL.fragment,.bool x.final.uRL.hasQuery,.bool x.final.uRL.hasFrag,.int .i64 x.final.head.minor,.int .i64 x.final.head.status,.slice 2 (List.map Ae x.final.head.fields) false,.str x.final.body,.slice 9 (List.map AL x.final.trace) false,.slice 7 (List.map A7 x.seen) false]
theorem Vo (x:ApiFetch):LY x=.agg [.str x.next.host,.int .i64 x.next.port,.str x.next.path,.str x.next.query,.str x.next.fragment,.bool x.next.hasQuery,.bool x.next.hasFrag,.int .i64 x.hops,.bool x.done,.int .i64 x.err,.str x.final.uRL.host,.int .i64 x.final.uRL.port,.str x.final.uRL.path,.str x.final.uRL.query,.str x.final.uRL.fragment,.bool x.final.uRL.hasQuery,.bool x.final.uRL.hasFrag,.int .i64 x.final.head.minor,.int .i64 x.final.head.status,.slice 2 (List.map Ae x.final.head.fields) false,.str x.final.body,.slice 9 (List.map AL x.final.trace) false,.slice 7 (List.map A7 x.seen) false]:=rfl
structure ApiMedia where
  type_:(List UInt8)
  sub:(List UInt8)
  params:(List ApiField)
  deriving DecidableEq
def Fu (x:ApiMedia):AVal:=.agg [.str x.type_,.str x.sub,.slice 2 (List.map Ae x.params) false]
theorem WY (x:ApiMedia):Fu x=.agg [.str x.type_,.str x.sub,.slice 2 (List.map Ae x.params) false]:=rfl
structure ApiToken where
  kind:Int
  text:(List UInt8)
  at_:Int
  deriving DecidableEq
def Cm (x:ApiToken):AVal:=.agg [.int .i64 x.kind,.str x.text,.int .i64 x.at_]
theorem Vn (x:ApiToken):Cm x=.agg [.int .i64 x.kind,.str x.text,.int .i64 x.at_]:=rfl
structure Ref14Parser where
  s:(List UInt8)
  at_:Int
  nodes:Int
  fail:Int
  where_:Int
  deriving DecidableEq
def V9 (x:Ref14Parser):AVal:=.agg [.str x.s,.int .i64 x.at_,.int .i64 x.nodes,.int .i64 x.fail,.int .i64 x.where_]
theorem SB (x:Ref14Parser):V9 x=.agg [.str x.s,.int .i64 x.at_,.int .i64 x.nodes,.int .i64 x.fail,.int .i64 x.where_]:=rfl
structure ApiFresh where
  store:Bool
  seconds:Int
  deriving DecidableEq
def J2 (x:ApiFresh):AVal:=.agg [.bool x.store,.int .u64 x.seconds]
theorem WO (x:ApiFresh):J2 x=.agg [.bool x.store,.int .u64 x.seconds]:=rfl
structure Ref27Lookup where
  l:(List ApiAnswer)
  now:Int
  id:ApiID
  trace:(List ApiExchange)
  deriving DecidableEq
def Vy (x:Ref27Lookup):AVal:=.agg [.slice 7 (List.map Ap x.l) false,.int .u64 x.now,.int .i64 x.id.kind,.str x.id.text,.str x.id.host,.int .i64 x.id.port,.slice 9 (List.map AL x.trace) false]
theorem R9 (x:Ref27Lookup):Vy x=.agg [.slice 7 (List.map Ap x.l) false,.int .u64 x.now,.int .i64 x.id.kind,.str x.id.text,.str x.id.host,.int .i64 x.id.port,.slice 9 (List.map AL x.trace) false]:=rfl
structure Ref16Reader where
  fail:Int
  deriving DecidableEq
def VZ (x:Ref16Reader):AVal:=.agg [.int .i64 x.fail]
theorem SE (x:Ref16Reader):VZ x=.agg [.int .i64 x.fail]:=rfl
structure ApiFinding where
  subject:ApiID
  names:(List ApiID)
  via:Int
  fresh:ApiFresh
  trace:(List ApiExchange)
  deriving DecidableEq
def JV (x:ApiFinding):AVal:=.agg [.int .i64 x.subject.kind,.str x.subject.text,.str x.subject.host,.int .i64 x.subject.port,.slice 4 (List.map Aj x.names) false,.int .i64 x.via,.bool x.fresh.store,.int .u64 x.fresh.seconds,.slice 9 (List.map AL x.trace) false]
theorem TR (x:ApiFinding):JV x=.agg [.int .i64 x.subject.kind,.str x.subject.text,.str x.subject.host,.int .i64 x.subject.port,.slice 4 (List.map Aj x.names) false,.int .i64 x.via,.bool x.fresh.store,.int .u64 x.fresh.seconds,.slice 9 (List.map AL x.trace) false]:=rfl
structure ApiVerdict where
  err:Int
  iD:ApiID
  profile:ApiID
  fresh:ApiFresh
  trace:(List ApiExchange)
  deriving DecidableEq
def JQ (x:ApiVerdict):AVal:=.agg [.int .i64 x.err,.int .i64 x.iD.kind,.str x.iD.text,.str x.iD.host,.int .i64 x.iD.port,.int .i64 x.profile.kind,.str x.profile.text,.str x.profile.host,.int .i64 x.profile.port,.bool x.fresh.store,.int .u64 x.fresh.seconds,.slice 9 (List.map AL x.trace) false]
theorem TD (x:ApiVerdict):JQ x=.agg [.int .i64 x.err,.int .i64 x.iD.kind,.str x.iD.text,.str x.iD.host,.int .i64 x.iD.port,.int .i64 x.profile.kind,.str x.profile.text,.str x.profile.host,.int .i64 x.profile.port,.bool x.fresh.store,.int .u64 x.fresh.seconds,.slice 9 (List.map AL x.trace) false]:=rfl
structure StringsBuilder where
  addr:Bool
  buf:(List UInt8)
  deriving DecidableEq
structure ApiDID where
  method:(List UInt8)
  iD:(List UInt8)
  deriving DecidableEq
def YY (x:ApiDID):AVal:=.agg [.str x.method,.str x.iD]
theorem ACr (x:ApiDID):YY x=.agg [.str x.method,.str x.iD]:=rfl
structure WorldRequest where
  origin:ApiHostPort
  target:(List UInt8)
  now:Int
  deriving DecidableEq
def Ov (x:WorldRequest):AVal:=.agg [.str x.origin.host,.int .i64 x.origin.port,.str x.target,.int .u64 x.now]
theorem Q4 (x:WorldRequest):Ov x=.agg [.str x.origin.host,.int .i64 x.origin.port,.str x.target,.int .u64 x.now]:=rfl
structure HeadLines where
  rest:(List UInt8)
  more:Bool
  deriving DecidableEq
def AJy (x:HeadLines):AVal:=.agg [.str x.rest,.bool x.more]
theorem Uy (x:HeadLines):AJy x=.agg [.str x.rest,.bool x.more]:=rfl
structure BodyChunks where
  rest:(List UInt8)
  size:Int
  deriving DecidableEq
def Wt (x:BodyChunks):AVal:=.agg [.str x.rest,.int .u64 x.size]
theorem Tx (x:BodyChunks):Wt x=.agg [.str x.rest,.int .u64 x.size]:=rfl
structure DiddocDecoder where
  did:ApiDID
  e:Int
  deriving DecidableEq
def Ta (x:DiddocDecoder):AVal:=.agg [.str x.did.method,.str x.did.iD,.int .i64 x.e]
theorem Qb (x:DiddocDecoder):Ta x=.agg [.str x.did.method,.str x.did.iD,.int .i64 x.e]:=rfl
structure ApiMethod where
  iD:(List UInt8)
  type_:(List UInt8)
  controller:(List UInt8)
  deriving DecidableEq
def MC (x:ApiMethod):AVal:=.agg [.str x.iD,.str x.type_,.str x.controller]
theorem U4 (x:ApiMethod):MC x=.agg [.str x.iD,.str x.type_,.str x.controller]:=rfl
structure ApiService where
  iD:(List UInt8)
  types:(List (List UInt8))
  endpoints:(List (List UInt8))
  deriving DecidableEq
def K7 (x:ApiService):AVal:=.agg [.str x.iD,.slice 1 (List.map AVal.str x.types) false,.slice 1 (List.map AVal.str x.endpoints) false]
theorem TE (x:ApiService):K7 x=.agg [.str x.iD,.slice 1 (List.map AVal.str x.types) false,.slice 1 (List.map AVal.str x.endpoints) false]:=rfl
structure ApiDoc where
  iD:(List UInt8)
  also:(List (List UInt8))
  controllers:(List (List UInt8))
  methods:(List ApiMethod)
  services:(List ApiService)
  deriving DecidableEq
def AYe (x:ApiDoc):AVal:=.agg [.str x.iD,.slice 1 (List.map AVal.str x.also) false,.slice 1 (List.map AVal.str x.controllers) false,.slice 3 (List.map MC x.methods) false,.slice 3 (List.map K7 x.services) false]
theorem AGL (x:ApiDoc):AYe x=.agg [.str x.iD,.slice 1 (List.map AVal.str x.also) false,.slice 1 (List.map AVal.str x.controllers) false,.slice 3 (List.map MC x.methods) false,.slice 3 (List.map K7 x.services) false]:=rfl
structure TokenReader where
  s:(List UInt8)
  at_:Int
  deriving DecidableEq
def VU (x:TokenReader):AVal:=.agg [.str x.s,.int .i64 x.at_]
theorem Sw (x:TokenReader):VU x=.agg [.str x.s,.int .i64 x.at_]:=rfl
structure Utf8textForm where
  mark:Int
  mask:Int
  least:Int
  deriving DecidableEq
def U8 (x:Utf8textForm):AVal:=.agg [.int .u8 x.mark,.int .u8 x.mask,.int .i64 x.least]
theorem RO (x:Utf8textForm):U8 x=.agg [.int .u8 x.mark,.int .u8 x.mask,.int .i64 x.least]:=rfl
structure JrdDecoder where
  e:Int
  deriving DecidableEq
def X9 (x:JrdDecoder):AVal:=.agg [.int .i64 x.e]
theorem Td (x:JrdDecoder):X9 x=.agg [.int .i64 x.e]:=rfl
structure GrammarCursor where
  s:(List UInt8)
  at_:Int
  deriving DecidableEq
def TQ (x:GrammarCursor):AVal:=.agg [.str x.s,.int .i64 x.at_]
theorem Qe (x:GrammarCursor):TQ x=.agg [.str x.s,.int .i64 x.at_]:=rfl
structure ApiWebLink where
  target:(List UInt8)
  rels:(List (List UInt8))
  params:(List ApiField)
  deriving DecidableEq
def K5 (x:ApiWebLink):AVal:=.agg [.str x.target,.slice 1 (List.map AVal.str x.rels) false,.slice 2 (List.map Ae x.params) false]
theorem TW (x:ApiWebLink):K5 x=.agg [.str x.target,.slice 1 (List.map AVal.str x.rels) false,.slice 2 (List.map Ae x.params) false]:=rfl
def Jh:List Utf8textForm:=[(Utf8textForm.mk 0 127 0),(Utf8textForm.mk 192 31 128),(Utf8textForm.mk 224 15 2048),(Utf8textForm.mk 240 7 65536)]
def Kz:List AVal:=[.int .u8 0,.int .u8 127,.int .i64 0,.int .u8 192,.int .u8 31,.int .i64 128,.int .u8 224,.int .u8 15,.int .i64 2048,.int .u8 240,.int .u8 7,.int .i64 65536]
def Ai3:List AVal:=[.num .i64]
def vT (g:Nat):Option (List AVal):=if g=3 then some Kz else if g=0 then some Ai3 else none
instance Aoq:EO (List (List UInt8)) (fun l=>AVal.slice 1 (List.map AVal.str l) false):=⟨⟩
instance An0:EO ApiID Aj:=⟨⟩
instance Amc:EO ApiLink BS:=⟨⟩
end Go.VM
set_option linter.defProp false
namespace Go.VM
def eE:=And.intro @M9 (And.intro @Zm (And.intro @WR (And.intro @YO (And.intro @Sj (And.intro @ABe (And.intro @AM4 (And.intro @En (And.intro @Rx (And.intro @AGq (And.intro @YE (And.intro @XH (And.intro @WG (And.intro @Uw (And.intro @Vo (And.intro @Ru (And.intro @WY (And.intro @Vn (And.intro @SB (And.intro @WO (And.intro @R9 (And.intro @SE (And.intro @TR (And.intro @TD (And.intro @ACr (And.intro @Q4 (And.intro @Uy (And.intro @Tx (And.intro @Qb (And.intro @AGL (And.intro @U4 (And.intro @TE (And.intro @Sw (And.intro @RO (And.intro @Td (And.intro @Qe (@TW))))))))))))))))))))))))))))))))))))
end Go.VM
