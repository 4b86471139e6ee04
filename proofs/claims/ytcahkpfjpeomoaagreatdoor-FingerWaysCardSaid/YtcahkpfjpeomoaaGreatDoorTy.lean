import Derived.Test.YtcahkpfjpeomoaaGreatDoorVM2
set_option linter.unusedVariables false
namespace Go.VM
structure ApiAcct where
  user:(List UInt8)
  host:(List UInt8)
  deriving DecidableEq
def MW (x:ApiAcct):AVal:=.agg [.str x.user,.str x.host]
theorem XT (x:ApiAcct):MW x=.agg [.str x.user,.str x.host]:=rfl
structure ApiID where
  kind:Int
  text:(List UInt8)
  host:(List UInt8)
  port:Int
  deriving DecidableEq
def Ap (x:ApiID):AVal:=.agg [.int .i64 x.kind,.str x.text,.str x.host,.int .i64 x.port]
theorem AFy (x:ApiID):Ap x=.agg [.int .i64 x.kind,.str x.text,.str x.host,.int .i64 x.port]:=rfl
structure ApiMail where
  local_:(List UInt8)
  host:(List UInt8)
  deriving DecidableEq
def Lx (x:ApiMail):AVal:=.agg [.str x.local_,.str x.host]
theorem WR (x:ApiMail):Lx x=.agg [.str x.local_,.str x.host]:=rfl
structure ApiHostPort where
  host:(List UInt8)
  port:Int
  deriving DecidableEq
def Cw (x:ApiHostPort):AVal:=.agg [.str x.host,.int .i64 x.port]
theorem SC (x:ApiHostPort):Cw x=.agg [.str x.host,.int .i64 x.port]:=rfl
structure ApiURL where
  host:(List UInt8)
  port:Int
  path:(List UInt8)
  query:(List UInt8)
  fragment:(List UInt8)
  hasQuery:Bool
  hasFrag:Bool
  deriving DecidableEq
def Aa (x:ApiURL):AVal:=.agg [.str x.host,.int .i64 x.port,.str x.path,.str x.query,.str x.fragment,.bool x.hasQuery,.bool x.hasFrag]
theorem ACd (x:ApiURL):Aa x=.agg [.str x.host,.int .i64 x.port,.str x.path,.str x.query,.str x.fragment,.bool x.hasQuery,.bool x.hasFrag]:=rfl
structure ApiURI where
  scheme:(List UInt8)
  authority:(List UInt8)
  path:(List UInt8)
  query:(List UInt8)
  fragment:(List UInt8)
  hasScheme:Bool
  hasAuthority:Bool
  hasQuery:Bool
  hasFrag:Bool
  deriving DecidableEq
def JA (x:ApiURI):AVal:=.agg [.str x.scheme,.str x.authority,.str x.path,.str x.query,.str x.fragment,.bool x.hasScheme,.bool x.hasAuthority,.bool x.hasQuery,.bool x.hasFrag]
theorem ACS (x:ApiURI):JA x=.agg [.str x.scheme,.str x.authority,.str x.path,.str x.query,.str x.fragment,.bool x.hasScheme,.bool x.hasAuthority,.bool x.hasQuery,.bool x.hasFrag]:=rfl
structure StringsBuilder where
  addr:Bool
  buf:(List UInt8)
  deriving DecidableEq
structure ApiDID where
  method:(List UInt8)
  iD:(List UInt8)
  deriving DecidableEq
def D9 (x:ApiDID):AVal:=.agg [.str x.method,.str x.iD]
theorem Y1 (x:ApiDID):D9 x=.agg [.str x.method,.str x.iD]:=rfl
structure DidwebMapper where
  e:Int
  deriving DecidableEq
def Uv (x:DidwebMapper):AVal:=.agg [.int .i64 x.e]
theorem RF (x:DidwebMapper):Uv x=.agg [.int .i64 x.e]:=rfl
structure MadeDice where
  l:(List Int)
  deriving DecidableEq
def AG7 (x:MadeDice):AVal:=.agg [.slice 1 (List.map (AVal.int .u8) x.l) false]
theorem Vj (x:MadeDice):AG7 x=.agg [.slice 1 (List.map (AVal.int .u8) x.l) false]:=rfl
structure ApiField where
  name:(List UInt8)
  value:(List UInt8)
  deriving DecidableEq
def Af (x:ApiField):AVal:=.agg [.str x.name,.str x.value]
theorem VE (x:ApiField):Af x=.agg [.str x.name,.str x.value]:=rfl
structure ApiHead where
  minor:Int
  status:Int
  fields:(List ApiField)
  deriving DecidableEq
def Iq (x:ApiHead):AVal:=.agg [.int .i64 x.minor,.int .i64 x.status,.slice 2 (List.map Af x.fields) false]
theorem Xc (x:ApiHead):Iq x=.agg [.int .i64 x.minor,.int .i64 x.status,.slice 2 (List.map Af x.fields) false]:=rfl
structure ApiAnswer where
  host:(List UInt8)
  port:Int
  target:(List UInt8)
  raw:(List UInt8)
  fail:Int
  from_:Int
  until_:Int
  deriving DecidableEq
def Ag (x:ApiAnswer):AVal:=.agg [.str x.host,.int .i64 x.port,.str x.target,.str x.raw,.int .i64 x.fail,.int .u64 x.from_,.int .u64 x.until_]
theorem Ud (x:ApiAnswer):Ag x=.agg [.str x.host,.int .i64 x.port,.str x.target,.str x.raw,.int .i64 x.fail,.int .u64 x.from_,.int .u64 x.until_]:=rfl
structure ApiExchange where
  uRL:ApiURL
  status:Int
  err:Int
  deriving DecidableEq
def AO (x:ApiExchange):AVal:=.agg [.str x.uRL.host,.int .i64 x.uRL.port,.str x.uRL.path,.str x.uRL.query,.str x.uRL.fragment,.bool x.uRL.hasQuery,.bool x.uRL.hasFrag,.int .i64 x.status,.int .i64 x.err]
theorem Sc (x:ApiExchange):AO x=.agg [.str x.uRL.host,.int .i64 x.uRL.port,.str x.uRL.path,.str x.uRL.query,.str x.uRL.fragment,.bool x.uRL.hasQuery,.bool x.uRL.hasFrag,.int .i64 x.status,.int .i64 x.err]:=rfl
structure ApiResponse where
  uRL:ApiURL
  head:ApiHead
  body:(List UInt8)
  trace:(List ApiExchange)
  deriving DecidableEq
def Gy (x:ApiResponse):AVal:=.agg [.str x.uRL.host,.int .i64 x.uRL.port,.str x.uRL.path,.str x.uRL.query,.str x.uRL.fragment,.bool x.uRL.hasQuery,.bool x.uRL.hasFrag,.int .i64 x.head.minor,.int .i64 x.head.status,.slice 2 (List.map Af x.head.fields) false,.str x.body,.slice 9 (List.map AO x.trace) false]
theorem SL (x:ApiResponse):Gy x=.agg [.str x.uRL.host,.int .i64 x.uRL.port,.str x.uRL.path,.str x.uRL.query,.str x.uRL.fragment,.bool x.uRL.hasQuery,.bool x.uRL.hasFrag,.int .i64 x.head.minor,.int .i64 x.head.status,.slice 2 (List.map Af x.head.fields) false,.str x.body,.slice 9 (List.map AO x.trace) false]:=rfl
structure ApiFetch where
  next:ApiURL
  hops:Int
  done:Bool
  err:Int
  final:ApiResponse
  seen:(List ApiURL)
  deriving DecidableEq
def Mt (x:ApiFetch):AVal:=.agg [.str x.next.host,.int .i64 x.next.port,.str x.next.path,.str x.next.query,.str x.next.fragment,.bool x.next.hasQuery,.bool x.next.hasFrag,.int .i64 x.hops,.bool x.done,.int .i64 x.err,.str x.final.uRL.host,.int .i64 x.final.uRL.port,.str x.final.uRL.path,.str x.final.uRL.query,.str x.final.uRL.fragment,.bool x.final.uRL.hasQuery,.bool x.final.uRL.hasFrag,.int .i64 x.final.head.minor,.int .i64 x.final.head.status,.slice 2 (List.map Af x.final.head.fields) false,.str x.final.body,.slice 9 (List.map AO x.final.trace) false,.slice 7 (List.map Aa x.seen) false]
theorem WE (x:ApiFetch):Mt x=.agg [.str x.next.host,.int .i64 x.next.port,.str x.next.path,.str x.next.query,.str x.next.fragment,.bool x.next.hasQuery,.bool x.next.hasFrag,.int .i64 x.hops,.bool x.done,.int .i64 x.err,.str x.final.uRL.host,.int .i64 x.final.uRL.port,.str x.final.uRL.path,.str x.final.uRL.query,.str x.final.uRL.fragment,.bool x.final.uRL.hasQuery,.bool x.final.uRL.hasFrag,.int .i64 x.final.head.minor,.int .i64 x.final.head.status,.slice 2 (List.map Af x.final.head.fields) false,.str x.final.body,.slice 9 (List.map AO x.final.trace) false,.slice 7 (List.map Aa x.seen) false]:=rfl
structure WorldRequest where
  origin:ApiHostPort
  target:(List UInt8)
  now:Int
  deriving DecidableEq
def Ob (x:WorldRequest):AVal:=.agg [.str x.origin.host,.int .i64 x.origin.port,.str x.target,.int .u64 x.now]
theorem RA (x:WorldRequest):Ob x=.agg [.str x.origin.host,.int .i64 x.origin.port,.str x.target,.int .u64 x.now]:=rfl
structure HeadLines where
  rest:(List UInt8)
  more:Bool
  deriving DecidableEq
def AA4 (x:HeadLines):AVal:=.agg [.str x.rest,.bool x.more]
theorem Uh (x:HeadLines):AA4 x=.agg [.str x.rest,.bool x.more]:=rfl
structure BodyChunks where
  rest:(List UInt8)
  size:Int
  deriving DecidableEq
def XR (x:BodyChunks):AVal:=.agg [.str x.rest,.int .u64 x.size]
theorem TS (x:BodyChunks):XR x=.agg [.str x.rest,.int .u64 x.size]:=rfl
structure FingerLookup where
  l:(List ApiAnswer)
  now:Int
  id:ApiID
  trace:(List ApiExchange)
  deriving DecidableEq
def Uo (x:FingerLookup):AVal:=.agg [.slice 7 (List.map Ag x.l) false,.int .u64 x.now,.int .i64 x.id.kind,.str x.id.text,.str x.id.host,.int .i64 x.id.port,.slice 9 (List.map AO x.trace) false]
theorem Qy (x:FingerLookup):Uo x=.agg [.slice 7 (List.map Ag x.l) false,.int .u64 x.now,.int .i64 x.id.kind,.str x.id.text,.str x.id.host,.int .i64 x.id.port,.slice 9 (List.map AO x.trace) false]:=rfl
structure GrammarCursor where
  s:(List UInt8)
  at_:Int
  deriving DecidableEq
def Tp (x:GrammarCursor):AVal:=.agg [.str x.s,.int .i64 x.at_]
theorem QQ (x:GrammarCursor):Tp x=.agg [.str x.s,.int .i64 x.at_]:=rfl
structure ApiMedia where
  type_:(List UInt8)
  sub:(List UInt8)
  params:(List ApiField)
  deriving DecidableEq
def K6 (x:ApiMedia):AVal:=.agg [.str x.type_,.str x.sub,.slice 2 (List.map Af x.params) false]
theorem Vm (x:ApiMedia):K6 x=.agg [.str x.type_,.str x.sub,.slice 2 (List.map Af x.params) false]:=rfl
structure TokenReader where
  s:(List UInt8)
  at_:Int
  deriving DecidableEq
def WB (x:TokenReader):AVal:=.agg [.str x.s,.int .i64 x.at_]
theorem R5 (x:TokenReader):WB x=.agg [.str x.s,.int .i64 x.at_]:=rfl
structure Utf8textForm where
  mark:Int
  mask:Int
  least:Int
  deriving DecidableEq
def Un (x:Utf8textForm):AVal:=.agg [.int .u8 x.mark,.int .u8 x.mask,.int .i64 x.least]
theorem RB (x:Utf8textForm):Un x=.agg [.int .u8 x.mark,.int .u8 x.mask,.int .i64 x.least]:=rfl
structure ApiToken where
  kind:Int
  text:(List UInt8)
  at_:Int
  deriving DecidableEq
def Ev (x:ApiToken):AVal:=.agg [.int .i64 x.kind,.str x.text,.int .i64 x.at_]
theorem VT (x:ApiToken):Ev x=.agg [.int .i64 x.kind,.str x.text,.int .i64 x.at_]:=rfl
structure ApiValue where
  kind:Int
  text:(List UInt8)
  keys:(List (List UInt8))
  items:(List ApiValue)
mutual
def Al:ApiValue→AVal
  |⟨kind,text,keys,items⟩=>.agg [.int .i64 kind,.str text,.slice 1 (List.map AVal.str keys) false,.slice 4 (Ll items) false]
def Ll:List ApiValue→List AVal
  |[]=>[]
  |x::xs=>Al x::Ll xs
end
theorem TW (l:List ApiValue):Ll l=List.map Al l:=by
  induction l with
  |nil=>rfl
  |cons x l ih=>simp only[Ll,List.map_cons,ih]
theorem FK (x:ApiValue):Al x=.agg [.int .i64 x.kind,.str x.text,.slice 1 (List.map AVal.str x.keys) false,.slice 4 (List.map Al x.items) false]:=by
  cases x;simp only[Al,TW]
structure JrdDecoder where
  e:Int
  deriving DecidableEq
def Xg (x:JrdDecoder):AVal:=.agg [.int .i64 x.e]
theorem TR (x:JrdDecoder):Xg x=.agg [.int .i64 x.e]:=rfl
structure ApiProperty where
  name:(List UInt8)
  value:(List UInt8)
  null:Bool
  deriving DecidableEq
def Dc (x:ApiProperty):AVal:=.agg [.str x.name,.str x.value,.bool x.null]
theorem Sb (x:ApiProperty):Dc x=.agg [.str x.name,.str x.value,.bool x.null]:=rfl
structure ApiLink where
  rel:(List UInt8)
  type_:(List UInt8)
  href:(List UInt8)
  template:(List UInt8)
  titles:(List ApiProperty)
  properties:(List ApiProperty)
  deriving DecidableEq
def FV (x:ApiLink):AVal:=.agg [.str x.rel,.str x.type_,.str x.href,.str x.template,.slice 3 (List.map Dc x.titles) false,.slice 3 (List.map Dc x.properties) false]
theorem WY (x:ApiLink):FV x=.agg [.str x.rel,.str x.type_,.str x.href,.str x.template,.slice 3 (List.map Dc x.titles) false,.slice 3 (List.map Dc x.properties) false]:=rfl
structure ApiJRD where
  subject:(List UInt8)
  aliases:(List (List UInt8))
  properties:(List ApiProperty)
  links:(List ApiLink)
  deriving DecidableEq
def Ls (x:ApiJRD):AVal:=.agg [.str x.subject,.slice 1 (List.map AVal.str x.aliases) false,.slice 3 (List.map Dc x.properties) false,.slice 6 (List.map FV x.links) false]
theorem Za (x:ApiJRD):Ls x=.agg [.str x.subject,.slice 1 (List.map AVal.str x.aliases) false,.slice 3 (List.map Dc x.properties) false,.slice 6 (List.map FV x.links) false]:=rfl
structure ApiFresh where
  store:Bool
  seconds:Int
  deriving DecidableEq
def UE (x:ApiFresh):AVal:=.agg [.bool x.store,.int .u64 x.seconds]
theorem Vg (x:ApiFresh):UE x=.agg [.bool x.store,.int .u64 x.seconds]:=rfl
structure ApiFinding where
  subject:ApiID
  names:(List ApiID)
  via:Int
  fresh:ApiFresh
  trace:(List ApiExchange)
  deriving DecidableEq
def Df (x:ApiFinding):AVal:=.agg [.int .i64 x.subject.kind,.str x.subject.text,.str x.subject.host,.int .i64 x.subject.port,.slice 4 (List.map Ap x.names) false,.int .i64 x.via,.bool x.fresh.store,.int .u64 x.fresh.seconds,.slice 9 (List.map AO x.trace) false]
theorem TH (x:ApiFinding):Df x=.agg [.int .i64 x.subject.kind,.str x.subject.text,.str x.subject.host,.int .i64 x.subject.port,.slice 4 (List.map Ap x.names) false,.int .i64 x.via,.bool x.fresh.store,.int .u64 x.fresh.seconds,.slice 9 (List.map AO x.trace) false]:=rfl
structure StringsSpan where
  start:Int
  end_:Int
  deriving DecidableEq
def KP (x:StringsSpan):AVal:=.agg [.int .i64 x.start,.int .i64 x.end_]
theorem Sg (x:StringsSpan):KP x=.agg [.int .i64 x.start,.int .i64 x.end_]:=rfl
structure ApiWebLink where
  target:(List UInt8)
  rels:(List (List UInt8))
  params:(List ApiField)
  deriving DecidableEq
def JR (x:ApiWebLink):AVal:=.agg [.str x.target,.slice 1 (List.map AVal.str x.rels) false,.slice 2 (List.map Af x.params) false]
theorem Tg (x:ApiWebLink):JR x=.agg [.str x.target,.slice 1 (List.map AVal.str x.rels) false,.slice 2 (List.map Af x.params) false]:=rfl
def Dj:List Utf8textForm:=[(Utf8textForm.mk 0 127 0),(Utf8textForm.mk 192 31 128),(Utf8textForm.mk 224 15 2048),(Utf8textForm.mk 240 7 65536)]
def Jj:List AVal:=[.int .u8 0,.int .u8 127,.int .i64 0,.int .u8 192,.int .u8 31,.int .i64 128,.int .u8 224,.int .u8 15,.int .i64 2048,.int .u8 240,.int .u8 7,.int .i64 65536]
def Aca:List AVal:=[.num .i64]
def vT (g:Nat):Option (List AVal):=if g=1 then some Jj else if g=0 then some Aca else none
instance Ahz:EO (List (List UInt8)) (fun l=>AVal.slice 1 (List.map AVal.str l) false):=⟨⟩
instance AdL:EO ApiAnswer Ag:=⟨⟩
end Go.VM
set_option linter.defProp false
namespace Go.VM
def eE:=And.intro @XT (And.intro @AFy (And.intro @WR (And.intro @SC (And.intro @ACd (And.intro @ACS (And.intro @Y1 (And.intro @RF (And.intro @Vj (And.intro @Xc (And.intro @VE (And.intro @Ud (And.intro @WE (And.intro @SL (And.intro @Sc (And.intro @RA (And.intro @Uh (And.intro @TS (And.intro @Qy (And.intro @QQ (And.intro @Vm (And.intro @R5 (And.intro @RB (And.intro @VT (And.intro @FK (And.intro @TR (And.intro @Sb (And.intro @WY (And.intro @Za (And.intro @Vg (And.intro @TH (And.intro @Sg (@Tg))))))))))))))))))))))))))))))))
end Go.VM
