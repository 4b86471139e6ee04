import Derived.Test.YtfcejbjjeaaleaaGreatDoorVM2
set_option linter.defProp false
set_option linter.unusedVariables false
namespace Go.VM
structure ApiAcct where
  user:B8
  host:B8
  deriving DecidableEq
def Qv (x:ApiAcct):AVal:=.agg [.str x.user,.str x.host]
theorem AEm (x:ApiAcct):Qv x=.agg [.str x.user,.str x.host]:=rfl
structure ApiID where
  kind:Int
  text:B8
  host:B8
  port:Int
  deriving DecidableEq
def BF (x:ApiID):AVal:=.agg [.int .i64 x.kind,.str x.text,.str x.host,.int .i64 x.port]
theorem UT (x:ApiID):BF x=.agg [.int .i64 x.kind,.str x.text,.str x.host,.int .i64 x.port]:=rfl
structure ApiMail where
  local_:B8
  host:B8
  deriving DecidableEq
def Ql (x:ApiMail):AVal:=.agg [.str x.local_,.str x.host]
theorem AEl (x:ApiMail):Ql x=.agg [.str x.local_,.str x.host]:=rfl
structure ApiHostPort where
  host:B8
  port:Int
  deriving DecidableEq
def FT (x:ApiHostPort):AVal:=.agg [.str x.host,.int .i64 x.port]
theorem YT (x:ApiHostPort):FT x=.agg [.str x.host,.int .i64 x.port]:=rfl
structure ApiURL where
  host:B8
  port:Int
  path:B8
  query:B8
  fragment:B8
  hasQuery:Bool
  hasFrag:Bool
  deriving DecidableEq
def FK (x:ApiURL):AVal:=.agg [.str x.host,.int .i64 x.port,.str x.path,.str x.query,.str x.fragment,.bool x.hasQuery,.bool x.hasFrag]
theorem AGf (x:ApiURL):FK x=.agg [.str x.host,.int .i64 x.port,.str x.path,.str x.query,.str x.fragment,.bool x.hasQuery,.bool x.hasFrag]:=rfl
structure ApiURI where
  scheme:B8
  authority:B8
  path:B8
  query:B8
  fragment:B8
  hasScheme:Bool
  hasAuthority:Bool
  hasQuery:Bool
  hasFrag:Bool
  deriving DecidableEq
def ZP (x:ApiURI):AVal:=.agg [.str x.scheme,.str x.authority,.str x.path,.str x.query,.str x.fragment,.bool x.hasScheme,.bool x.hasAuthority,.bool x.hasQuery,.bool x.hasFrag]
theorem AJg (x:ApiURI):ZP x=.agg [.str x.scheme,.str x.authority,.str x.path,.str x.query,.str x.fragment,.bool x.hasScheme,.bool x.hasAuthority,.bool x.hasQuery,.bool x.hasFrag]:=rfl
structure StringsBuilder where
  addr:Bool
  buf:B8
  deriving DecidableEq
structure ApiDID where
  method:B8
  iD:B8
  deriving DecidableEq
def Gv (x:ApiDID):AVal:=.agg [.str x.method,.str x.iD]
theorem AHT (x:ApiDID):Gv x=.agg [.str x.method,.str x.iD]:=rfl
structure DidwebMapper where
  e:Int
  deriving DecidableEq
def AAt (x:DidwebMapper):AVal:=.agg [.int .i64 x.e]
theorem Wi (x:DidwebMapper):AAt x=.agg [.int .i64 x.e]:=rfl
structure ApiField where
  name:B8
  value:B8
  deriving DecidableEq
def Cu (x:ApiField):AVal:=.agg [.str x.name,.str x.value]
theorem Uv (x:ApiField):Cu x=.agg [.str x.name,.str x.value]:=rfl
structure ApiHead where
  minor:Int
  status:Int
  fields:(List ApiField)
  deriving DecidableEq
def MH (x:ApiHead):AVal:=.agg [.int .i64 x.minor,.int .i64 x.status,.slice 2 (List.map Cu x.fields) false]
theorem AEB (x:ApiHead):MH x=.agg [.int .i64 x.minor,.int .i64 x.status,.slice 2 (List.map Cu x.fields) false]:=rfl
structure ApiExchange where
  uRL:ApiURL
  status:Int
  err:Int
  deriving DecidableEq
def Ep (x:ApiExchange):AVal:=.agg [.str x.uRL.host,.int .i64 x.uRL.port,.str x.uRL.path,.str x.uRL.query,.str x.uRL.fragment,.bool x.uRL.hasQuery,.bool x.uRL.hasFrag,.int .i64 x.status,.int .i64 x.err]
theorem Rc (x:ApiExchange):Ep x=.agg [.str x.uRL.host,.int .i64 x.uRL.port,.str x.uRL.path,.str x.uRL.query,.str x.uRL.fragment,.bool x.uRL.hasQuery,.bool x.uRL.hasFrag,.int .i64 x.status,.int .i64 x.err]:=rfl
structure MadeDice where
  l:(List Int)
  deriving DecidableEq
def ARy (x:MadeDice):AVal:=.agg [.slice 1 (List.map (AVal.int .u8) x.l) false]
theorem ACb (x:MadeDice):ARy x=.agg [.slice 1 (List.map (AVal.int .u8) x.l) false]:=rfl
structure GrammarCursor where
  s:B8
  at_:Int
  deriving DecidableEq
def Z7 (x:GrammarCursor):AVal:=.agg [.str x.s,.int .i64 x.at_]
theorem Vx (x:GrammarCursor):Z7 x=.agg [.str x.s,.int .i64 x.at_]:=rfl
structure ApiMedia where
  type_:B8
  sub:B8
  params:(List ApiField)
  deriving DecidableEq
def Jn (x:ApiMedia):AVal:=.agg [.str x.type_,.str x.sub,.slice 2 (List.map Cu x.params) false]
theorem ABo (x:ApiMedia):Jn x=.agg [.str x.type_,.str x.sub,.slice 2 (List.map Cu x.params) false]:=rfl
structure TokenReader where
  s:B8
  at_:Int
  deriving DecidableEq
def ADb (x:TokenReader):AVal:=.agg [.str x.s,.int .i64 x.at_]
theorem YC (x:TokenReader):ADb x=.agg [.str x.s,.int .i64 x.at_]:=rfl
structure Utf8textForm where
  mark:Int
  mask:Int
  least:Int
  deriving DecidableEq
def AA2 (x:Utf8textForm):AVal:=.agg [.int .u8 x.mark,.int .u8 x.mask,.int .i64 x.least]
theorem XD (x:Utf8textForm):AA2 x=.agg [.int .u8 x.mark,.int .u8 x.mask,.int .i64 x.least]:=rfl
structure ApiToken where
  kind:Int
  text:B8
  at_:Int
  deriving DecidableEq
def El (x:ApiToken):AVal:=.agg [.int .i64 x.kind,.str x.text,.int .i64 x.at_]
theorem ADK (x:ApiToken):El x=.agg [.int .i64 x.kind,.str x.text,.int .i64 x.at_]:=rfl
structure ApiValue where
  kind:Int
  text:B8
  keys:(List B8)
  items:(List ApiValue)
mutual
def AV:ApiValue->AVal
  |⟨kind,text,keys,items⟩=>.agg [.int .i64 kind,.str text,.slice 1 (List.map AVal.str keys) false,.slice 4 (P9 items) false]
def P9:List ApiValue->List AVal
  |[]=>[]
  |x::xs=>AV x::P9 xs
end
def ZY (l:List ApiValue):P9 l=List.map AV l:=by
  induction l with
  |nil=>rfl
  |cons x l ih=>simp only[P9,aE,ih]
def JN (x:ApiValue):AV x=.agg [.int .i64 x.kind,.str x.text,.slice 1 (List.map AVal.str x.keys) false,.slice 4 (List.map AV x.items) false]:=by
  cases x;simp only[AV,ZY]
structure JrdDecoder where
  e:Int
  deriving DecidableEq
def AEi (x:JrdDecoder):AVal:=.agg [.int .i64 x.e]
theorem Z4 (x:JrdDecoder):AEi x=.agg [.int .i64 x.e]:=rfl
structure ApiProperty where
  name:B8
  value:B8
  null:Bool
  deriving DecidableEq
def DI (x:ApiProperty):AVal:=.agg [.str x.name,.str x.value,.bool x.null]
theorem X0 (x:ApiProperty):DI x=.agg [.str x.name,.str x.value,.bool x.null]:=rfl
structure ApiLink where
  rel:B8
  type_:B8
  href:B8
  template:B8
  titles:(List ApiProperty)
  properties:(List ApiProperty)
  deriving DecidableEq
def EG (x:ApiLink):AVal:=.agg [.str x.rel,.str x.type_,.str x.href,.str x.template,.slice 3 (List.map DI x.titles) false,.slice 3 (List.map DI x.properties) false]
theorem AEU (x:ApiLink):EG x=.agg [.str x.rel,.str x.type_,.str x.href,.str x.template,.slice 3 (List.map DI x.titles) false,.slice 3 (List.map DI x.properties) false]:=rfl
structure ApiJRD where
  subject:B8
  aliases:(List B8)
  properties:(List ApiProperty)
  links:(List ApiLink)
  deriving DecidableEq
def MV (x:ApiJRD):AVal:=.agg [.str x.subject,.slice 1 (List.map AVal.str x.aliases) false,.slice 3 (List.map DI x.properties) false,.slice 6 (List.map EG x.links) false]
theorem AHx (x:ApiJRD):MV x=.agg [.str x.subject,.slice 1 (List.map AVal.str x.aliases) false,.slice 3 (List.map DI x.properties) false,.slice 6 (List.map EG x.links) false]:=rfl
structure ApiResponse where
  uRL:ApiURL
  head:ApiHead
  body:B8
  trace:(List ApiExchange)
  deriving DecidableEq
def Gj (x:ApiResponse):AVal:=.agg [.str x.uRL.host,.int .i64 x.uRL.port,.str x.uRL.path,.str x.uRL.query,.str x.uRL.fragment,.bool x.uRL.hasQuery,.bool x.uRL.hasFrag,.int .i64 x.head.minor,.int .i64 x.head.status,.slice 2 (List.map Cu x.head.fields) false,.str x.body,.slice 9 (List.map Ep x.trace) false]
theorem N9 (x:ApiResponse):Gj x=.agg [.str x.uRL.host,.int .i64 x.uRL.port,.str x.uRL.path,.str x.uRL.query,.str x.uRL.fragment,.bool x.uRL.hasQuery,.bool x.uRL.hasFrag,.int .i64 x.head.minor,.int .i64 x.head.status,.slice 2 (List.map Cu x.head.fields) false,.str x.body,.slice 9 (List.map Ep x.trace) false]:=rfl
structure ApiFresh where
  store:Bool
  seconds:Int
  deriving DecidableEq
def UF (x:ApiFresh):AVal:=.agg [.bool x.store,.int .u64 x.seconds]
theorem AB6 (x:ApiFresh):UF x=.agg [.bool x.store,.int .u64 x.seconds]:=rfl
structure ApiFinding where
  subject:ApiID
  names:(List ApiID)
  via:Int
  fresh:ApiFresh
  trace:(List ApiExchange)
  deriving DecidableEq
def Mw (x:ApiFinding):AVal:=.agg [.int .i64 x.subject.kind,.str x.subject.text,.str x.subject.host,.int .i64 x.subject.port,.slice 4 (List.map BF x.names) false,.int .i64 x.via,.bool x.fresh.store,.int .u64 x.fresh.seconds,.slice 9 (List.map Ep x.trace) false]
theorem ZQ (x:ApiFinding):Mw x=.agg [.int .i64 x.subject.kind,.str x.subject.text,.str x.subject.host,.int .i64 x.subject.port,.slice 4 (List.map BF x.names) false,.int .i64 x.via,.bool x.fresh.store,.int .u64 x.fresh.seconds,.slice 9 (List.map Ep x.trace) false]:=rfl
structure Ref14Parser where
  s:B8
  at_:Int
  nodes:Int
  fail:Int
  where_:Int
  deriving DecidableEq
def AB5 (x:Ref14Parser):AVal:=.agg [.str x.s,.int .i64 x.at_,.int .i64 x.nodes,.int .i64 x.fail,.int .i64 x.where_]
theorem Xo (x:Ref14Parser):AB5 x=.agg [.str x.s,.int .i64 x.at_,.int .i64 x.nodes,.int .i64 x.fail,.int .i64 x.where_]:=rfl
structure Ref16Reader where
  fail:Int
  deriving DecidableEq
def ACA (x:Ref16Reader):AVal:=.agg [.int .i64 x.fail]
theorem Yg (x:Ref16Reader):ACA x=.agg [.int .i64 x.fail]:=rfl
def Aw:List Utf8textForm:=[(Utf8textForm.mk 0 127 0),(Utf8textForm.mk 192 31 128),(Utf8textForm.mk 224 15 2048),(Utf8textForm.mk 240 7 65536)]
def NB:List AVal:=[.int .u8 0,.int .u8 127,.int .i64 0,.int .u8 192,.int .u8 31,.int .i64 128,.int .u8 224,.int .u8 15,.int .i64 2048,.int .u8 240,.int .u8 7,.int .i64 65536]
def Al9:List AVal:=[.num .i64]
def vT (g:Nat):Option (List AVal):=if g=1 then some NB else if g=0 then some Al9 else none
instance AtV:EO ApiID BF:=⟨⟩
end Go.VM
set_option linter.defProp false
namespace Go.VM
def eE:=ac @AEm (ac @UT (ac @AEl (ac @YT (ac @AGf (ac @AJg (ac @AHT (ac @Wi (ac @AEB (ac @Uv (ac @Rc (ac @ACb (ac @Vx (ac @ABo (ac @YC (ac @XD (ac @ADK (ac @JN (ac @Z4 (ac @X0 (ac @AEU (ac @AHx (ac @N9 (ac @AB6 (ac @ZQ (ac @Xo (@Yg))))))))))))))))))))))))))
end Go.VM
