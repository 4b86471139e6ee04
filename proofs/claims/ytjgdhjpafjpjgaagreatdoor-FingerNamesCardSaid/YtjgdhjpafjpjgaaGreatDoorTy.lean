import Derived.Test.YtjgdhjpafjpjgaaGreatDoorVM2
set_option linter.unusedVariables false
namespace Go.VM
structure ApiAcct where
  user:(List UInt8)
  host:(List UInt8)
  deriving DecidableEq
def LA (x:ApiAcct):AVal:=.agg [.str x.user,.str x.host]
theorem Um (x:ApiAcct):LA x=.agg [.str x.user,.str x.host]:=rfl
structure ApiID where
  kind:Int
  text:(List UInt8)
  host:(List UInt8)
  port:Int
  deriving DecidableEq
def A9 (x:ApiID):AVal:=.agg [.int .i64 x.kind,.str x.text,.str x.host,.int .i64 x.port]
theorem OG (x:ApiID):A9 x=.agg [.int .i64 x.kind,.str x.text,.str x.host,.int .i64 x.port]:=rfl
structure ApiMail where
  local_:(List UInt8)
  host:(List UInt8)
  deriving DecidableEq
def K6 (x:ApiMail):AVal:=.agg [.str x.local_,.str x.host]
theorem Uu (x:ApiMail):K6 x=.agg [.str x.local_,.str x.host]:=rfl
structure ApiHostPort where
  host:(List UInt8)
  port:Int
  deriving DecidableEq
def DY (x:ApiHostPort):AVal:=.agg [.str x.host,.int .i64 x.port]
theorem QG (x:ApiHostPort):DY x=.agg [.str x.host,.int .i64 x.port]:=rfl
structure ApiURL where
  host:(List UInt8)
  port:Int
  path:(List UInt8)
  query:(List UInt8)
  fragment:(List UInt8)
  hasQuery:Bool
  hasFrag:Bool
  deriving DecidableEq
def Dt (x:ApiURL):AVal:=.agg [.str x.host,.int .i64 x.port,.str x.path,.str x.query,.str x.fragment,.bool x.hasQuery,.bool x.hasFrag]
theorem AAc (x:ApiURL):Dt x=.agg [.str x.host,.int .i64 x.port,.str x.path,.str x.query,.str x.fragment,.bool x.hasQuery,.bool x.hasFrag]:=rfl
structure ApiURI where
  scheme:(List UInt8)
  authority:(List UInt8)
  path:(List UInt8)
  query:(List UInt8)
  fragment:(List UInt8)
  hasScheme:Bool
  hasAuthority:Bool
  hasQuery:Bool
  hasFrag:Bool
  deriving DecidableEq
def RH (x:ApiURI):AVal:=.agg [.str x.scheme,.str x.authority,.str x.path,.str x.query,.str x.fragment,.bool x.hasScheme,.bool x.hasAuthority,.bool x.hasQuery,.bool x.hasFrag]
theorem XT (x:ApiURI):RH x=.agg [.str x.scheme,.str x.authority,.str x.path,.str x.query,.str x.fragment,.bool x.hasScheme,.bool x.hasAuthority,.bool x.hasQuery,.bool x.hasFrag]:=rfl
structure ApiDID where
  method:(List UInt8)
  iD:(List UInt8)
  deriving DecidableEq
def EF (x:ApiDID):AVal:=.agg [.str x.method,.str x.iD]
theorem XZ (x:ApiDID):EF x=.agg [.str x.method,.str x.iD]:=rfl
structure StringsBuilder where
  addr:Bool
  buf:(List UInt8)
  deriving DecidableEq
structure DidwebMapper where
  e:Int
  deriving DecidableEq
def SE (x:DidwebMapper):AVal:=.agg [.int .i64 x.e]
theorem Pg (x:DidwebMapper):SE x=.agg [.int .i64 x.e]:=rfl
structure MadeDice where
  l:(List Int)
  deriving DecidableEq
def ADe (x:MadeDice):AVal:=.agg [.slice 1 (List.map (AVal.int .u8) x.l) false]
theorem TY (x:MadeDice):ADe x=.agg [.slice 1 (List.map (AVal.int .u8) x.l) false]:=rfl
structure ApiProperty where
  name:(List UInt8)
  value:(List UInt8)
  null:Bool
  deriving DecidableEq
def AY (x:ApiProperty):AVal:=.agg [.str x.name,.str x.value,.bool x.null]
theorem Gm (x:ApiProperty):AY x=.agg [.str x.name,.str x.value,.bool x.null]:=rfl
structure ApiLink where
  rel:(List UInt8)
  type_:(List UInt8)
  href:(List UInt8)
  template:(List UInt8)
  titles:(List ApiProperty)
  properties:(List ApiProperty)
  deriving DecidableEq
def Aw (x:ApiLink):AVal:=.agg [.str x.rel,.str x.type_,.str x.href,.str x.template,.slice 3 (List.map AY x.titles) false,.slice 3 (List.map AY x.properties) false]
theorem Ow (x:ApiLink):Aw x=.agg [.str x.rel,.str x.type_,.str x.href,.str x.template,.slice 3 (List.map AY x.titles) false,.slice 3 (List.map AY x.properties) false]:=rfl
structure ApiJRD where
  subject:(List UInt8)
  aliases:(List (List UInt8))
  properties:(List ApiProperty)
  links:(List ApiLink)
  deriving DecidableEq
def Hm (x:ApiJRD):AVal:=.agg [.str x.subject,.slice 1 (List.map AVal.str x.aliases) false,.slice 3 (List.map AY x.properties) false,.slice 6 (List.map Aw x.links) false]
theorem Mf (x:ApiJRD):Hm x=.agg [.str x.subject,.slice 1 (List.map AVal.str x.aliases) false,.slice 3 (List.map AY x.properties) false,.slice 6 (List.map Aw x.links) false]:=rfl
def vT (g:Nat):Option (List AVal):=none
end Go.VM
set_option linter.defProp false
namespace Go.VM
def eE:=And.intro @Um (And.intro @OG (And.intro @Uu (And.intro @QG (And.intro @AAc (And.intro @XT (And.intro @XZ (And.intro @Pg (And.intro @TY (And.intro @Mf (And.intro @Gm (@Ow)))))))))))
end Go.VM
