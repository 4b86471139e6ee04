import Derived.Test.YtjgdhjpafjpjgaaGreatDoorVM2
set_option linter.unusedVariables false
namespace Go.VM
structure ApiAcct where
  user:(List UInt8)
  host:(List UInt8)
  deriving DecidableEq
def Ku (x:ApiAcct):AVal:=.agg [.str x.user,.str x.host]
theorem Tk (x:ApiAcct):Ku x=.agg [.str x.user,.str x.host]:=rfl
structure ApiID where
  kind:Int
  text:(List UInt8)
  host:(List UInt8)
  port:Int
  deriving DecidableEq
def Bz (x:ApiID):AVal:=.agg [.int .i64 x.kind,.str x.text,.str x.host,.int .i64 x.port]
theorem NP (x:ApiID):Bz x=.agg [.int .i64 x.kind,.str x.text,.str x.host,.int .i64 x.port]:=rfl
structure ApiMail where
  local_:(List UInt8)
  host:(List UInt8)
  deriving DecidableEq
def KW (x:ApiMail):AVal:=.agg [.str x.local_,.str x.host]
theorem Ud (x:ApiMail):KW x=.agg [.str x.local_,.str x.host]:=rfl
structure ApiHostPort where
  host:(List UInt8)
  port:Int
  deriving DecidableEq
def DN (x:ApiHostPort):AVal:=.agg [.str x.host,.int .i64 x.port]
theorem PH (x:ApiHostPort):DN x=.agg [.str x.host,.int .i64 x.port]:=rfl
structure ApiURL where
  host:(List UInt8)
  port:Int
  path:(List UInt8)
  query:(List UInt8)
  fragment:(List UInt8)
  hasQuery:Bool
  hasFrag:Bool
  deriving DecidableEq
def Bl (x:ApiURL):AVal:=.agg [.str x.host,.int .i64 x.port,.str x.path,.str x.query,.str x.fragment,.bool x.hasQuery,.bool x.hasFrag]
theorem Xg (x:ApiURL):Bl x=.agg [.str x.host,.int .i64 x.port,.str x.path,.str x.query,.str x.fragment,.bool x.hasQuery,.bool x.hasFrag]:=rfl
structure ApiURI where
  scheme:(List UInt8)
  authority:(List UInt8)
  path:(List UInt8)
  query:(List UInt8)
  fragment:(List UInt8)
  hasScheme:Bool
  hasAuthority:Bool
  hasQuery:Bool
  hasFrag:Bool
  deriving DecidableEq
def QP (x:ApiURI):AVal:=.agg [.str x.scheme,.str x.authority,.str x.path,.str x.query,.str x.fragment,.bool x.hasScheme,.bool x.hasAuthority,.bool x.hasQuery,.bool x.hasFrag]
theorem Yz (x:ApiURI):QP x=.agg [.str x.scheme,.str x.authority,.str x.path,.str x.query,.str x.fragment,.bool x.hasScheme,.bool x.hasAuthority,.bool x.hasQuery,.bool x.hasFrag]:=rfl
structure ApiDID where
  method:(List UInt8)
  iD:(List UInt8)
  deriving DecidableEq
def Dz (x:ApiDID):AVal:=.agg [.str x.method,.str x.iD]
theorem VY (x:ApiDID):Dz x=.agg [.str x.method,.str x.iD]:=rfl
structure StringsBuilder where
  addr:Bool
  buf:(List UInt8)
  deriving DecidableEq
structure DidwebMapper where
  e:Int
  deriving DecidableEq
def RP (x:DidwebMapper):AVal:=.agg [.int .i64 x.e]
theorem O6 (x:DidwebMapper):RP x=.agg [.int .i64 x.e]:=rfl
structure MadeDice where
  l:(List Int)
  deriving DecidableEq
def ADr (x:MadeDice):AVal:=.agg [.slice 1 (List.map (AVal.int .u8) x.l) false]
theorem Su (x:MadeDice):ADr x=.agg [.slice 1 (List.map (AVal.int .u8) x.l) false]:=rfl
def vT (g:Nat):Option (List AVal):=none
end Go.VM
set_option linter.defProp false
namespace Go.VM
def eE:=And.intro @Tk (And.intro @NP (And.intro @Ud (And.intro @PH (And.intro @Xg (And.intro @Yz (And.intro @VY (And.intro @O6 (@Su))))))))
end Go.VM
