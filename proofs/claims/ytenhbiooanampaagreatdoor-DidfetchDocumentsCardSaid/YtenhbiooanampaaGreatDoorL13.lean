import Derived.Test.YtenhbiooanampaaGreatDoorL10
set_option linter.defProp false
set_option maxRecDepth 100000
namespace Go.VM
def Awl:Ox 8=true:=by kernel_rfl
def Av0:Ox 9=true:=by kernel_rfl
def AsF:Ox 10=true:=by kernel_rfl
def ApM:Ox 11=true:=by kernel_rfl
def AxZ:(AWl.all λt=>match FH 1099511627776 t with|some y=>if(y.1.kind==4)=true then AfD.contains t else true|none=>false)=true:=by kernel_rfl
end Go.VM
