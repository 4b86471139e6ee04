import Derived.Test.YtenhbiooanampaaGreatDoorL10
set_option linter.defProp false
set_option maxRecDepth 100000
namespace Go.VM
def App:Ox 12=true:=by kernel_rfl
def AsC:Ox 13=true:=by kernel_rfl
def Apl:Ox 14=true:=by kernel_rfl
def Ar1:Ox 15=true:=by kernel_rfl
end Go.VM
