import Derived.Test.YtenhbiooanampaaGreatDoorL10
set_option linter.defProp false
set_option maxRecDepth 100000
namespace Go.VM
def Avt:Ox 4=true:=by kernel_rfl
def Auh:Ox 5=true:=by kernel_rfl
def Aue:Ox 6=true:=by kernel_rfl
def Aui:Ox 7=true:=by kernel_rfl
def Azy:(AfD.all λt=>idU 1099511627776 t)=true:=by kernel_rfl
end Go.VM
