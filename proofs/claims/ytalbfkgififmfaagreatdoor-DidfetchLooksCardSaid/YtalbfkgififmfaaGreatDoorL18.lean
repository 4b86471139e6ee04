import Derived.Test.YtalbfkgififmfaaGreatDoorL10
set_option linter.defProp false
set_option maxRecDepth 100000
namespace Go.VM
def AoV:ER 0 14=true:=by kernel_rfl
def Aoo:ER 1 14=true:=by kernel_rfl
def Aml:ER 0 15=true:=by kernel_rfl
def ApQ:ER 1 15=true:=by kernel_rfl
end Go.VM
