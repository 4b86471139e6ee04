import Derived.Test.YtalbfkgififmfaaGreatDoorL10
set_option linter.defProp false
set_option maxRecDepth 100000
namespace Go.VM
def AlN:ER 0 10=true:=by kernel_rfl
def Aq1:ER 1 10=true:=by kernel_rfl
def ApN:ER 0 11=true:=by kernel_rfl
def AoH:ER 1 11=true:=by kernel_rfl
end Go.VM
