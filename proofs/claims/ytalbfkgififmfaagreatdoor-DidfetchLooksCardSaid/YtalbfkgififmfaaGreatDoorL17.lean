import Derived.Test.YtalbfkgififmfaaGreatDoorL10
set_option linter.defProp false
set_option maxRecDepth 100000
namespace Go.VM
def Ap4:ER 0 12=true:=by kernel_rfl
def AoN:ER 1 12=true:=by kernel_rfl
def Amc:ER 0 13=true:=by kernel_rfl
def Aom:ER 1 13=true:=by kernel_rfl
end Go.VM
