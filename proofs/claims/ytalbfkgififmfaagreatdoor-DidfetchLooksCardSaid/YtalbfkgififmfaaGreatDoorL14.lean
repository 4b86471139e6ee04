import Derived.Test.YtalbfkgififmfaaGreatDoorL10
set_option linter.defProp false
set_option maxRecDepth 100000
namespace Go.VM
def Asm:ER 0 6=true:=by kernel_rfl
def Awn:ER 1 6=true:=by kernel_rfl
def AuN:ER 0 7=true:=by kernel_rfl
def Aua:ER 1 7=true:=by kernel_rfl
end Go.VM
