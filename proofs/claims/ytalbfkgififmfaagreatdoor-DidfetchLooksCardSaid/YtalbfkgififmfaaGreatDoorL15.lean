import Derived.Test.YtalbfkgififmfaaGreatDoorL10
set_option linter.defProp false
set_option maxRecDepth 100000
namespace Go.VM
def Ata:ER 0 8=true:=by kernel_rfl
def As9:ER 1 8=true:=by kernel_rfl
def Awy:ER 0 9=true:=by kernel_rfl
def Avb:ER 1 9=true:=by kernel_rfl
end Go.VM
