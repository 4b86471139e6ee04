import Derived.Test.YtalbfkgififmfaaGreatDoorL10
set_option linter.defProp false
set_option maxRecDepth 100000
namespace Go.VM
def Atq:ER 0 0=true:=by kernel_rfl
def Awr:ER 1 0=true:=by kernel_rfl
def AtT:ER 0 1=true:=by kernel_rfl
def Auq:ER 1 1=true:=by kernel_rfl
def A3s:(AC6 1099511627776 AyD&&AC6 1099511627776 A0F)=true:=by kernel_rfl
end Go.VM
