import Derived.Test.YtalbfkgififmfaaGreatDoorL10
set_option linter.defProp false
set_option maxRecDepth 100000
namespace Go.VM
def Att:ER 0 2=true:=by kernel_rfl
def Ass:ER 1 2=true:=by kernel_rfl
def Av6:ER 0 3=true:=by kernel_rfl
def Ava:ER 1 3=true:=by kernel_rfl
def A3Y:(Adq.all λt=>idX 1099511627776 t)=true:=by kernel_rfl
end Go.VM
