import Derived.Test.YtalbfkgififmfaaGreatDoorL10
set_option linter.defProp false
set_option maxRecDepth 100000
namespace Go.VM
def Aww:ER 0 4=true:=by kernel_rfl
def Awb:ER 1 4=true:=by kernel_rfl
def AwN:ER 0 5=true:=by kernel_rfl
def Avu:ER 1 5=true:=by kernel_rfl
def A09:(Aao.all λt=>match EH 1099511627776 t with|some y=>if(y.1.kind==4)=true then Adq.contains t else true|none=>false)=true:=by kernel_rfl
end Go.VM
