import Derived.Test.YtenhbiooanampaaGreatDoorL10
set_option linter.defProp false
set_option maxRecDepth 100000
namespace Go.VM
def Au1:Ox 0=true:=by kernel_rfl
def AxC:Ox 1=true:=by kernel_rfl
def Awt:Ox 2=true:=by kernel_rfl
def AvR:Ox 3=true:=by kernel_rfl
def Aur:AsW 1099511627776 Yg=true:=by kernel_rfl
def AzP:(ACD 1099511627776 Ave&&ACD 1099511627776 Aum)=true:=by kernel_rfl
end Go.VM
