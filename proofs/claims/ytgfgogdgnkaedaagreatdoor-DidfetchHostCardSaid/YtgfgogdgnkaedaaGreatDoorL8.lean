import Derived.Test.YtgfgogdgnkaedaaGreatDoorL7
set_option maxRecDepth 100000
namespace Go.VM
theorem Aqn:F9 0 0=true:=by kernel_rfl
theorem ApJ:F9 1 0=true:=by kernel_rfl
theorem ArM:F9 2 0=true:=by kernel_rfl
theorem Api:F9 0 1=true:=by kernel_rfl
theorem Aq0:F9 1 1=true:=by kernel_rfl
theorem Ar2:F9 2 1=true:=by kernel_rfl
theorem Ars:F9 0 2=true:=by kernel_rfl
theorem Ap9:F9 1 2=true:=by kernel_rfl
theorem AqI:F9 2 2=true:=by kernel_rfl
theorem Aqe:F9 0 3=true:=by kernel_rfl
theorem Ap2:F9 1 3=true:=by kernel_rfl
theorem ApI:F9 2 3=true:=by kernel_rfl
end Go.VM
