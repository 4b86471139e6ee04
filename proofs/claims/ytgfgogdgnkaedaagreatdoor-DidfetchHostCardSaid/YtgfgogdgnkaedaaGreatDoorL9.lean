import Derived.Test.YtgfgogdgnkaedaaGreatDoorL7
set_option maxRecDepth 100000
namespace Go.VM
theorem ArN:F9 0 4=true:=by kernel_rfl
theorem ApR:F9 1 4=true:=by kernel_rfl
theorem Arm:F9 2 4=true:=by kernel_rfl
theorem ArW:F9 0 5=true:=by kernel_rfl
theorem Arq:F9 1 5=true:=by kernel_rfl
theorem AqX:F9 2 5=true:=by kernel_rfl
theorem AqJ:F9 0 6=true:=by kernel_rfl
theorem ArI:F9 1 6=true:=by kernel_rfl
theorem Arn:F9 2 6=true:=by kernel_rfl
theorem Ao0:F9 0 7=true:=by kernel_rfl
theorem ArE:F9 1 7=true:=by kernel_rfl
theorem Aq6:F9 2 7=true:=by kernel_rfl
end Go.VM
