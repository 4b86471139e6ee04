import Derived.Test.YtgfgogdgnkaedaaGreatDoorL7
set_option maxRecDepth 100000
namespace Go.VM
theorem ApN:F9 0 8=true:=by kernel_rfl
theorem AqR:F9 1 8=true:=by kernel_rfl
theorem ArK:F9 2 8=true:=by kernel_rfl
theorem Ar6:F9 0 9=true:=by kernel_rfl
theorem Ao7:F9 1 9=true:=by kernel_rfl
theorem Ari:F9 2 9=true:=by kernel_rfl
theorem Alu:F9 0 10=true:=by kernel_rfl
theorem AkS:F9 1 10=true:=by kernel_rfl
theorem AnE:F9 2 10=true:=by kernel_rfl
theorem AnH:F9 0 11=true:=by kernel_rfl
theorem Ak3:F9 1 11=true:=by kernel_rfl
theorem Ala:F9 2 11=true:=by kernel_rfl
end Go.VM
