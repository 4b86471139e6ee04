import Derived.Test.YtgfgogdgnkaedaaGreatDoorL7
set_option maxRecDepth 100000
namespace Go.VM
theorem Akr:F9 0 12=true:=by kernel_rfl
theorem AnJ:F9 1 12=true:=by kernel_rfl
theorem Anp:F9 2 12=true:=by kernel_rfl
theorem Alf:F9 0 13=true:=by kernel_rfl
theorem Amm:F9 1 13=true:=by kernel_rfl
theorem Al9:F9 2 13=true:=by kernel_rfl
theorem Akg:F9 0 14=true:=by kernel_rfl
theorem Amk:F9 1 14=true:=by kernel_rfl
theorem Ant:F9 2 14=true:=by kernel_rfl
theorem Anf:F9 0 15=true:=by kernel_rfl
theorem AkN:F9 1 15=true:=by kernel_rfl
theorem Am9:F9 2 15=true:=by kernel_rfl
end Go.VM
