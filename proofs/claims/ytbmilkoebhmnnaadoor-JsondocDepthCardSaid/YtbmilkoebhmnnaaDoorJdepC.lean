/- Texts nested up to 69 times: objects up to 69 times. -/
import Derived.Test.YtbmilkoebhmnnaaDoorDefs
import Derived.KernelRfl
set_option maxRecDepth 100000
namespace Go.VM
theorem dep_o59 : ((List.range 60).drop 59).all (fun k => law14_JsondocDepth 1099511627776 ((k : Nat) : Int) true == some true) = true := by kernel_rfl
theorem dep_o60 : ((List.range 61).drop 60).all (fun k => law14_JsondocDepth 1099511627776 ((k : Nat) : Int) true == some true) = true := by kernel_rfl
theorem dep_o61 : ((List.range 62).drop 61).all (fun k => law14_JsondocDepth 1099511627776 ((k : Nat) : Int) true == some true) = true := by kernel_rfl
theorem dep_o62 : ((List.range 63).drop 62).all (fun k => law14_JsondocDepth 1099511627776 ((k : Nat) : Int) true == some true) = true := by kernel_rfl
theorem dep_o63 : ((List.range 64).drop 63).all (fun k => law14_JsondocDepth 1099511627776 ((k : Nat) : Int) true == some true) = true := by kernel_rfl
theorem dep_o64 : ((List.range 65).drop 64).all (fun k => law14_JsondocDepth 1099511627776 ((k : Nat) : Int) true == some true) = true := by kernel_rfl
theorem dep_o65 : ((List.range 66).drop 65).all (fun k => law14_JsondocDepth 1099511627776 ((k : Nat) : Int) true == some true) = true := by kernel_rfl
theorem dep_o66 : ((List.range 67).drop 66).all (fun k => law14_JsondocDepth 1099511627776 ((k : Nat) : Int) true == some true) = true := by kernel_rfl
theorem dep_o67 : ((List.range 68).drop 67).all (fun k => law14_JsondocDepth 1099511627776 ((k : Nat) : Int) true == some true) = true := by kernel_rfl
theorem dep_o68 : ((List.range 69).drop 68).all (fun k => law14_JsondocDepth 1099511627776 ((k : Nat) : Int) true == some true) = true := by kernel_rfl
theorem dep_o69 : ((List.range 70).drop 69).all (fun k => law14_JsondocDepth 1099511627776 ((k : Nat) : Int) true == some true) = true := by kernel_rfl
end Go.VM
