/- Texts nested up to 69 times: objects up to 58 times. -/
import Derived.Test.YtbmilkoebhmnnaaDoorDefs
import Derived.KernelRfl
set_option maxRecDepth 100000
namespace Go.VM
theorem dep_o45 : ((List.range 46).drop 45).all (fun k => law14_JsondocDepth 1099511627776 ((k : Nat) : Int) true == some true) = true := by kernel_rfl
theorem dep_o46 : ((List.range 47).drop 46).all (fun k => law14_JsondocDepth 1099511627776 ((k : Nat) : Int) true == some true) = true := by kernel_rfl
theorem dep_o47 : ((List.range 48).drop 47).all (fun k => law14_JsondocDepth 1099511627776 ((k : Nat) : Int) true == some true) = true := by kernel_rfl
theorem dep_o48 : ((List.range 49).drop 48).all (fun k => law14_JsondocDepth 1099511627776 ((k : Nat) : Int) true == some true) = true := by kernel_rfl
theorem dep_o49 : ((List.range 50).drop 49).all (fun k => law14_JsondocDepth 1099511627776 ((k : Nat) : Int) true == some true) = true := by kernel_rfl
theorem dep_o50 : ((List.range 51).drop 50).all (fun k => law14_JsondocDepth 1099511627776 ((k : Nat) : Int) true == some true) = true := by kernel_rfl
theorem dep_o51 : ((List.range 52).drop 51).all (fun k => law14_JsondocDepth 1099511627776 ((k : Nat) : Int) true == some true) = true := by kernel_rfl
theorem dep_o52 : ((List.range 53).drop 52).all (fun k => law14_JsondocDepth 1099511627776 ((k : Nat) : Int) true == some true) = true := by kernel_rfl
theorem dep_o53 : ((List.range 54).drop 53).all (fun k => law14_JsondocDepth 1099511627776 ((k : Nat) : Int) true == some true) = true := by kernel_rfl
theorem dep_o54 : ((List.range 55).drop 54).all (fun k => law14_JsondocDepth 1099511627776 ((k : Nat) : Int) true == some true) = true := by kernel_rfl
theorem dep_o55 : ((List.range 56).drop 55).all (fun k => law14_JsondocDepth 1099511627776 ((k : Nat) : Int) true == some true) = true := by kernel_rfl
theorem dep_o56 : ((List.range 57).drop 56).all (fun k => law14_JsondocDepth 1099511627776 ((k : Nat) : Int) true == some true) = true := by kernel_rfl
theorem dep_o57 : ((List.range 58).drop 57).all (fun k => law14_JsondocDepth 1099511627776 ((k : Nat) : Int) true == some true) = true := by kernel_rfl
theorem dep_o58 : ((List.range 59).drop 58).all (fun k => law14_JsondocDepth 1099511627776 ((k : Nat) : Int) true == some true) = true := by kernel_rfl
end Go.VM
