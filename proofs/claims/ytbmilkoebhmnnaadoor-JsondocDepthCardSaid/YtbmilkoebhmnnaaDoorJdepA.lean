/- Texts nested up to 69 times: arrays, and objects up to 44 times. -/
import Derived.Test.YtbmilkoebhmnnaaDoorDefs
import Derived.KernelRfl
set_option maxRecDepth 100000
namespace Go.VM
theorem dep_a0 : ((List.range 20).drop 0).all (fun k => law14_JsondocDepth 1099511627776 ((k : Nat) : Int) false == some true) = true := by kernel_rfl
theorem dep_a20 : ((List.range 30).drop 20).all (fun k => law14_JsondocDepth 1099511627776 ((k : Nat) : Int) false == some true) = true := by kernel_rfl
theorem dep_a30 : ((List.range 40).drop 30).all (fun k => law14_JsondocDepth 1099511627776 ((k : Nat) : Int) false == some true) = true := by kernel_rfl
theorem dep_a40 : ((List.range 45).drop 40).all (fun k => law14_JsondocDepth 1099511627776 ((k : Nat) : Int) false == some true) = true := by kernel_rfl
theorem dep_a45 : ((List.range 50).drop 45).all (fun k => law14_JsondocDepth 1099511627776 ((k : Nat) : Int) false == some true) = true := by kernel_rfl
theorem dep_a50 : ((List.range 55).drop 50).all (fun k => law14_JsondocDepth 1099511627776 ((k : Nat) : Int) false == some true) = true := by kernel_rfl
theorem dep_a55 : ((List.range 60).drop 55).all (fun k => law14_JsondocDepth 1099511627776 ((k : Nat) : Int) false == some true) = true := by kernel_rfl
theorem dep_a60 : ((List.range 65).drop 60).all (fun k => law14_JsondocDepth 1099511627776 ((k : Nat) : Int) false == some true) = true := by kernel_rfl
theorem dep_a65 : ((List.range 70).drop 65).all (fun k => law14_JsondocDepth 1099511627776 ((k : Nat) : Int) false == some true) = true := by kernel_rfl
theorem dep_o0 : ((List.range 10).drop 0).all (fun k => law14_JsondocDepth 1099511627776 ((k : Nat) : Int) true == some true) = true := by kernel_rfl
theorem dep_o10 : ((List.range 16).drop 10).all (fun k => law14_JsondocDepth 1099511627776 ((k : Nat) : Int) true == some true) = true := by kernel_rfl
theorem dep_o16 : ((List.range 20).drop 16).all (fun k => law14_JsondocDepth 1099511627776 ((k : Nat) : Int) true == some true) = true := by kernel_rfl
theorem dep_o20 : ((List.range 24).drop 20).all (fun k => law14_JsondocDepth 1099511627776 ((k : Nat) : Int) true == some true) = true := by kernel_rfl
theorem dep_o24 : ((List.range 28).drop 24).all (fun k => law14_JsondocDepth 1099511627776 ((k : Nat) : Int) true == some true) = true := by kernel_rfl
theorem dep_o28 : ((List.range 31).drop 28).all (fun k => law14_JsondocDepth 1099511627776 ((k : Nat) : Int) true == some true) = true := by kernel_rfl
theorem dep_o31 : ((List.range 34).drop 31).all (fun k => law14_JsondocDepth 1099511627776 ((k : Nat) : Int) true == some true) = true := by kernel_rfl
theorem dep_o34 : ((List.range 37).drop 34).all (fun k => law14_JsondocDepth 1099511627776 ((k : Nat) : Int) true == some true) = true := by kernel_rfl
theorem dep_o37 : ((List.range 40).drop 37).all (fun k => law14_JsondocDepth 1099511627776 ((k : Nat) : Int) true == some true) = true := by kernel_rfl
theorem dep_o40 : ((List.range 41).drop 40).all (fun k => law14_JsondocDepth 1099511627776 ((k : Nat) : Int) true == some true) = true := by kernel_rfl
theorem dep_o41 : ((List.range 42).drop 41).all (fun k => law14_JsondocDepth 1099511627776 ((k : Nat) : Int) true == some true) = true := by kernel_rfl
theorem dep_o42 : ((List.range 43).drop 42).all (fun k => law14_JsondocDepth 1099511627776 ((k : Nat) : Int) true == some true) = true := by kernel_rfl
theorem dep_o43 : ((List.range 44).drop 43).all (fun k => law14_JsondocDepth 1099511627776 ((k : Nat) : Int) true == some true) = true := by kernel_rfl
theorem dep_o44 : ((List.range 45).drop 44).all (fun k => law14_JsondocDepth 1099511627776 ((k : Nat) : Int) true == some true) = true := by kernel_rfl
end Go.VM
