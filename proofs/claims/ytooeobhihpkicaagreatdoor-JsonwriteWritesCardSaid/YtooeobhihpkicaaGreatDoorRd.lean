import Derived.Test.YtooeobhihpkicaaGreatDoorRows
import Derived.Test.YtooeobhihpkicaaGreatDoorTy
import Derived.Test.YtooeobhihpkicaaGreatDoorVM3
set_option linter.unusedVariables false
set_option maxRecDepth 100000
namespace Go.VM
inductive okApiValue:ApiValue→Prop
  |mk (x:ApiValue) (h0:(Lit.int .i64 x.kind).wf=true) (h1:x.text.length≤reachBytes) (h2:(x.keys.length≤reachBytes∧ ∀a,a∈x.keys→a.length≤reachBytes)) (h3:x.items.length≤reachBytes) (k3: ∀a,a∈x.items→okApiValue a):okApiValue x
end Go.VM
namespace Go.Proofs.YtooeobhihpkicaaGreatDoor
open Go.VM
theorem PM: ∀N,Rds Tryz.prog 26 4 (fun x:ApiValue=>[.int .i64 x.kind,.str x.text,.slice 1 (List.map AVal.str x.keys) false,.slice 4 (List.map AA x.items) false]) okApiValue N
  |0=>Rk
  | N+1=>by
    have ih:=PM N
    exact Z5 Tryz.underlying26 (by kernel_rfl) (P6 rfl (by kernel_rfl) ((fun _=>AG6 Tryz.underlying3) N) (P6 rfl (by kernel_rfl) ((fun _=>ABL Tryz.underlying9) N) (P6 rfl (by kernel_rfl) ((Z7 Tryz.underlying23 (by kernel_rfl) (by decide) (Nat.le_of_ble_eq_true (by kernel_rfl)) (fun _=>ABL Tryz.underlying9) AVal.str (one_cell AVal.str)) N) (P6 rfl (by kernel_rfl) (match N,ih with|0,_=>Rk|M+1,ih=>Ta Tryz.underlying24 (by kernel_rfl) (by decide) (Nat.le_of_ble_eq_true (by kernel_rfl)) (ih.mono (Nat.le_succ _)) AA (ABA AA Il)) AJO)))) (fun b=>ApiValue.mk b.1 b.2.1 b.2.2.1 b.2.2.2.1) (fun _=>rfl) (fun b h=>.mk _ h.1 h.2.1 h.2.2.1 h.2.2.2.1.1 h.2.2.2.1.2)
end Go.Proofs.YtooeobhihpkicaaGreatDoor
