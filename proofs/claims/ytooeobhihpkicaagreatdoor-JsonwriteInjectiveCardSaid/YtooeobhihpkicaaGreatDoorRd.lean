import Derived.Test.YtooeobhihpkicaaGreatDoorRows
import Derived.Test.YtooeobhihpkicaaGreatDoorTy
import Derived.Test.YtooeobhihpkicaaGreatDoorVM3
set_option linter.unusedVariables false
set_option maxRecDepth 100000
namespace Go.VM
inductive okApiValue:ApiValue→Prop
  |mk (x:ApiValue) (h0:(Lit.int .i64 x.kind).wf=true) (h1:x.text.length≤reachBytes) (h2:(x.keys.length≤reachBytes∧ ∀a,a∈x.keys→a.length≤reachBytes)) (h3:x.items.length≤reachBytes) (k3: ∀a,a∈x.items→okApiValue a):okApiValue x
end Go.VM
namespace Go.Proofs.YtooeobhihpkicaaGreatDoor
open Go.VM
theorem LW: ∀N,Rds Tryz.prog 26 4 (fun x:ApiValue=>[.int .i64 x.kind,.str x.text,.slice 1 (List.map AVal.str x.keys) false,.slice 4 (List.map AC x.items) false]) okApiValue N
  |0=>P7
  | N+1=>by
    have ih:=LW N
    exact Yw Tryz.underlying26 (by kernel_rfl) (Oq rfl (by kernel_rfl) ((fun _=>AGl Tryz.underlying3) N) (Oq rfl (by kernel_rfl) ((fun _=>AAW Tryz.underlying9) N) (Oq rfl (by kernel_rfl) ((Zu Tryz.underlying23 (by kernel_rfl) (by decide) (Nat.le_of_ble_eq_true (by kernel_rfl)) (fun _=>AAW Tryz.underlying9) AVal.str (one_cell AVal.str)) N) (Oq rfl (by kernel_rfl) (match N,ih with|0,_=>P7|M+1,ih=>Rn Tryz.underlying24 (by kernel_rfl) (by decide) (Nat.le_of_ble_eq_true (by kernel_rfl)) (ih.mono (Nat.le_succ _)) AC (Zm AC GQ)) AId)))) (fun b=>ApiValue.mk b.1 b.2.1 b.2.2.1 b.2.2.2.1) (fun _=>rfl) (fun b h=>.mk _ h.1 h.2.1 h.2.2.1 h.2.2.2.1.1 h.2.2.2.1.2)
end Go.Proofs.YtooeobhihpkicaaGreatDoor
