import Derived.Test.YtmalodjbhonipaaGreatDoorRows
import Derived.Test.YtmalodjbhonipaaGreatDoorTy
import Derived.Test.YtmalodjbhonipaaGreatDoorVM3
set_option linter.unusedVariables false
set_option maxRecDepth 100000
namespace Go.VM
def ADb (x:ApiDID):Prop:=x.method.length≤reachBytes∧x.iD.length≤reachBytes
def Q5 (x:ApiDIDURL):Prop:=ADb x.dID∧x.path.length≤reachBytes∧x.query.length≤reachBytes∧x.fragment.length≤reachBytes∧True∧True
end Go.VM
namespace Go.Proofs.YtmalodjbhonipaaGreatDoor
open Go.VM
theorem ALk: ∀N,Rds Tryz.prog 23 2 (fun x:ApiDID=>[.str x.method,.str x.iD]) ADb N:=Rn Tryz.underlying23 (by kernel_rfl) (fun N=>(LY rfl (by kernel_rfl) ((fun _=>Mt Tryz.underlying9) N) (LY rfl (by kernel_rfl) ((fun _=>Mt Tryz.underlying9) N) AO1))) (fun b=>ApiDID.mk b.1 b.2.1) (fun _=>rfl) (fun b h=>⟨h.1,h.2.1⟩)
theorem XQ: ∀N,Rds Tryz.prog 25 7 (fun x:ApiDIDURL=>[.str x.dID.method,.str x.dID.iD,.str x.path,.str x.query,.str x.fragment,.bool x.hasQuery,.bool x.hasFrag]) Q5 N:=Rn Tryz.underlying25 (by kernel_rfl) (fun N=>(LY rfl (by kernel_rfl) (ALk N) (LY rfl (by kernel_rfl) ((fun _=>Mt Tryz.underlying9) N) (LY rfl (by kernel_rfl) ((fun _=>Mt Tryz.underlying9) N) (LY rfl (by kernel_rfl) ((fun _=>Mt Tryz.underlying9) N) (LY rfl (by kernel_rfl) ((fun _=>ADs Tryz.underlying4) N) (LY rfl (by kernel_rfl) ((fun _=>ADs Tryz.underlying4) N) AO1))))))) (fun b=>ApiDIDURL.mk b.1 b.2.1 b.2.2.1 b.2.2.2.1 b.2.2.2.2.1 b.2.2.2.2.2.1) (fun _=>rfl) (fun b h=>⟨h.1,h.2.1,h.2.2.1,h.2.2.2.1,h.2.2.2.2.1,h.2.2.2.2.2.1⟩)
end Go.Proofs.YtmalodjbhonipaaGreatDoor
