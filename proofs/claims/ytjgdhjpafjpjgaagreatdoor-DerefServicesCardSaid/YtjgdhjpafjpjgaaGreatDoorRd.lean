import Derived.Test.YtjgdhjpafjpjgaaGreatDoorRows
import Derived.Test.YtjgdhjpafjpjgaaGreatDoorTy
import Derived.Test.YtjgdhjpafjpjgaaGreatDoorVM3
set_option linter.unusedVariables false
set_option maxRecDepth 100000
namespace Go.VM
def ACk (x:ApiDID):Prop:=x.method.length≤reachBytes∧x.iD.length≤reachBytes
def SY (x:ApiDIDURL):Prop:=ACk x.dID∧x.path.length≤reachBytes∧x.query.length≤reachBytes∧x.fragment.length≤reachBytes∧True∧True
end Go.VM
namespace Go.Proofs.YtjgdhjpafjpjgaaGreatDoor
open Go.VM
theorem AMN: ∀N,Rds Tryz.prog 40 2 (fun x:ApiDID=>[.str x.method,.str x.iD]) ACk N:=
  Si Tryz.underlying40 (by kernel_rfl) (fun N=>(MI rfl (by kernel_rfl) ((fun _=>NT Tryz.underlying9) N) (MI rfl (by kernel_rfl) ((fun _=>NT Tryz.underlying9) N) ASq))) (fun b=>ApiDID.mk b.1 b.2.1) (fun _=>rfl) (fun b h=>⟨h.1,h.2.1⟩)
theorem ABX: ∀N,Rds Tryz.prog 42 7 (fun x:ApiDIDURL=>[.str x.dID.method,.str x.dID.iD,.str x.path,.str x.query,.str x.fragment,.bool x.hasQuery,.bool x.hasFrag]) SY N:=
  Si Tryz.underlying42 (by kernel_rfl) (fun N=>(MI rfl (by kernel_rfl) (AMN N) (MI rfl (by kernel_rfl) ((fun _=>NT Tryz.underlying9) N) (MI rfl (by kernel_rfl) ((fun _=>NT Tryz.underlying9) N) (MI rfl (by kernel_rfl) ((fun _=>NT Tryz.underlying9) N) (MI rfl (by kernel_rfl) ((fun _=>AGq Tryz.underlying4) N) (MI rfl (by kernel_rfl) ((fun _=>AGq Tryz.underlying4) N) ASq))))))) (fun b=>ApiDIDURL.mk b.1 b.2.1 b.2.2.1 b.2.2.2.1 b.2.2.2.2.1 b.2.2.2.2.2.1) (fun _=>rfl) (fun b h=>⟨h.1,h.2.1,h.2.2.1,h.2.2.2.1,h.2.2.2.2.1,h.2.2.2.2.2.1⟩)
end Go.Proofs.YtjgdhjpafjpjgaaGreatDoor
