import Derived.Test.YtjgdhjpafjpjgaaGreatDoorRows
import Derived.Test.YtjgdhjpafjpjgaaGreatDoorTy
import Derived.Test.YtjgdhjpafjpjgaaGreatDoorVM3
set_option linter.unusedVariables false
set_option maxRecDepth 100000
namespace Go.VM
def XZ (x:ApiID):Prop:=(Lit.int .i64 x.kind).wf=true∧x.text.length≤reachBytes∧x.host.length≤reachBytes∧(Lit.int .i64 x.port).wf=true
end Go.VM
namespace Go.Proofs.YtjgdhjpafjpjgaaGreatDoor
open Go.VM
theorem AMs: ∀N,Rds Tryz.prog 23 4 (fun x:ApiID=>[.int .i64 x.kind,.str x.text,.str x.host,.int .i64 x.port]) XZ N:=
  ADL Tryz.underlying23 (by kernel_rfl) (fun N=>(Ri rfl (by kernel_rfl) ((fun _=>VW Tryz.underlying3) N) (Ri rfl (by kernel_rfl) ((fun _=>AHe Tryz.underlying9) N) (Ri rfl (by kernel_rfl) ((fun _=>AHe Tryz.underlying9) N) (Ri rfl (by kernel_rfl) ((fun _=>VW Tryz.underlying3) N) ASU))))) (fun b=>ApiID.mk b.1 b.2.1 b.2.2.1 b.2.2.2.1) (fun _=>rfl) (fun b h=>⟨h.1,h.2.1,h.2.2.1,h.2.2.2.1⟩)
end Go.Proofs.YtjgdhjpafjpjgaaGreatDoor
