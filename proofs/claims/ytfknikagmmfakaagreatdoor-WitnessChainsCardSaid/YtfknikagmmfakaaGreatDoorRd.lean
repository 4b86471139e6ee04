import Derived.Test.YtfknikagmmfakaaGreatDoorRows
import Derived.Test.YtfknikagmmfakaaGreatDoorTy
import Derived.Test.YtfknikagmmfakaaGreatDoorVM3
set_option linter.unusedVariables false
set_option maxRecDepth 100000
namespace Go.VM
def ALW (x:ApiURL):Prop:=x.host.length≤reachBytes∧(Lit.int .i64 x.port).wf=true∧x.path.length≤reachBytes∧x.query.length≤reachBytes∧x.fragment.length≤reachBytes∧True∧True
def XG (x:ApiExchange):Prop:=ALW x.uRL∧(Lit.int .i64 x.status).wf=true∧(Lit.int .i64 x.err).wf=true
end Go.VM
namespace Go.Proofs.YtfknikagmmfakaaGreatDoor
open Go.VM
theorem AUn: ∀N,Rds Tryz.prog 28 7 (fun x:ApiURL=>[.str x.host,.int .i64 x.port,.str x.path,.str x.query,.str x.fragment,.bool x.hasQuery,.bool x.hasFrag]) ALW N:=
  Ui Tryz.underlying28 (by kernel_rfl) (fun N=>(Ky rfl (by kernel_rfl) ((fun _=>VB Tryz.underlying9) N) (Ky rfl (by kernel_rfl) ((fun _=>VI Tryz.underlying3) N) (Ky rfl (by kernel_rfl) ((fun _=>VB Tryz.underlying9) N) (Ky rfl (by kernel_rfl) ((fun _=>VB Tryz.underlying9) N) (Ky rfl (by kernel_rfl) ((fun _=>VB Tryz.underlying9) N) (Ky rfl (by kernel_rfl) ((fun _=>AKY Tryz.underlying4) N) (Ky rfl (by kernel_rfl) ((fun _=>AKY Tryz.underlying4) N) AbL)))))))) (fun b=>ApiURL.mk b.1 b.2.1 b.2.2.1 b.2.2.2.1 b.2.2.2.2.1 b.2.2.2.2.2.1 b.2.2.2.2.2.2.1) (fun _=>rfl) (fun b h=>⟨h.1,h.2.1,h.2.2.1,h.2.2.2.1,h.2.2.2.2.1,h.2.2.2.2.2.1,h.2.2.2.2.2.2.1⟩)
theorem WE: ∀N,Rds Tryz.prog 31 9 (fun x:ApiExchange=>[.str x.uRL.host,.int .i64 x.uRL.port,.str x.uRL.path,.str x.uRL.query,.str x.uRL.fragment,.bool x.uRL.hasQuery,.bool x.uRL.hasFrag,.int .i64 x.status,.int .i64 x.err]) XG N:=
  Ui Tryz.underlying31 (by kernel_rfl) (fun N=>(Ky rfl (by kernel_rfl) (AUn N) (Ky rfl (by kernel_rfl) ((fun _=>VI Tryz.underlying3) N) (Ky rfl (by kernel_rfl) ((fun _=>VI Tryz.underlying29) N) AbL)))) (fun b=>ApiExchange.mk b.1 b.2.1 b.2.2.1) (fun _=>rfl) (fun b h=>⟨h.1,h.2.1,h.2.2.1⟩)
end Go.Proofs.YtfknikagmmfakaaGreatDoor
