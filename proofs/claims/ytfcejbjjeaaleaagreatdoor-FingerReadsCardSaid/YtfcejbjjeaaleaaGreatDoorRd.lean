import Derived.Test.YtfcejbjjeaaleaaGreatDoorRows
import Derived.Test.YtfcejbjjeaaleaaGreatDoorTy
import Derived.Test.YtfcejbjjeaaleaaGreatDoorVM3
set_option linter.defProp false
set_option linter.unusedVariables false
set_option maxRecDepth 100000
namespace Go.VM
def AC5 (x:ApiURL):Prop:=x.host.length<=reachBytes/\(Lit.int .i64 x.port).wf=true/\x.path.length<=reachBytes/\x.query.length<=reachBytes/\x.fragment.length<=reachBytes/\True/\True
def XF (x:ApiField):Prop:=x.name.length<=reachBytes/\x.value.length<=reachBytes
def Zb (x:ApiHead):Prop:=(Lit.int .i64 x.minor).wf=true/\(Lit.int .i64 x.status).wf=true/\(x.fields.length<=reachBytes/\ ∀a,a∈x.fields->XF a)
def V8 (x:ApiExchange):Prop:=AC5 x.uRL/\(Lit.int .i64 x.status).wf=true/\(Lit.int .i64 x.err).wf=true
def WI (x:ApiResponse):Prop:=AC5 x.uRL/\Zb x.head/\x.body.length<=reachBytes/\(x.trace.length<=reachBytes/\ ∀a,a∈x.trace->V8 a)
def AIk (x:ApiID):Prop:=(Lit.int .i64 x.kind).wf=true/\x.text.length<=reachBytes/\x.host.length<=reachBytes/\(Lit.int .i64 x.port).wf=true
end Go.VM
namespace Go.Proofs.YtfcejbjjeaaleaaGreatDoor
open Go.VM
def AGR: ∀N,Rds Tryz.prog 23 7 (λx:ApiURL=>[.str x.host,.int .i64 x.port,.str x.path,.str x.query,.str x.fragment,.bool x.hasQuery,.bool x.hasFrag]) AC5 N:=Nj Tryz.underlying23 (by kernel_rfl) (λN=>(GZ rfl (by kernel_rfl) ((λ_=>QF Tryz.underlying9) N) (GZ rfl (by kernel_rfl) ((λ_=>Rh Tryz.underlying3) N) (GZ rfl (by kernel_rfl) ((λ_=>QF Tryz.underlying9) N) (GZ rfl (by kernel_rfl) ((λ_=>QF Tryz.underlying9) N) (GZ rfl (by kernel_rfl) ((λ_=>QF Tryz.underlying9) N) (GZ rfl (by kernel_rfl) ((λ_=>ARQ Tryz.underlying4) N) (GZ rfl (by kernel_rfl) ((λ_=>ARQ Tryz.underlying4) N) Y6)))))))) (λb=>ApiURL.mk b.1 b.2.1 b.2.2.1 b.2.2.2.1 b.2.2.2.2.1 b.2.2.2.2.2.1 b.2.2.2.2.2.2.1) (λ_=>rfl) (λb h=>⟨h.1,h.2.1,h.2.2.1,h.2.2.2.1,h.2.2.2.2.1,h.2.2.2.2.2.1,h.2.2.2.2.2.2.1⟩)
def ARR: ∀N,Rds Tryz.prog 54 2 (λx:ApiField=>[.str x.name,.str x.value]) XF N:=Nj Tryz.underlying54 (by kernel_rfl) (λN=>(GZ rfl (by kernel_rfl) ((λ_=>QF Tryz.underlying9) N) (GZ rfl (by kernel_rfl) ((λ_=>QF Tryz.underlying9) N) Y6))) (λb=>ApiField.mk b.1 b.2.1) (λ_=>rfl) (λb h=>⟨h.1,h.2.1⟩)
def AUW: ∀N,Rds Tryz.prog 26 3 (λx:ApiHead=>[.int .i64 x.minor,.int .i64 x.status,.slice 2 (List.map Cu x.fields) false]) Zb N:=Nj Tryz.underlying26 (by kernel_rfl) (λN=>(GZ rfl (by kernel_rfl) ((λ_=>Rh Tryz.underlying3) N) (GZ rfl (by kernel_rfl) ((λ_=>Rh Tryz.underlying3) N) (GZ rfl (by kernel_rfl) ((WY Tryz.underlying24 (by kernel_rfl) fI (d6 (by kernel_rfl)) ARR Cu (AB8 Cu Uv)) N) Y6)))) (λb=>ApiHead.mk b.1 b.2.1 b.2.2.1) (λ_=>rfl) (λb h=>⟨h.1,h.2.1,h.2.2.1⟩)
def ADn: ∀N,Rds Tryz.prog 56 9 (λx:ApiExchange=>[.str x.uRL.host,.int .i64 x.uRL.port,.str x.uRL.path,.str x.uRL.query,.str x.uRL.fragment,.bool x.uRL.hasQuery,.bool x.uRL.hasFrag,.int .i64 x.status,.int .i64 x.err]) V8 N:=Nj Tryz.underlying56 (by kernel_rfl) (λN=>(GZ rfl (by kernel_rfl) (AGR N) (GZ rfl (by kernel_rfl) ((λ_=>Rh Tryz.underlying3) N) (GZ rfl (by kernel_rfl) ((λ_=>Rh Tryz.underlying44) N) Y6)))) (λb=>ApiExchange.mk b.1 b.2.1 b.2.2.1) (λ_=>rfl) (λb h=>⟨h.1,h.2.1,h.2.2.1⟩)
def ADv: ∀N,Rds Tryz.prog 29 12 (λx:ApiResponse=>[.str x.uRL.host,.int .i64 x.uRL.port,.str x.uRL.path,.str x.uRL.query,.str x.uRL.fragment,.bool x.uRL.hasQuery,.bool x.uRL.hasFrag,.int .i64 x.head.minor,.int .i64 x.head.status,.slice 2 (List.map Cu x.head.fields) false,.str x.body,.slice 9 (List.map Ep x.trace) false]) WI N:=Nj Tryz.underlying29 (by kernel_rfl) (λN=>(GZ rfl (by kernel_rfl) (AGR N) (GZ rfl (by kernel_rfl) (AUW N) (GZ rfl (by kernel_rfl) ((λ_=>QF Tryz.underlying9) N) (GZ rfl (by kernel_rfl) ((WY Tryz.underlying27 (by kernel_rfl) fI (d6 (by kernel_rfl)) ADn Ep (AB8 Ep Rc)) N) Y6))))) (λb=>ApiResponse.mk b.1 b.2.1 b.2.2.1 b.2.2.2.1) (λ_=>rfl) (λb h=>⟨h.1,h.2.1,h.2.2.1,h.2.2.2.1⟩)
def AjO: ∀N,Rds Tryz.prog 31 4 (λx:ApiID=>[.int .i64 x.kind,.str x.text,.str x.host,.int .i64 x.port]) AIk N:=Nj Tryz.underlying31 (by kernel_rfl) (λN=>(GZ rfl (by kernel_rfl) ((λ_=>Rh Tryz.underlying3) N) (GZ rfl (by kernel_rfl) ((λ_=>QF Tryz.underlying9) N) (GZ rfl (by kernel_rfl) ((λ_=>QF Tryz.underlying9) N) (GZ rfl (by kernel_rfl) ((λ_=>Rh Tryz.underlying3) N) Y6))))) (λb=>ApiID.mk b.1 b.2.1 b.2.2.1 b.2.2.2.1) (λ_=>rfl) (λb h=>⟨h.1,h.2.1,h.2.2.1,h.2.2.2.1⟩)
end Go.Proofs.YtfcejbjjeaaleaaGreatDoor
