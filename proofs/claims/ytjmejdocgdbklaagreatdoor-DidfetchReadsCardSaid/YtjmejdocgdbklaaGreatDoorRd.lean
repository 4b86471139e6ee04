import Derived.Test.YtjmejdocgdbklaaGreatDoorRows
import Derived.Test.YtjmejdocgdbklaaGreatDoorTy
import Derived.Test.YtjmejdocgdbklaaGreatDoorVM3
set_option linter.defProp false
set_option linter.unusedVariables false
set_option maxRecDepth 100000
namespace Go.VM
def ABf (x:ApiURL):Prop:=x.host.length<=reachBytes/\(Lit.int .i64 x.port).wf=true/\x.path.length<=reachBytes/\x.query.length<=reachBytes/\x.fragment.length<=reachBytes/\True/\True
def V8 (x:ApiField):Prop:=x.name.length<=reachBytes/\x.value.length<=reachBytes
def Ye (x:ApiHead):Prop:=(Lit.int .i64 x.minor).wf=true/\(Lit.int .i64 x.status).wf=true/\(x.fields.length<=reachBytes/\ ∀a,a∈x.fields->V8 a)
def VH (x:ApiExchange):Prop:=ABf x.uRL/\(Lit.int .i64 x.status).wf=true/\(Lit.int .i64 x.err).wf=true
def VR (x:ApiResponse):Prop:=ABf x.uRL/\Ye x.head/\x.body.length<=reachBytes/\(x.trace.length<=reachBytes/\ ∀a,a∈x.trace->VH a)
def APo (x:ApiDID):Prop:=x.method.length<=reachBytes/\x.iD.length<=reachBytes
end Go.VM
namespace Go.Proofs.YtjmejdocgdbklaaGreatDoor
open Go.VM
def AEA: ∀N,Rds Tryz.prog 23 7 (λx:ApiURL=>[.str x.host,.int .i64 x.port,.str x.path,.str x.query,.str x.fragment,.bool x.hasQuery,.bool x.hasFrag]) ABf N:=NF Tryz.underlying23 (by kernel_rfl) (λN=>(Hm rfl (by kernel_rfl) ((λ_=>PT Tryz.underlying9) N) (Hm rfl (by kernel_rfl) ((λ_=>Un Tryz.underlying3) N) (Hm rfl (by kernel_rfl) ((λ_=>PT Tryz.underlying9) N) (Hm rfl (by kernel_rfl) ((λ_=>PT Tryz.underlying9) N) (Hm rfl (by kernel_rfl) ((λ_=>PT Tryz.underlying9) N) (Hm rfl (by kernel_rfl) ((λ_=>APP Tryz.underlying4) N) (Hm rfl (by kernel_rfl) ((λ_=>APP Tryz.underlying4) N) YD)))))))) (λb=>ApiURL.mk b.1 b.2.1 b.2.2.1 b.2.2.2.1 b.2.2.2.2.1 b.2.2.2.2.2.1 b.2.2.2.2.2.2.1) (λ_=>rfl) (λb h=>⟨h.1,h.2.1,h.2.2.1,h.2.2.2.1,h.2.2.2.2.1,h.2.2.2.2.2.1,h.2.2.2.2.2.2.1⟩)
def AOD: ∀N,Rds Tryz.prog 50 2 (λx:ApiField=>[.str x.name,.str x.value]) V8 N:=NF Tryz.underlying50 (by kernel_rfl) (λN=>(Hm rfl (by kernel_rfl) ((λ_=>PT Tryz.underlying9) N) (Hm rfl (by kernel_rfl) ((λ_=>PT Tryz.underlying9) N) YD))) (λb=>ApiField.mk b.1 b.2.1) (λ_=>rfl) (λb h=>⟨h.1,h.2.1⟩)
def ATq: ∀N,Rds Tryz.prog 26 3 (λx:ApiHead=>[.int .i64 x.minor,.int .i64 x.status,.slice 2 (List.map FD x.fields) false]) Ye N:=NF Tryz.underlying26 (by kernel_rfl) (λN=>(Hm rfl (by kernel_rfl) ((λ_=>Un Tryz.underlying3) N) (Hm rfl (by kernel_rfl) ((λ_=>Un Tryz.underlying3) N) (Hm rfl (by kernel_rfl) ((V5 Tryz.underlying24 (by kernel_rfl) fB (dY (by kernel_rfl)) AOD FD (ABn FD TY)) N) YD)))) (λb=>ApiHead.mk b.1 b.2.1 b.2.2.1) (λ_=>rfl) (λb h=>⟨h.1,h.2.1,h.2.2.1⟩)
def ABi: ∀N,Rds Tryz.prog 295 9 (λx:ApiExchange=>[.str x.uRL.host,.int .i64 x.uRL.port,.str x.uRL.path,.str x.uRL.query,.str x.uRL.fragment,.bool x.uRL.hasQuery,.bool x.uRL.hasFrag,.int .i64 x.status,.int .i64 x.err]) VH N:=NF Tryz.underlying295 (by kernel_rfl) (λN=>(Hm rfl (by kernel_rfl) (AEA N) (Hm rfl (by kernel_rfl) ((λ_=>Un Tryz.underlying3) N) (Hm rfl (by kernel_rfl) ((λ_=>Un Tryz.underlying44) N) YD)))) (λb=>ApiExchange.mk b.1 b.2.1 b.2.2.1) (λ_=>rfl) (λb h=>⟨h.1,h.2.1,h.2.2.1⟩)
def ABl: ∀N,Rds Tryz.prog 29 12 (λx:ApiResponse=>[.str x.uRL.host,.int .i64 x.uRL.port,.str x.uRL.path,.str x.uRL.query,.str x.uRL.fragment,.bool x.uRL.hasQuery,.bool x.uRL.hasFrag,.int .i64 x.head.minor,.int .i64 x.head.status,.slice 2 (List.map FD x.head.fields) false,.str x.body,.slice 9 (List.map J8 x.trace) false]) VR N:=NF Tryz.underlying29 (by kernel_rfl) (λN=>(Hm rfl (by kernel_rfl) (AEA N) (Hm rfl (by kernel_rfl) (ATq N) (Hm rfl (by kernel_rfl) ((λ_=>PT Tryz.underlying9) N) (Hm rfl (by kernel_rfl) ((V5 Tryz.underlying27 (by kernel_rfl) fB (dY (by kernel_rfl)) ABi J8 (ABn J8 Ql)) N) YD))))) (λb=>ApiResponse.mk b.1 b.2.1 b.2.2.1 b.2.2.2.1) (λ_=>rfl) (λb h=>⟨h.1,h.2.1,h.2.2.1,h.2.2.2.1⟩)
def AYH: ∀N,Rds Tryz.prog 31 2 (λx:ApiDID=>[.str x.method,.str x.iD]) APo N:=NF Tryz.underlying31 (by kernel_rfl) (λN=>(Hm rfl (by kernel_rfl) ((λ_=>PT Tryz.underlying9) N) (Hm rfl (by kernel_rfl) ((λ_=>PT Tryz.underlying9) N) YD))) (λb=>ApiDID.mk b.1 b.2.1) (λ_=>rfl) (λb h=>⟨h.1,h.2.1⟩)
end Go.Proofs.YtjmejdocgdbklaaGreatDoor
