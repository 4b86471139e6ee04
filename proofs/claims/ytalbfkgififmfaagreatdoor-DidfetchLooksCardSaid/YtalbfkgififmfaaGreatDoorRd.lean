import Derived.Test.YtalbfkgififmfaaGreatDoorRows
import Derived.Test.YtalbfkgififmfaaGreatDoorTy
import Derived.Test.YtalbfkgififmfaaGreatDoorVM3
set_option linter.defProp false
set_option linter.unusedVariables false
set_option maxRecDepth 100000
namespace Go.VM
def AKA (x:AD):Prop:=(Lit.int .i64 x.kind).wf=true/\x.text.length<=reachBytes/\x.d.length<=reachBytes/\(Lit.int .i64 x.g).wf=true
def ABY (x:Ds):Prop:=x.u.length<=reachBytes/\x.type_.length<=reachBytes/\x.controller.length<=reachBytes
def Yr (x:Cp):Prop:=x.u.length<=reachBytes/\(x.types.length<=reachBytes/\ ∀a,a∈x.types->a.length<=reachBytes)/\(x.endpoints.length<=reachBytes/\ ∀a,a∈x.endpoints->a.length<=reachBytes)
def ATB (x:Cd):Prop:=x.u.length<=reachBytes/\(x.also.length<=reachBytes/\ ∀a,a∈x.also->a.length<=reachBytes)/\(x.controllers.length<=reachBytes/\ ∀a,a∈x.controllers->a.length<=reachBytes)/\(x.methods.length<=reachBytes/\ ∀a,a∈x.methods->ABY a)/\(x.services.length<=reachBytes/\ ∀a,a∈x.services->Yr a)
end Go.VM
namespace Go.Proofs.YtalbfkgififmfaaGreatDoor
open Go.VM
def AqX: ∀N,Rds Tryz.prog 24 4 (λx:AD=>[.int .i64 x.kind,.str x.text,.str x.d,.int .i64 x.g]) AKA N:=TF Tryz.underlying24 (by kernel_rfl) (λN=>(Kr rfl (by kernel_rfl) ((λ_=>Z4 Tryz.underlying3) N) (Kr rfl (by kernel_rfl) ((λ_=>PO Tryz.underlying9) N) (Kr rfl (by kernel_rfl) ((λ_=>PO Tryz.underlying9) N) (Kr rfl (by kernel_rfl) ((λ_=>Z4 Tryz.underlying3) N) AII))))) (λb=>AD.mk b.1 b.2.1 b.2.2.1 b.2.2.2.1) (λ_=>rfl) (λb h=>⟨h.1,h.2.1,h.2.2.1,h.2.2.2.1⟩)
def ALW: ∀N,Rds Tryz.prog 181 3 (λx:Ds=>[.str x.u,.str x.type_,.str x.controller]) ABY N:=TF Tryz.underlying181 (by kernel_rfl) (λN=>(Kr rfl (by kernel_rfl) ((λ_=>PO Tryz.underlying9) N) (Kr rfl (by kernel_rfl) ((λ_=>PO Tryz.underlying9) N) (Kr rfl (by kernel_rfl) ((λ_=>PO Tryz.underlying9) N) AII)))) (λb=>Ds.mk b.1 b.2.1 b.2.2.1) (λ_=>rfl) (λb h=>⟨h.1,h.2.1,h.2.2.1⟩)
def AFW: ∀N,Rds Tryz.prog 183 3 (λx:Cp=>[.str x.u,.slice 1 (List.map AVal.str x.types) false,.slice 1 (List.map AVal.str x.endpoints) false]) Yr N:=TF Tryz.underlying183 (by kernel_rfl) (λN=>(Kr rfl (by kernel_rfl) ((λ_=>PO Tryz.underlying9) N) (Kr rfl (by kernel_rfl) ((MK Tryz.underlying25 (by kernel_rfl) fO (bY (by kernel_rfl)) (λ_=>PO Tryz.underlying9) AVal.str (one_cell AVal.str)) N) (Kr rfl (by kernel_rfl) ((MK Tryz.underlying25 (by kernel_rfl) fO (bY (by kernel_rfl)) (λ_=>PO Tryz.underlying9) AVal.str (one_cell AVal.str)) N) AII)))) (λb=>Cp.mk b.1 b.2.1 b.2.2.1) (λ_=>rfl) (λb h=>⟨h.1,h.2.1,h.2.2.1⟩)
def Aeb: ∀N,Rds Tryz.prog 29 5 (λx:Cd=>[.str x.u,.slice 1 (List.map AVal.str x.also) false,.slice 1 (List.map AVal.str x.controllers) false,.slice 3 (List.map IM x.methods) false,.slice 3 (List.map CS x.services) false]) ATB N:=TF Tryz.underlying29 (by kernel_rfl) (λN=>(Kr rfl (by kernel_rfl) ((λ_=>PO Tryz.underlying9) N) (Kr rfl (by kernel_rfl) ((MK Tryz.underlying25 (by kernel_rfl) fO (bY (by kernel_rfl)) (λ_=>PO Tryz.underlying9) AVal.str (one_cell AVal.str)) N) (Kr rfl (by kernel_rfl) ((MK Tryz.underlying25 (by kernel_rfl) fO (bY (by kernel_rfl)) (λ_=>PO Tryz.underlying9) AVal.str (one_cell AVal.str)) N) (Kr rfl (by kernel_rfl) ((MK Tryz.underlying26 (by kernel_rfl) fO (bY (by kernel_rfl)) ALW IM (ADo IM Uy)) N) (Kr rfl (by kernel_rfl) ((MK Tryz.underlying27 (by kernel_rfl) fO (bY (by kernel_rfl)) AFW CS (ADo CS Td)) N) AII)))))) (λb=>Cd.mk b.1 b.2.1 b.2.2.1 b.2.2.2.1 b.2.2.2.2.1) (λ_=>rfl) (λb h=>⟨h.1,h.2.1,h.2.2.1,h.2.2.2.1,h.2.2.2.2.1⟩)
end Go.Proofs.YtalbfkgififmfaaGreatDoor
