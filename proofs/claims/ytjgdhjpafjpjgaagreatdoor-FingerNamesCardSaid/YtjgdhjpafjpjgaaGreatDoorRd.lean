import Derived.Test.YtjgdhjpafjpjgaaGreatDoorRows
import Derived.Test.YtjgdhjpafjpjgaaGreatDoorTy
import Derived.Test.YtjgdhjpafjpjgaaGreatDoorVM3
set_option linter.unusedVariables false
set_option maxRecDepth 100000
namespace Go.VM
def AAw (x:ApiID):Prop:=(Lit.int .i64 x.kind).wf=true∧x.text.length≤reachBytes∧x.host.length≤reachBytes∧(Lit.int .i64 x.port).wf=true
def Jo (x:ApiProperty):Prop:=x.name.length≤reachBytes∧x.value.length≤reachBytes∧True
def Qw (x:ApiLink):Prop:=x.rel.length≤reachBytes∧x.type_.length≤reachBytes∧x.href.length≤reachBytes∧x.template.length≤reachBytes∧(x.titles.length≤reachBytes∧ ∀a,a∈x.titles→Jo a)∧(x.properties.length≤reachBytes∧ ∀a,a∈x.properties→Jo a)
def UV (x:ApiJRD):Prop:=x.subject.length≤reachBytes∧(x.aliases.length≤reachBytes∧ ∀a,a∈x.aliases→a.length≤reachBytes)∧(x.properties.length≤reachBytes∧ ∀a,a∈x.properties→Jo a)∧(x.links.length≤reachBytes∧ ∀a,a∈x.links→Qw a)
end Go.VM
namespace Go.Proofs.YtjgdhjpafjpjgaaGreatDoor
open Go.VM
theorem ANJ: ∀N,Rds Tryz.prog 23 4 (fun x:ApiID=>[.int .i64 x.kind,.str x.text,.str x.host,.int .i64 x.port]) AAw N:=
  LZ Tryz.underlying23 (by kernel_rfl) (fun N=>(FL rfl (by kernel_rfl) ((fun _=>Xi Tryz.underlying3) N) (FL rfl (by kernel_rfl) ((fun _=>Jv Tryz.underlying9) N) (FL rfl (by kernel_rfl) ((fun _=>Jv Tryz.underlying9) N) (FL rfl (by kernel_rfl) ((fun _=>Xi Tryz.underlying3) N) AAv))))) (fun b=>ApiID.mk b.1 b.2.1 b.2.2.1 b.2.2.2.1) (fun _=>rfl) (fun b h=>⟨h.1,h.2.1,h.2.2.1,h.2.2.2.1⟩)
theorem K7: ∀N,Rds Tryz.prog 273 3 (fun x:ApiProperty=>[.str x.name,.str x.value,.bool x.null]) Jo N:=
  LZ Tryz.underlying273 (by kernel_rfl) (fun N=>(FL rfl (by kernel_rfl) ((fun _=>Jv Tryz.underlying9) N) (FL rfl (by kernel_rfl) ((fun _=>Jv Tryz.underlying9) N) (FL rfl (by kernel_rfl) ((fun _=>AMc Tryz.underlying4) N) AAv)))) (fun b=>ApiProperty.mk b.1 b.2.1 b.2.2.1) (fun _=>rfl) (fun b h=>⟨h.1,h.2.1,h.2.2.1⟩)
theorem AHM: ∀N,Rds Tryz.prog 106 6 (fun x:ApiLink=>[.str x.rel,.str x.type_,.str x.href,.str x.template,.slice 3 (List.map AY x.titles) false,.slice 3 (List.map AY x.properties) false]) Qw N:=
  LZ Tryz.underlying106 (by kernel_rfl) (fun N=>(FL rfl (by kernel_rfl) ((fun _=>Jv Tryz.underlying9) N) (FL rfl (by kernel_rfl) ((fun _=>Jv Tryz.underlying9) N) (FL rfl (by kernel_rfl) ((fun _=>Jv Tryz.underlying9) N) (FL rfl (by kernel_rfl) ((fun _=>Jv Tryz.underlying9) N) (FL rfl (by kernel_rfl) ((Jc Tryz.underlying52 (by kernel_rfl) (by decide) (Nat.le_of_ble_eq_true (by kernel_rfl)) K7 AY (Mh AY Gm)) N) (FL rfl (by kernel_rfl) ((Jc Tryz.underlying52 (by kernel_rfl) (by decide) (Nat.le_of_ble_eq_true (by kernel_rfl)) K7 AY (Mh AY Gm)) N) AAv))))))) (fun b=>ApiLink.mk b.1 b.2.1 b.2.2.1 b.2.2.2.1 b.2.2.2.2.1 b.2.2.2.2.2.1) (fun _=>rfl) (fun b h=>⟨h.1,h.2.1,h.2.2.1,h.2.2.2.1,h.2.2.2.2.1,h.2.2.2.2.2.1⟩)
theorem AJj: ∀N,Rds Tryz.prog 55 4 (fun x:ApiJRD=>[.str x.subject,.slice 1 (List.map AVal.str x.aliases) false,.slice 3 (List.map AY x.properties) false,.slice 6 (List.map Aw x.links) false]) UV N:=
  LZ Tryz.underlying55 (by kernel_rfl) (fun N=>(FL rfl (by kernel_rfl) ((fun _=>Jv Tryz.underlying9) N) (FL rfl (by kernel_rfl) ((Jc Tryz.underlying43 (by kernel_rfl) (by decide) (Nat.le_of_ble_eq_true (by kernel_rfl)) (fun _=>Jv Tryz.underlying9) AVal.str (one_cell AVal.str)) N) (FL rfl (by kernel_rfl) ((Jc Tryz.underlying52 (by kernel_rfl) (by decide) (Nat.le_of_ble_eq_true (by kernel_rfl)) K7 AY (Mh AY Gm)) N) (FL rfl (by kernel_rfl) ((Jc Tryz.underlying53 (by kernel_rfl) (by decide) (Nat.le_of_ble_eq_true (by kernel_rfl)) AHM Aw (Mh Aw Ow)) N) AAv))))) (fun b=>ApiJRD.mk b.1 b.2.1 b.2.2.1 b.2.2.2.1) (fun _=>rfl) (fun b h=>⟨h.1,h.2.1,h.2.2.1,h.2.2.2.1⟩)
end Go.Proofs.YtjgdhjpafjpjgaaGreatDoor
