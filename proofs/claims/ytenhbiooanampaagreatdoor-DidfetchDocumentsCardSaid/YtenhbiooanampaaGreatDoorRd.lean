import Derived.Test.YtenhbiooanampaaGreatDoorRows
import Derived.Test.YtenhbiooanampaaGreatDoorTy
import Derived.Test.YtenhbiooanampaaGreatDoorVM3
set_option linter.defProp false
set_option linter.unusedVariables false
set_option maxRecDepth 100000
namespace Go.VM
def ATf (x:ApiDID):Prop:=x.method.length<=reachBytes/\x.iD.length<=reachBytes
end Go.VM
namespace Go.Proofs.YtenhbiooanampaaGreatDoor
open Go.VM
def AdA: ∀N,Rds Tryz.prog 24 2 (λx:ApiDID=>[.str x.method,.str x.iD]) ATf N:=APn Tryz.underlying24 (by kernel_rfl) (λN=>(AZx rfl (by kernel_rfl) ((λ_=>AaJ Tryz.underlying9) N) (AZx rfl (by kernel_rfl) ((λ_=>AaJ Tryz.underlying9) N) AvV))) (λb=>ApiDID.mk b.1 b.2.1) (λ_=>rfl) (λb h=>⟨h.1,h.2.1⟩)
end Go.Proofs.YtenhbiooanampaaGreatDoor
