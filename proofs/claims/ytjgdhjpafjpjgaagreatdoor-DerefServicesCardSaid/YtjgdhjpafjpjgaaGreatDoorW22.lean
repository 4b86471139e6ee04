import Derived.Test.YtjgdhjpafjpjgaaGreatDoorVmFacts
import Derived.Test.YtjgdhjpafjpjgaaGreatDoorDefs
import Derived.Test.YtjgdhjpafjpjgaaGreatDoorVM7
import Derived.Test.YtjgdhjpafjpjgaaGreatDoorW17
import Derived.Test.YtjgdhjpafjpjgaaGreatDoorW18
import Derived.Test.YtjgdhjpafjpjgaaGreatDoorW20
import Derived.Test.YtjgdhjpafjpjgaaGreatDoorW21
set_option linter.unusedVariables false
set_option linter.unusedSimpArgs false
set_option maxHeartbeats 4000000
set_option maxRecDepth 100000
set_option linter.defProp false
namespace Go.Proofs.YtjgdhjpafjpjgaaGreatDoor
open Go.VM
attribute [local irreducible] AA grd letL
variable{N n:Nat}{m:MS}{Q:PQ}{args:List AVal}
instance Np {a0 a1 a2}:CF vE (FI N a0 a1 a2) 5 [.str a0,CR a1,.str a2] (fun r=>.bool r):=mkF (FI.eq_1 ..) Tryz.func5 rfl Tryz.ntmps5 Tryz.results5 [(3,[],.stop),(12,[],.stop)] false fun r n m R hR h hD=>tW
theorem Nj {a0 a1 a2 r} (h:FI N a0 a1 a2=some r) (ha:args=[.str a0,CR a1,.str a2]) (hQ: ∀n',n≤n'→Gl (Q (.bool r) ⟨m,n'⟩)):ACall vE 5 args ⟨m,n⟩ Q:=
 ha▸Np.go h hQ
end Go.Proofs.YtjgdhjpafjpjgaaGreatDoor
