import Derived.Test.YtmalodjbhonipaaGreatDoorVmFacts
import Derived.Test.YtmalodjbhonipaaGreatDoorDefs
import Derived.Test.YtmalodjbhonipaaGreatDoorVM7
import Derived.Test.YtmalodjbhonipaaGreatDoorW11
import Derived.Test.YtmalodjbhonipaaGreatDoorW17
import Derived.Test.YtmalodjbhonipaaGreatDoorW19
set_option linter.unusedVariables false
set_option linter.unusedSimpArgs false
set_option maxHeartbeats 4000000
set_option maxRecDepth 100000
set_option linter.defProp false
namespace Go.Proofs.YtmalodjbhonipaaGreatDoor
open Go.VM
attribute [local irreducible] AA grd letL
variable{N n:Nat}{m:MS}{Q:PQ}{args:List AVal}
instance WK:CF vE (Kr N) 4 [] (fun r=>.bool r):=Ae (Kr.eq_1 ..) Tryz.func4 rfl Tryz.ntmps4 Tryz.results4 [(3,[],.stop)]
theorem Yk {r} (h:Kr N=some r) (ha:args=[]) (hQ: ∀n',n≤n'→Gl (Q (.bool r) ⟨m,n'⟩)):ACall vE 4 args ⟨m,n⟩ Q:=ha▸WK.go h hQ
end Go.Proofs.YtmalodjbhonipaaGreatDoor
