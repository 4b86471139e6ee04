import Derived.Test.YtmalodjbhonipaaGreatDoorVmFacts
import Derived.Test.YtmalodjbhonipaaGreatDoorDefs
import Derived.Test.YtmalodjbhonipaaGreatDoorVM7
import Derived.Test.YtmalodjbhonipaaGreatDoorW0
import Derived.Test.YtmalodjbhonipaaGreatDoorW1
import Derived.Test.YtmalodjbhonipaaGreatDoorW7
import Derived.Test.YtmalodjbhonipaaGreatDoorW12
import Derived.Test.YtmalodjbhonipaaGreatDoorW15
import Derived.Test.YtmalodjbhonipaaGreatDoorW17
import Derived.Test.YtmalodjbhonipaaGreatDoorW18
set_option linter.unusedVariables false
set_option linter.unusedSimpArgs false
set_option maxHeartbeats 4000000
set_option maxRecDepth 100000
set_option linter.defProp false
namespace Go.Proofs.YtmalodjbhonipaaGreatDoor
open Go.VM
attribute [local irreducible] AA grd letL
variable{N n:Nat}{m:MS}{Q:PQ}{args:List AVal}
instance Rx {a0 a1}:CF vE (FN N a0 a1) 6 [AR a0,BZ a1] (fun r=>.tuple [.str r.1,.int .i64 r.2]):=Ae (FN.eq_1 ..) Tryz.func6 rfl Tryz.ntmps6 Tryz.results6 [(6,[],.take 0 (.take 1 (.take 2 (.take 5 (.alt 3 [5,1,0] (.take 4 (.take 6 (.alt 7 [4,5,2,1] (.take 8 (.alt 9 [6,4,5,2,1,0] (.alt 10 [6,4,5,2,1,0] (.alt 11 [] (.alt 12 [] (.done) (.stop)) (.stop)) (.alt 11 [] (.alt 10 [6,4,5,2,1,0] (.alt 12 [] (.done) (.stop)) (.stop)) (.stop))) (.alt 10 [6,4,5,2,1,0] (.alt 9 [6,4,5,2,1,0] (.alt 11 [] (.alt 12 [] (.done) (.stop)) (.stop)) (.stop)) (.stop)))) (.stop)))) (.stop)))))),(7,[],.stop),(13,[],.stop),(17,[],.stop)]
theorem Mw {a0 a1 r} (h:FN N a0 a1=some r) (ha:args=[AR a0,BZ a1]) (hQ: ∀n',n≤n'→Gl (Q (.tuple [.str r.1,.int .i64 r.2]) ⟨m,n'⟩)):ACall vE 6 args ⟨m,n⟩ Q:=ha▸Rx.go h hQ
end Go.Proofs.YtmalodjbhonipaaGreatDoor
