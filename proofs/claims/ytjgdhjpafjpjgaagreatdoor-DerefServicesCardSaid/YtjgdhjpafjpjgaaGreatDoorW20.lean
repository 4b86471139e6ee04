import Derived.Test.YtjgdhjpafjpjgaaGreatDoorVmFacts
import Derived.Test.YtjgdhjpafjpjgaaGreatDoorDefs
import Derived.Test.YtjgdhjpafjpjgaaGreatDoorVM7
import Derived.Test.YtjgdhjpafjpjgaaGreatDoorW1
import Derived.Test.YtjgdhjpafjpjgaaGreatDoorW2
import Derived.Test.YtjgdhjpafjpjgaaGreatDoorW7
import Derived.Test.YtjgdhjpafjpjgaaGreatDoorW12
import Derived.Test.YtjgdhjpafjpjgaaGreatDoorW16
import Derived.Test.YtjgdhjpafjpjgaaGreatDoorW18
import Derived.Test.YtjgdhjpafjpjgaaGreatDoorW19
set_option linter.unusedVariables false
set_option linter.unusedSimpArgs false
set_option maxHeartbeats 4000000
set_option maxRecDepth 100000
set_option linter.defProp false
namespace Go.Proofs.YtjgdhjpafjpjgaaGreatDoor
open Go.VM
attribute [local irreducible] AA grd letL
variable{N n:Nat}{m:MS}{Q:PQ}{args:List AVal}
instance AOc {a0 a1}:CF vE (F5 N a0 a1) 21 [AC a0,CR a1] (fun r=>.tuple [.str r.1,.int .i64 r.2]):=mkF (F5.eq_1 ..) Tryz.func21 rfl Tryz.ntmps21 Tryz.results21 [(6,[],.take 0 (.take 1 (.take 2 (.take 5 (.alt 3 [5,1,0] (.take 4 (.take 6 (.alt 7 [4,5,2,1] (.take 8 (.alt 9 [6,4,5,2,1,0] (.alt 10 [6,4,5,2,1,0] (.alt 11 [] (.alt 12 [] (.done) (.stop)) (.stop)) (.alt 11 [] (.alt 10 [6,4,5,2,1,0] (.alt 12 [] (.done) (.stop)) (.stop)) (.stop))) (.alt 10 [6,4,5,2,1,0] (.alt 9 [6,4,5,2,1,0] (.alt 11 [] (.alt 12 [] (.done) (.stop)) (.stop)) (.stop)) (.stop)))) (.stop)))) (.stop)))))),(7,[],.stop),(13,[],.stop),(17,[],.stop)] false fun r n m R hR h hD=>tW
end Go.Proofs.YtjgdhjpafjpjgaaGreatDoor
