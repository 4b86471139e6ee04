import Derived.Test.YtmalodjbhonipaaGreatDoorVmFacts
import Derived.Test.YtmalodjbhonipaaGreatDoorDefs
import Derived.Test.YtmalodjbhonipaaGreatDoorVM7
import Derived.Test.YtmalodjbhonipaaGreatDoorW3
import Derived.Test.YtmalodjbhonipaaGreatDoorW7
import Derived.Test.YtmalodjbhonipaaGreatDoorW8
set_option linter.unusedVariables false
set_option linter.unusedSimpArgs false
set_option maxHeartbeats 4000000
set_option maxRecDepth 100000
set_option linter.defProp false
namespace Go.Proofs.YtmalodjbhonipaaGreatDoor
open Go.VM
attribute [local irreducible] AA grd letL
variable{N n:Nat}{m:MS}{Q:PQ}{args:List AVal}
instance AOp {a0 a1}:CF vE (Hr N a0 a1) 180 [.str a0,.int .u64 a1] (fun r=>.tuple [.int .u64 r.1,.int .i64 r.2]):=Ae (Hr.eq_1 ..) Tryz.func180 rfl Tryz.ntmps180 Tryz.results180 [(2,[],.stop)]
instance AL3 {a0 a1}:CF vE (IJ N a0 a1) 118 [Ed a0,Ed a1] (fun r=>Ed r):=Ae (IJ.eq_1 ..) Tryz.func118 rfl Tryz.ntmps118 Tryz.results118 [(14,[],.take 0 (.take 1 (.take 2 (.take 3 (.take 4 (.alt 5 [3,2] (.take 6 (.alt 7 [] (.done) (.stop))) (.stop))))))),(15,[],.take 0 (.take 1 (.take 2 (.take 3 (.take 4 (.alt 5 [3,2] (.take 6 (.alt 7 [] (.done) (.stop))) (.stop))))))),(5,[],.take 0 (.take 1 (.take 2 (.take 3 (.take 4 (.alt 5 [3,2] (.take 6 (.alt 7 [] (.done) (.stop))) (.stop))))))),(16,[],.take 0 (.take 1 (.take 2 (.take 3 (.take 4 (.alt 5 [3,2] (.take 6 (.alt 7 [] (.done) (.stop))) (.stop)))))))]
end Go.Proofs.YtmalodjbhonipaaGreatDoor
