import Derived.Test.YtjgdhjpafjpjgaaGreatDoorVmFacts
import Derived.Test.YtjgdhjpafjpjgaaGreatDoorDefs
import Derived.Test.YtjgdhjpafjpjgaaGreatDoorVM7
import Derived.Test.YtjgdhjpafjpjgaaGreatDoorW3
import Derived.Test.YtjgdhjpafjpjgaaGreatDoorW7
import Derived.Test.YtjgdhjpafjpjgaaGreatDoorW8
set_option linter.unusedVariables false
set_option linter.unusedSimpArgs false
set_option maxHeartbeats 4000000
set_option maxRecDepth 100000
set_option linter.defProp false
namespace Go.Proofs.YtjgdhjpafjpjgaaGreatDoor
open Go.VM
attribute [local irreducible] AA grd letL
variable{N n:Nat}{m:MS}{Q:PQ}{args:List AVal}
instance APr {a0 a1}:CF vE (II N a0 a1) 187 [.str a0,.int .u64 a1] (fun r=>.tuple [.int .u64 r.1,.int .i64 r.2]):=mkF (II.eq_1 ..) Tryz.func187 rfl Tryz.ntmps187 Tryz.results187 [(2,[],.stop)] false fun r n m R hR h hD=>tW
instance AOg {a0 a1}:CF vE (Ih N a0 a1) 181 [Eo a0,Eo a1] (fun r=>Eo r):=mkF (Ih.eq_1 ..) Tryz.func181 rfl Tryz.ntmps181 Tryz.results181 [(14,[],.take 0 (.take 1 (.take 2 (.take 3 (.take 4 (.alt 5 [3,2] (.take 6 (.alt 7 [] (.done) (.stop))) (.stop))))))),(15,[],.take 0 (.take 1 (.take 2 (.take 3 (.take 4 (.alt 5 [3,2] (.take 6 (.alt 7 [] (.done) (.stop))) (.stop))))))),(5,[],.take 0 (.take 1 (.take 2 (.take 3 (.take 4 (.alt 5 [3,2] (.take 6 (.alt 7 [] (.done) (.stop))) (.stop))))))),(16,[],.take 0 (.take 1 (.take 2 (.take 3 (.take 4 (.alt 5 [3,2] (.take 6 (.alt 7 [] (.done) (.stop))) (.stop)))))))] false fun r n m R hR h hD=>tW
end Go.Proofs.YtjgdhjpafjpjgaaGreatDoor
