import Derived.Test.YtjmejdocgdbklaaGreatDoorVmFacts
import Derived.Test.YtjmejdocgdbklaaGreatDoorDefs
import Derived.Test.YtjmejdocgdbklaaGreatDoorVM7
import Derived.Test.YtjmejdocgdbklaaGreatDoorW1
import Derived.Test.YtjmejdocgdbklaaGreatDoorW12
import Derived.Test.YtjmejdocgdbklaaGreatDoorW14
import Derived.Test.YtjmejdocgdbklaaGreatDoorW18
import Derived.Test.YtjmejdocgdbklaaGreatDoorW20
import Derived.Test.YtjmejdocgdbklaaGreatDoorW23
import Derived.Test.YtjmejdocgdbklaaGreatDoorW26
set_option linter.unusedVariables false
set_option linter.unusedSimpArgs false
set_option maxHeartbeats 4000000
set_option maxRecDepth 100000
set_option linter.defProp false
namespace Go.Proofs.YtjmejdocgdbklaaGreatDoor
open Go.VM
attribute [local irreducible] AB grd letL
variable{N n:Nat}{m:MS}{Q:PQ}{args:List AVal}
instance AbO {a0 a1}:CF vE (Jp N a0 a1) 7 [Im a0,Cy a1] (λr=>.tuple [AP r.1,.int .i64 r.2]):=AZ (Jp.eq_1 ..) Tryz.func7 rfl Tryz.ntmps7 Tryz.results7 [(9,[],.stop),(17,[],.take 0 (.take 1 (.take 2 (.alt 3 [1,0] (.alt 4 [2,0] (.take 5 (.done)) (.stop)) (.stop)))))] true
end Go.Proofs.YtjmejdocgdbklaaGreatDoor
