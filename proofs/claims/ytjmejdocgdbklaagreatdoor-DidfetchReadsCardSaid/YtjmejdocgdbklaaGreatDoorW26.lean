import Derived.Test.YtjmejdocgdbklaaGreatDoorVmFacts
import Derived.Test.YtjmejdocgdbklaaGreatDoorDefs
import Derived.Test.YtjmejdocgdbklaaGreatDoorVM7
import Derived.Test.YtjmejdocgdbklaaGreatDoorW3
import Derived.Test.YtjmejdocgdbklaaGreatDoorW8
import Derived.Test.YtjmejdocgdbklaaGreatDoorW13
import Derived.Test.YtjmejdocgdbklaaGreatDoorW16
import Derived.Test.YtjmejdocgdbklaaGreatDoorW21
import Derived.Test.YtjmejdocgdbklaaGreatDoorW22
import Derived.Test.YtjmejdocgdbklaaGreatDoorW25
set_option linter.unusedVariables false
set_option linter.unusedSimpArgs false
set_option maxHeartbeats 4000000
set_option maxRecDepth 100000
set_option linter.defProp false
namespace Go.Proofs.YtjmejdocgdbklaaGreatDoor
open Go.VM
attribute [local irreducible] AB grd letL
variable{N n:Nat}{m:MS}{Q:PQ}{args:List AVal}
instance AlH {a0 a1}:CF vE (Nz N a0 a1) 19 [.str a0,.str a1] (λr=>.bool r):=AZ (Nz.eq_1 ..) Tryz.func19 rfl Tryz.ntmps19 Tryz.results19 [(3,[],.stop)]
instance Akr {a0 a1}:CF vE (QF N a0 a1) 8 [Im a0,Cy a1] (λr=>.tuple [AP r.1,.int .i64 r.2]):=AZ (QF.eq_1 ..) Tryz.func8 rfl Tryz.ntmps8 Tryz.results8 [(6,[],.stop),(14,[],.take 0 (.take 1 (.take 2 (.alt 3 [1,0] (.alt 4 [2,0] (.take 5 (.done)) (.stop)) (.stop)))))] true
end Go.Proofs.YtjmejdocgdbklaaGreatDoor
