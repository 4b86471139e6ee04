import Derived.Test.YtjmejdocgdbklaaGreatDoorVmFacts
import Derived.Test.YtjmejdocgdbklaaGreatDoorDefs
import Derived.Test.YtjmejdocgdbklaaGreatDoorVM7
import Derived.Test.YtjmejdocgdbklaaGreatDoorW1
import Derived.Test.YtjmejdocgdbklaaGreatDoorW2
import Derived.Test.YtjmejdocgdbklaaGreatDoorW3
import Derived.Test.YtjmejdocgdbklaaGreatDoorW7
import Derived.Test.YtjmejdocgdbklaaGreatDoorW13
import Derived.Test.YtjmejdocgdbklaaGreatDoorW17
import Derived.Test.YtjmejdocgdbklaaGreatDoorW19
import Derived.Test.YtjmejdocgdbklaaGreatDoorW23
set_option linter.unusedVariables false
set_option linter.unusedSimpArgs false
set_option maxHeartbeats 4000000
set_option maxRecDepth 100000
set_option linter.defProp false
namespace Go.Proofs.YtjmejdocgdbklaaGreatDoor
open Go.VM
attribute [local irreducible] AB grd letL
variable{N n:Nat}{m:MS}{Q:PQ}{args:List AVal}
instance ATb {a0}:CF vE (Jz N a0) 174 [.str a0] (λr=>.tuple [MU r.1,.int .i64 r.2]):=AZ (Jz.eq_1 ..) Tryz.func174 rfl Tryz.ntmps174 Tryz.results174 [(10,[],.take 0 (.take 2 (.take 3 (.take 4 (.take 5 (.alt 1 [5,4,3,2] (.alt 6 [4,2,0] (.alt 7 [] (.alt 8 [] (.done) (.stop)) (.stop)) (.stop)) (.stop)))))))]
instance AhK {a0}:CF vE (K9 N a0) 11 [.str a0] (λr=>.tuple [MU r.1,.int .i64 r.2]):=AZ (K9.eq_1 ..) Tryz.func11 rfl Tryz.ntmps11 Tryz.results11 [(11,[],.take 0 (.take 2 (.take 3 (.alt 1 [3,2] (.alt 4 [2,0] (.alt 5 [] (.alt 6 [] (.done) (.stop)) (.stop)) (.stop)) (.stop))))),(16,[],.take 0 (.take 2 (.take 3 (.alt 1 [3,2] (.alt 4 [2,0] (.alt 5 [] (.alt 6 [] (.done) (.stop)) (.stop)) (.stop)) (.stop)))))]
end Go.Proofs.YtjmejdocgdbklaaGreatDoor
