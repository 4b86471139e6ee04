import Derived.Test.YtjgdhjpafjpjgaaGreatDoorVmFacts
import Derived.Test.YtjgdhjpafjpjgaaGreatDoorDefs
import Derived.Test.YtjgdhjpafjpjgaaGreatDoorVM7
import Derived.Test.YtjgdhjpafjpjgaaGreatDoorW11
import Derived.Test.YtjgdhjpafjpjgaaGreatDoorW17
import Derived.Test.YtjgdhjpafjpjgaaGreatDoorW20
set_option linter.unusedVariables false
set_option linter.unusedSimpArgs false
set_option maxHeartbeats 4000000
set_option maxRecDepth 100000
set_option linter.defProp false
namespace Go.Proofs.YtjgdhjpafjpjgaaGreatDoor
open Go.VM
attribute [local irreducible] AA grd letL
variable{N n:Nat}{m:MS}{Q:PQ}{args:List AVal}
instance AWS:CF vE (NS N) 16 [] (fun r=>.bool r):=mkF (NS.eq_1 ..) Tryz.func16 rfl Tryz.ntmps16 Tryz.results16 [(3,[],.stop)] false fun r n m R hR h hD=>tW
end Go.Proofs.YtjgdhjpafjpjgaaGreatDoor
