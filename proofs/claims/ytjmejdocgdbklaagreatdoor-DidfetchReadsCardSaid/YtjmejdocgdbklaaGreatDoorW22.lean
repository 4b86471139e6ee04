import Derived.Test.YtjmejdocgdbklaaGreatDoorVmFacts
import Derived.Test.YtjmejdocgdbklaaGreatDoorDefs
import Derived.Test.YtjmejdocgdbklaaGreatDoorVM7
import Derived.Test.YtjmejdocgdbklaaGreatDoorW1
import Derived.Test.YtjmejdocgdbklaaGreatDoorW2
import Derived.Test.YtjmejdocgdbklaaGreatDoorW4
import Derived.Test.YtjmejdocgdbklaaGreatDoorW10
import Derived.Test.YtjmejdocgdbklaaGreatDoorW14
import Derived.Test.YtjmejdocgdbklaaGreatDoorW17
import Derived.Test.YtjmejdocgdbklaaGreatDoorW19
import Derived.Test.YtjmejdocgdbklaaGreatDoorW21
set_option linter.unusedVariables false
set_option linter.unusedSimpArgs false
set_option maxHeartbeats 4000000
set_option maxRecDepth 100000
set_option linter.defProp false
namespace Go.Proofs.YtjmejdocgdbklaaGreatDoor
open Go.VM
attribute [local irreducible] AB grd letL
variable{N n:Nat}{m:MS}{Q:PQ}{args:List AVal}
instance ADg {a0 a1}:CB vE (GH N a0 a1) 65 (λi0=>[.ptr i0 0,AP a1]) (λi0=>[.str a0.did.method,.str a0.did.iD,.int .i64 a0.e]) (λr=>Ej r.1) (λi0 r=>[.str r.2.did.method,.str r.2.did.iD,.int .i64 r.2.e]):=G5 (GH.eq_1 ..) Tryz.func65 rfl Tryz.ntmps65 Tryz.results65
instance AWG {a0}:CF vE (K6 N a0) 258 [Gv a0] (λr=>.tuple [Cy r.1,.int .i64 r.2]):=AZ (K6.eq_1 ..) Tryz.func258 rfl Tryz.ntmps258 Tryz.results258 [(4,[],.stop),(10,[],.take 0 (.take 1 (.take 2 (.take 3 (.take 4 (.alt 5 [3,2,1,0] (.take 6 (.take 7 (.take 8 (.alt 9 [] (.done) (.stop))))) (.stop))))))),(13,[],.take 0 (.take 1 (.take 2 (.take 3 (.take 4 (.take 5 (.take 6 (.take 7 (.alt 8 [5,4,3,2,1,0] (.take 9 (.take 10 (.alt 11 [] (.done) (.stop)))) (.stop)))))))))),(15,[],.take 1 (.take 2 (.alt 0 [2,1] (.alt 3 [2,1] (.alt 4 [] (.done) (.stop)) (.stop)) (.stop))))]
instance AVI {a0}:CF vE (KZ N a0) 89 [Cy a0] (λr=>.tuple [Cy r.1,.int .i64 r.2]):=AZ (KZ.eq_1 ..) Tryz.func89 rfl Tryz.ntmps89 Tryz.results89
instance Ahb {a0}:CF vE (KG N a0) 25 [.str a0] (λr=>.tuple [AP r.1,.int .i64 r.2.1,.int .i64 r.2.2]):=AZ (KG.eq_1 ..) Tryz.func25 rfl Tryz.ntmps25 Tryz.results25 [(6,[],.stop),(9,[],.take 1 (.take 2 (.take 3 (.take 4 (.take 5 (.take 6 (.take 7 (.take 8 (.alt 0 [8,7,6,5,4,3,2,1] (.alt 9 [8,7,6,5,4,3,2,1] (.alt 10 [8,7,6,5] (.alt 11 [] (.done) (.stop)) (.stop)) (.stop)) (.stop))))))))))] true
end Go.Proofs.YtjmejdocgdbklaaGreatDoor
