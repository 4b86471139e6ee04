import Derived.Test.YtmalodjbhonipaaGreatDoorVmFacts
import Derived.Test.YtmalodjbhonipaaGreatDoorDefs
import Derived.Test.YtmalodjbhonipaaGreatDoorVM7
import Derived.Test.YtmalodjbhonipaaGreatDoorW0
import Derived.Test.YtmalodjbhonipaaGreatDoorW1
import Derived.Test.YtmalodjbhonipaaGreatDoorW3
import Derived.Test.YtmalodjbhonipaaGreatDoorW5
import Derived.Test.YtmalodjbhonipaaGreatDoorW7
import Derived.Test.YtmalodjbhonipaaGreatDoorW9
import Derived.Test.YtmalodjbhonipaaGreatDoorW11
import Derived.Test.YtmalodjbhonipaaGreatDoorW12
import Derived.Test.YtmalodjbhonipaaGreatDoorW14
import Derived.Test.YtmalodjbhonipaaGreatDoorW15
import Derived.Test.YtmalodjbhonipaaGreatDoorW16
set_option linter.unusedVariables false
set_option linter.unusedSimpArgs false
set_option maxHeartbeats 4000000
set_option maxRecDepth 100000
set_option linter.defProp false
namespace Go.Proofs.YtmalodjbhonipaaGreatDoor
open Go.VM
attribute [local irreducible] AA grd letL
variable{N n:Nat}{m:MS}{Q:PQ}{args:List AVal}
instance UW {a0}:CF vE (GI N a0) 5 [.str a0] (fun r=>.tuple [AR r.1,.int .i64 r.2.1,.int .i64 r.2.2]):=Ae (GI.eq_1 ..) Tryz.func5 rfl Tryz.ntmps5 Tryz.results5 [(6,[],.stop),(9,[],.take 1 (.take 2 (.take 3 (.take 4 (.take 5 (.take 6 (.take 7 (.take 8 (.alt 0 [8,7,6,5,4,3,2,1] (.alt 9 [8,7,6,5,4,3,2,1] (.alt 10 [8,7,6,5] (.alt 11 [] (.done) (.stop)) (.stop)) (.stop)) (.stop))))))))))] true
theorem Oe {a0 r} (h:GI N a0=some r) (ha:args=[.str a0]) (hQ: ∀n',n≤n'→Gl (Q (.tuple [AR r.1,.int .i64 r.2.1,.int .i64 r.2.2]) ⟨m,n'⟩)):ACall vE 5 args ⟨m,n⟩ Q:=ha▸UW.go h hQ
instance Uo {a0 a1}:CB vE (ED N a0 a1) 41 (fun i0=>[.ptr i0 0,AR a1]) (fun i0=>[.str a0.did.method,.str a0.did.iD,.int .i64 a0.e]) (fun r=>Cc r.1) (fun i0 r=>[.str r.2.did.method,.str r.2.did.iD,.int .i64 r.2.e]):=KC (ED.eq_1 ..) Tryz.func41 rfl Tryz.ntmps41 Tryz.results41
instance AIM {a0 a1}:CF vE (GY N a0 a1) 18 [Eb a0,.str a1] (fun r=>.tuple [Eb r.1,.int .i64 r.2]):=Ae (GY.eq_1 ..) Tryz.func18 rfl Tryz.ntmps18 Tryz.results18
instance AJV {a0 a1}:CF vE (Gq N a0 a1) 24 [Cc a0,BZ a1] (fun r=>.tuple [.str r.1,.int .i64 r.2]):=Ae (Gq.eq_1 ..) Tryz.func24 rfl Tryz.ntmps24 Tryz.results24 [(11,[],.stop)]
end Go.Proofs.YtmalodjbhonipaaGreatDoor
