import Derived.Test.YtmalodjbhonipaaGreatDoorVmFacts
import Derived.Test.YtmalodjbhonipaaGreatDoorDefs
import Derived.Test.YtmalodjbhonipaaGreatDoorVM7
import Derived.Test.YtmalodjbhonipaaGreatDoorW0
import Derived.Test.YtmalodjbhonipaaGreatDoorW3
import Derived.Test.YtmalodjbhonipaaGreatDoorW4
import Derived.Test.YtmalodjbhonipaaGreatDoorW6
import Derived.Test.YtmalodjbhonipaaGreatDoorW7
import Derived.Test.YtmalodjbhonipaaGreatDoorW8
import Derived.Test.YtmalodjbhonipaaGreatDoorW9
import Derived.Test.YtmalodjbhonipaaGreatDoorW11
import Derived.Test.YtmalodjbhonipaaGreatDoorW12
import Derived.Test.YtmalodjbhonipaaGreatDoorW13
set_option linter.unusedVariables false
set_option linter.unusedSimpArgs false
set_option maxHeartbeats 4000000
set_option maxRecDepth 100000
set_option linter.defProp false
namespace Go.Proofs.YtmalodjbhonipaaGreatDoor
open Go.VM
attribute [local irreducible] AA grd letL
variable{N n:Nat}{m:MS}{Q:PQ}{args:List AVal}
@[reducible, instance] def ALx {a0 k6 k s1} := LF.mk (X := FK N a0 k6 k s1) (G := fun k (s : Int) => FK N a0 k6 k s) (s := s1) (js := [(23, 12)]) (cs := [1]) (V := fun s => [.int .i64 s]) (Ms := fun s => []) rfl (fun s => FK.eq_1 ..) (fun k s => FK.eq_2 ..)
@[reducible, instance] def AMB {a0 j5 k34 k s12} := LF.mk (X := FM N a0 j5 k34 k s12) (G := fun k (s : Int) => FM N a0 j5 k34 k s) (s := s12) (js := [(100, 16)]) (cs := [12]) (V := fun s => [.int .i64 s]) (Ms := fun s => []) rfl (fun s => FM.eq_1 ..) (fun k s => FM.eq_2 ..)
instance ATB {a0 a1}:CF vE (LA N a0 a1) 33 [.str a0,.int .i64 a1] (fun r=>.tuple [I7 r.1,.int .i64 r.2.1,.int .i64 r.2.2]):=Ae (LA.eq_1 ..) Tryz.func33 rfl Tryz.ntmps33 Tryz.results33 [(1,[],.stop),(3,[],.stop),(15,[],.stop),(21,[],.stop),(24,[],.stop)]
instance AU1 {a0}:CF vE (Kg N a0) 133 [.str a0] (fun r=>.tuple [BZ r.1,.int .i64 r.2]):=Ae (Kg.eq_1 ..) Tryz.func133 rfl Tryz.ntmps133 Tryz.results133 [(9,[],.take 0 (.take 1 (.take 2 (.take 3 (.take 4 (.take 5 (.alt 6 [5,4] (.take 7 (.alt 8 [] (.done) (.stop))) (.stop))))))))]
instance ASf {a0}:CF vE (Ky N a0) 45 [.str a0] (fun r=>.tuple [FV r.1,.int .i64 r.2]):=Ae (Ky.eq_1 ..) Tryz.func45 rfl Tryz.ntmps45 Tryz.results45
instance AIH {a0 a1}:CB vE (Fb N a0 a1) 110 (fun i0=>[.ptr i0 0,AR a1]) (fun i0=>[.str a0.d.method,.str a0.d.iD,.int .i64 a0.fail]) (fun r=>.str r.1) (fun i0 r=>[.str r.2.d.method,.str r.2.d.iD,.int .i64 r.2.fail]):=KC (Fb.eq_1 ..) Tryz.func110 rfl Tryz.ntmps110 Tryz.results110
instance ARj {a0}:CF vE (GD N a0) 61 [.str a0] (fun r=>.tuple [Eb r.1,.int .i64 r.2]):=Ae (GD.eq_1 ..) Tryz.func61 rfl Tryz.ntmps61 Tryz.results61 [(6,[],.stop),(10,[],.take 0 (.take 1 (.take 3 (.take 4 (.take 5 (.alt 2 [5,4,3,0] (.take 6 (.alt 7 [5,4,3,1,0] (.done) (.stop))) (.stop)))))))]
end Go.Proofs.YtmalodjbhonipaaGreatDoor
