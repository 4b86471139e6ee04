import Derived.Test.YtmalodjbhonipaaGreatDoorVmFacts
import Derived.Test.YtmalodjbhonipaaGreatDoorDefs
import Derived.Test.YtmalodjbhonipaaGreatDoorVM7
import Derived.Test.YtmalodjbhonipaaGreatDoorW0
import Derived.Test.YtmalodjbhonipaaGreatDoorW2
import Derived.Test.YtmalodjbhonipaaGreatDoorW4
import Derived.Test.YtmalodjbhonipaaGreatDoorW5
import Derived.Test.YtmalodjbhonipaaGreatDoorW7
import Derived.Test.YtmalodjbhonipaaGreatDoorW9
import Derived.Test.YtmalodjbhonipaaGreatDoorW11
import Derived.Test.YtmalodjbhonipaaGreatDoorW12
set_option linter.unusedVariables false
set_option linter.unusedSimpArgs false
set_option maxHeartbeats 4000000
set_option maxRecDepth 100000
set_option linter.defProp false
namespace Go.Proofs.YtmalodjbhonipaaGreatDoor
open Go.VM
attribute [local irreducible] AA grd letL
variable{N n:Nat}{m:MS}{Q:PQ}{args:List AVal}
@[reducible, instance] def AL5 {a0 k2 k s7 s8} := LF.mk (X := Ei N a0 k2 k s7 s8) (G := fun k (s : (List UInt8) × Int) => Ei N a0 k2 k s.1 s.2) (s := (s7, s8)) (js := [(4, 3), (9, 6), (17, 53)]) (cs := [7, 8]) (V := fun s => [.str s.1, .int .i64 s.2]) (Ms := fun s => []) rfl (fun s => Ei.eq_1 ..) (fun k s => Ei.eq_2 ..)
instance ATi {a0 a1}:CF vE (K4 N a0 a1) 75 [.str a0,.int .i64 a1] (fun r=>.tuple [.str r.1,.int .i64 r.2.1,.int .i64 r.2.2]):=Ae (K4.eq_1 ..) Tryz.func75 rfl Tryz.ntmps75 Tryz.results75
instance ANg {a0}:CF vE (Hm N a0) 34 [.str a0] (fun r=>.tuple [Jy r.1,.int .i64 r.2]):=Ae (Hm.eq_1 ..) Tryz.func34 rfl Tryz.ntmps34 Tryz.results34 [(14,[],.stop)]
instance AUr {a0}:CF vE (MG N a0) 91 [.str a0] (fun r=>.tuple [.str r.1,.int .i64 r.2]):=Ae (MG.eq_1 ..) Tryz.func91 rfl Tryz.ntmps91 Tryz.results91 [(5,[],.stop)]
instance AL1 {a0 a1}:CF vE (IU N a0 a1) 151 [Jy a0,.str a1] (fun r=>.tuple [BZ r.1,.int .i64 r.2]):=Ae (IU.eq_1 ..) Tryz.func151 rfl Tryz.ntmps151 Tryz.results151 [(3,[],.stop)]
instance ARm {a0}:CF vE (KF N a0) 114 [.str a0] (fun r=>.tuple [FV r.1,.int .i64 r.2]):=Ae (KF.eq_1 ..) Tryz.func114 rfl Tryz.ntmps114 Tryz.results114
end Go.Proofs.YtmalodjbhonipaaGreatDoor
