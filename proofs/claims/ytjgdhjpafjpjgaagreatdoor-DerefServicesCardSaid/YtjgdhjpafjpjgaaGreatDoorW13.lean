import Derived.Test.YtjgdhjpafjpjgaaGreatDoorVmFacts
import Derived.Test.YtjgdhjpafjpjgaaGreatDoorDefs
import Derived.Test.YtjgdhjpafjpjgaaGreatDoorVM7
import Derived.Test.YtjgdhjpafjpjgaaGreatDoorW0
import Derived.Test.YtjgdhjpafjpjgaaGreatDoorW2
import Derived.Test.YtjgdhjpafjpjgaaGreatDoorW4
import Derived.Test.YtjgdhjpafjpjgaaGreatDoorW7
import Derived.Test.YtjgdhjpafjpjgaaGreatDoorW9
import Derived.Test.YtjgdhjpafjpjgaaGreatDoorW11
import Derived.Test.YtjgdhjpafjpjgaaGreatDoorW12
set_option linter.unusedVariables false
set_option linter.unusedSimpArgs false
set_option maxHeartbeats 4000000
set_option maxRecDepth 100000
set_option linter.defProp false
namespace Go.Proofs.YtjgdhjpafjpjgaaGreatDoor
open Go.VM
attribute [local irreducible] AA grd letL
variable{N n:Nat}{m:MS}{Q:PQ}{args:List AVal}
@[instance_reducible, instance] def AOh {a0 k2 k s7 s8} := LF.mk (X := Er N a0 k2 k s7 s8) (G := fun k (s : (List UInt8) × Int) => Er N a0 k2 k s.1 s.2) (s := (s7, s8)) (js := [(4, 3), (9, 6), (17, 53)]) (cs := [7, 8]) (V := fun s => [.str s.1, .int .i64 s.2]) (Ms := fun s => []) rfl (fun s => Er.eq_1 ..) (fun k s => Er.eq_2 ..)
instance AVC {a0 a1}:CF vE (LW N a0 a1) 149 [.str a0,.int .i64 a1] (fun r=>.tuple [.str r.1,.int .i64 r.2.1,.int .i64 r.2.2]):=mkF (LW.eq_1 ..) Tryz.func149 rfl Tryz.ntmps149 Tryz.results149 [] false fun r n m R hR h hD=>tW
instance AOY {a0}:CF vE (Im N a0) 152 [.str a0] (fun r=>.tuple [.str r.1,.int .i64 r.2]):=mkF (Im.eq_1 ..) Tryz.func152 rfl Tryz.ntmps152 Tryz.results152 [(5,[],.stop)] false fun r n m R hR h hD=>tW
@[instance_reducible, instance] def AOD {k4 xs} := LQ.mk (X := EY N k4 xs) (G := fun xs i (s : Unit) => EY N k4 xs) (s := ()) (js := [(2, 1), (5, 3), (16, 11)]) (cs := [15]) (V := fun i s => [.int .i64 i]) (Ms := fun i s => []) (fun _ => rfl) (fun i s => EY.eq_1 ..) (fun x xs i s => EY.eq_2 ..)
instance AT6 {a0}:CF vE (KX N a0) 208 [.str a0] (fun r=>.bool r):=mkF (KX.eq_1 ..) Tryz.func208 rfl Tryz.ntmps208 Tryz.results208 [] false fun r n m R hR h hD=>tW
instance AOp {a0 a1}:CF vE (Il N a0 a1) 215 [GM a0,.str a1] (fun r=>.tuple [CR r.1,.int .i64 r.2]):=mkF (Il.eq_1 ..) Tryz.func215 rfl Tryz.ntmps215 Tryz.results215 [(3,[],.stop)] false fun r n m R hR h hD=>tW
instance AT3 {a0}:CF vE (Kg N a0) 178 [.str a0] (fun r=>.tuple [Fb r.1,.int .i64 r.2]):=mkF (Kg.eq_1 ..) Tryz.func178 rfl Tryz.ntmps178 Tryz.results178 [] false fun r n m R hR h hD=>tW
end Go.Proofs.YtjgdhjpafjpjgaaGreatDoor
