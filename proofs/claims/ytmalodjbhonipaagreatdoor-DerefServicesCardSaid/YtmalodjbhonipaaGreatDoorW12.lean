import Derived.Test.YtmalodjbhonipaaGreatDoorVmFacts
import Derived.Test.YtmalodjbhonipaaGreatDoorDefs
import Derived.Test.YtmalodjbhonipaaGreatDoorVM7
import Derived.Test.YtmalodjbhonipaaGreatDoorW3
import Derived.Test.YtmalodjbhonipaaGreatDoorW4
import Derived.Test.YtmalodjbhonipaaGreatDoorW7
import Derived.Test.YtmalodjbhonipaaGreatDoorW8
import Derived.Test.YtmalodjbhonipaaGreatDoorW9
import Derived.Test.YtmalodjbhonipaaGreatDoorW11
set_option linter.unusedVariables false
set_option linter.unusedSimpArgs false
set_option maxHeartbeats 4000000
set_option maxRecDepth 100000
set_option linter.defProp false
namespace Go.Proofs.YtmalodjbhonipaaGreatDoor
open Go.VM
attribute [local irreducible] AA grd letL
variable{N n:Nat}{m:MS}{Q:PQ}{args:List AVal}
@[reducible, instance] def AHJ {a0 a1 k2 k s20} := LF.mk (X := EN N a0 a1 k2 k s20) (G := fun k (s : Nat) => EN N a0 a1 k2 k s) (s := s20) (js := [(4, 4), (21, 16)]) (cs := [20]) (V := fun s => [.iter ([34, 92, 47, 98, 102, 110, 114, 116] : List UInt8) s]) (Ms := fun s => []) rfl (fun s => EN.eq_1 ..) (fun k s => EN.eq_2 ..)
instance APt {a0 a1}:CF vE (JQ N a0 a1) 127 [.str a0,.int .i64 a1] (fun r=>.tuple [.str r.1,.int .i64 r.2.1,.int .i64 r.2.2]):=Ae (JQ.eq_1 ..) Tryz.func127 rfl Tryz.ntmps127 Tryz.results127 [(5,[],.take 0 (.take 1 (.take 2 (.take 3 (.take 4 (.take 5 (.take 6 (.done)))))))),(10,[],.stop),(14,[],.stop)]
instance AMC {a0}:CF vE (IG N a0) 80 [.str a0] (fun r=>.tuple [.str r.1,.int .i64 r.2]):=Ae (IG.eq_1 ..) Tryz.func80 rfl Tryz.ntmps80 Tryz.results80 [(5,[],.stop)]
instance AON {a0}:CF vE (JU N a0) 13 [BZ a0] (fun r=>.slice 2 (List.map Cu r) false):=Ae (JU.eq_1 ..) Tryz.func13 rfl Tryz.ntmps13 Tryz.results13 [] true
@[reducible, instance] def AKs {k4 xs} := LQ.mk (X := EA N k4 xs) (G := fun xs i (s : Unit) => EA N k4 xs) (s := ()) (js := [(2, 1), (5, 3), (16, 11)]) (cs := [15]) (V := fun i s => [.int .i64 i]) (Ms := fun i s => []) (fun _ => rfl) (fun i s => EA.eq_1 ..) (fun x xs i s => EA.eq_2 ..)
instance ARa {a0}:CF vE (KG N a0) 140 [.str a0] (fun r=>.bool r):=Ae (KG.eq_1 ..) Tryz.func140 rfl Tryz.ntmps140 Tryz.results140
instance AUt {a0}:CF vE (MF N a0) 92 [.str a0] (fun r=>.tuple [.int .i64 r.1,.int .i64 r.2]):=Ae (MF.eq_1 ..) Tryz.func92 rfl Tryz.ntmps92 Tryz.results92 [(2,[],.stop)]
instance ARc {a0}:CF vE (Iq N a0) 177 [.str a0] (fun r=>.tuple [BZ r.1,.int .i64 r.2]):=Ae (Iq.eq_1 ..) Tryz.func177 rfl Tryz.ntmps177 Tryz.results177 [(7,[],.take 0 (.take 2 (.take 3 (.take 4 (.alt 1 [4,3,2] (.alt 5 [4,3,2,0] (.alt 6 [4,3,2] (.alt 7 [] (.done) (.stop)) (.stop)) (.stop)) (.alt 5 [4,3,2,0] (.alt 1 [4,3,2] (.alt 6 [4,3,2] (.alt 7 [] (.done) (.stop)) (.stop)) (.stop)) (.stop))))))),(10,[],.take 0 (.take 1 (.take 2 (.take 3 (.take 4 (.take 5 (.take 6 (.take 7 (.alt 8 [6,5,4] (.take 9 (.alt 10 [6,5,4] (.alt 11 [] (.done) (.stop)) (.stop))) (.stop)))))))))),(13,[],.take 0 (.take 1 (.take 2 (.take 3 (.take 4 (.take 5 (.take 6 (.take 7 (.alt 8 [6,5,4] (.take 9 (.alt 10 [6,5,4] (.alt 11 [] (.done) (.stop)) (.stop))) (.stop))))))))))]
instance ANe {a0}:CF vE (Hf N a0) 22 [BZ a0] (fun r=>.slice 2 (List.map Cu r) false):=Ae (Hf.eq_1 ..) Tryz.func22 rfl Tryz.ntmps22 Tryz.results22 [] true
instance ARz {a0}:CF vE (Kt N a0) 155 [.str a0] (fun r=>.tuple [.str r.1,.int .i64 r.2]):=Ae (Kt.eq_1 ..) Tryz.func155 rfl Tryz.ntmps155 Tryz.results155 [(5,[],.stop)]
end Go.Proofs.YtmalodjbhonipaaGreatDoor
