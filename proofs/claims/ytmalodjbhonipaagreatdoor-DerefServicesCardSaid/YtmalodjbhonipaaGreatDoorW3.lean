import Derived.Test.YtmalodjbhonipaaGreatDoorVmFacts
import Derived.Test.YtmalodjbhonipaaGreatDoorDefs
import Derived.Test.YtmalodjbhonipaaGreatDoorVM7
set_option linter.unusedVariables false
set_option linter.unusedSimpArgs false
set_option maxHeartbeats 4000000
set_option maxRecDepth 100000
set_option linter.defProp false
namespace Go.Proofs.YtmalodjbhonipaaGreatDoor
open Go.VM
attribute [local irreducible] AA grd letL
variable{N n:Nat}{m:MS}{Q:PQ}{args:List AVal}
instance AO3 {a0}:CF vE (HY N a0) 150 [.int .u8 a0] (fun r=>.str r):=Ae (HY.eq_1 ..) Tryz.func150 rfl Tryz.ntmps150 Tryz.results150 [(1,[],.take 0 (.take 1 (.take 2 (.take 3 (.take 4 (.take 5 (.take 6 (.alt 7 [5,4,3,2,1,0] (.alt 8 [] (.done) (.stop)) (.stop)))))))))]
instance AEm {a0 a1}:CB vE (Ak N a0 a1) 109 (fun i0=>[.ptr i0 0,.int .i64 a1]) (fun i0=>[.str a0.d.method,.str a0.d.iD,.int .i64 a0.fail]) (fun r=>.tuple []) (fun i0 r=>[.str r.d.method,.str r.d.iD,.int .i64 r.fail]):=KC (Ak.eq_1 ..) Tryz.func109 rfl Tryz.ntmps109 Tryz.results109
@[reducible, instance] def ALK {a1 k2 xs} := LQ.mk (X := EF N a1 k2 xs) (G := fun xs i (s : Unit) => EF N a1 k2 xs) (s := ()) (js := [(4, 2), (7, 1), (11, 10)]) (cs := [10]) (V := fun i s => [.int .i64 i]) (Ms := fun i s => []) (fun _ => rfl) (fun i s => EF.eq_1 ..) (fun x xs i s => EF.eq_2 ..)
instance ARX {a0 a1}:CF vE (I6 N a0 a1) 21 [.slice 2 (List.map Cu a0) false,.str a1] (fun r=>.tuple [.str r.1,.bool r.2]):=Ae (I6.eq_1 ..) Tryz.func21 rfl Tryz.ntmps21 Tryz.results21
instance ATG {a0 a1}:CF vE (Km N a0 a1) 111 [.str a0,.int .i64 a1] (fun r=>.str r):=Ae (Km.eq_1 ..) Tryz.func111 rfl Tryz.ntmps111 Tryz.results111
instance ANV {a0}:CF vE (KW N a0) 121 [Eb a0] (fun r=>FV r):=Ae (KW.eq_1 ..) Tryz.func121 rfl Tryz.ntmps121 Tryz.results121
instance AQl {a0}:CF vE (JJ N a0) 122 [Eb a0] (fun r=>.str r):=Ae (JJ.eq_1 ..) Tryz.func122 rfl Tryz.ntmps122 Tryz.results122
@[reducible, instance] def AIf {a0 k2 xs s9 bn} := LR.mk (X := EG N a0 k2 xs s9 bn) (G := fun xs i (s : (List Int)) => EG N a0 k2 xs i s) (i := s9) (s := bn) (js := [(4, 1), (10, 21)]) (cs := [9]) (V := fun i s => [.int .i64 i]) (Ms := fun i s => [.s (List.map (AVal.int .u8) s)]) rfl (fun i s => EG.eq_1 ..) (fun x xs i s => EG.eq_2 ..)
instance ARn {a0}:CF vE (Gt N a0) 154 [.str a0] (fun r=>.str r):=Ae (Gt.eq_1 ..) Tryz.func154 rfl Tryz.ntmps154 Tryz.results154 [(5,[],.stop)]
@[reducible, instance] def AFB {a0 k2 k s3} := LF.mk (X := DL N a0 k2 k s3) (G := fun k (s : Int) => DL N a0 k2 k s) (s := s3) (js := [(2, 1), (7, 11)]) (cs := [3]) (V := fun s => [.int .i64 s]) (Ms := fun s => []) rfl (fun s => DL.eq_1 ..) (fun k s => DL.eq_2 ..)
instance ALr {a0}:CF vE (Gf N a0) 158 [.str a0] (fun r=>.str r):=Ae (Gf.eq_1 ..) Tryz.func158 rfl Tryz.ntmps158 Tryz.results158
@[reducible, instance] def AHY {a0 a1 k6 k s5} := LF.mk (X := Dm N a0 a1 k6 k s5) (G := fun k (s : Int) => Dm N a0 a1 k6 k s) (s := s5) (js := [(4, 1), (20, 17)]) (cs := [5]) (V := fun s => [.int .i64 s]) (Ms := fun s => []) rfl (fun s => Dm.eq_1 ..) (fun k s => Dm.eq_2 ..)
instance AML {a0 a1}:CF vE (JF N a0 a1) 159 [Ed a0,Ed a1] (fun r=>.str r):=Ae (JF.eq_1 ..) Tryz.func159 rfl Tryz.ntmps159 Tryz.results159 [(1,[],.stop),(7,[],.take 0 (.take 1 (.take 2 (.take 3 (.take 4 (.take 5 (.take 6 (.take 7 (.alt 8 [] (.done) (.stop))))))))))]
instance ASu {a0}:CF vE (LH N a0) 119 [Ed a0] (fun r=>.str r):=Ae (LH.eq_1 ..) Tryz.func119 rfl Tryz.ntmps119 Tryz.results119
end Go.Proofs.YtmalodjbhonipaaGreatDoor
