import Derived.Test.YtmalodjbhonipaaGreatDoorVmFacts
import Derived.Test.YtmalodjbhonipaaGreatDoorDefs
import Derived.Test.YtmalodjbhonipaaGreatDoorVM7
set_option linter.unusedVariables false
set_option linter.unusedSimpArgs false
set_option maxHeartbeats 4000000
set_option maxRecDepth 100000
set_option linter.defProp false
namespace Go.Proofs.YtmalodjbhonipaaGreatDoor
open Go.VM
attribute [local irreducible] AA grd letL
variable{N n:Nat}{m:MS}{Q:PQ}{args:List AVal}
@[reducible, instance] def AGl {k2 k s0 s4 bn} := LF.mk (X := Dx N k2 k s0 s4 bn) (G := fun k (s : Int × Int × (List Int)) => Dx N k2 k s.1 s.2.1 s.2.2) (s := (s0, s4, bn)) (js := [(5, 12)]) (cs := [0, 4]) (V := fun s => [.int .u64 s.1, .int .i64 s.2.1]) (Ms := fun s => [.s (List.map (AVal.int .u8) s.2.2)]) rfl (fun s => Dx.eq_1 ..) (fun k s => Dx.eq_2 ..)
instance AL0 {a0}:CF vE (Gc N a0) 102 [.int .u64 a0] (fun r=>.str r):=Ae (Gc.eq_1 ..) Tryz.func102 rfl Tryz.ntmps102 Tryz.results102
instance AMD {a0}:CF vE (J2 N a0) 52 [Eb a0] (fun r=>FV r):=Ae (J2.eq_1 ..) Tryz.func52 rfl Tryz.ntmps52 Tryz.results52
instance AL4 {a0}:CF vE (IK N a0) 53 [Eb a0] (fun r=>.str r):=Ae (IK.eq_1 ..) Tryz.func53 rfl Tryz.ntmps53 Tryz.results53
instance SX {a0}:CF vE (IR N a0) 162 [.int .i64 a0] (fun r=>.int .i64 r):=Ae (IR.eq_1 ..) Tryz.func162 rfl Tryz.ntmps162 Tryz.results162
instance Ua {a0}:CF vE (CJ N a0) 168 [.int .i32 a0] (fun r=>.bool r):=Ae (CJ.eq_1 ..) Tryz.func168 rfl Tryz.ntmps168 Tryz.results168 [(1,[],.stop),(3,[],.stop)]
instance SH {a0}:CF vE (strings_shouldUseASCIISet N a0) 135 [.int .i64 a0] (fun r=>.bool r):=Ae (strings_shouldUseASCIISet.eq_1 ..) Tryz.func135 rfl Tryz.ntmps135 Tryz.results135
@[reducible, instance] def UM {k2 xs bn} := LQ.mk (X := BF N k2 xs bn) (G := fun xs i (s : (List Bool)) => BF N k2 xs s) (s := bn) (js := [(3, 1), (5, 15)]) (cs := [4]) (V := fun i s => [.int .i64 i]) (Ms := fun i s => [.s (List.map AVal.bool s)]) (fun _ => rfl) (fun i s => BF.eq_1 ..) (fun x xs i s => BF.eq_2 ..)
instance Xk {a0}:CF vE (strings_makeASCIISet N a0) 136 [.str a0] (fun r=>.tuple [.agg (List.map AVal.bool r.1),.bool r.2]):=Ae (strings_makeASCIISet.eq_1 ..) Tryz.func136 rfl Tryz.ntmps136 Tryz.results136
instance SB {a0 a1}:CB vE (DV N a0 a1) 137 (fun i0=>[.ptr i0 0,.int .u8 a1]) (fun i0=>List.map AVal.bool a0) (fun r=>.bool r.1) (fun i0 r=>List.map AVal.bool r.2):=KC (DV.eq_1 ..) Tryz.func137 rfl Tryz.ntmps137 Tryz.results137
@[reducible, instance] def AJj {a0 k2 xs s10 bn} := LR.mk (X := EK N a0 k2 xs s10 bn) (G := fun xs i (s : (List Int)) => EK N a0 k2 xs i s) (i := s10) (s := bn) (js := [(4, 2), (11, 16)]) (cs := [10]) (V := fun i s => [.int .i64 i]) (Ms := fun i s => [.s (List.map (AVal.int .u8) s)]) rfl (fun i s => EK.eq_1 ..) (fun x xs i s => EK.eq_2 ..)
instance ARk {a0}:CF vE (Gr N a0) 89 [.str a0] (fun r=>.str r):=Ae (Gr.eq_1 ..) Tryz.func89 rfl Tryz.ntmps89 Tryz.results89 [(5,[],.stop)]
@[reducible, instance] def M8 {a0 a1 k2 k s5} := LF.mk (X := AV N a0 a1 k2 k s5) (G := fun k (s : Int) => AV N a0 a1 k2 k s) (s := s5) (js := [(4, 1), (9, 10)]) (cs := [5]) (V := fun s => [.int .i64 s]) (Ms := fun s => []) rfl (fun s => AV.eq_1 ..) (fun k s => AV.eq_2 ..)
instance NN {a0 a1}:CF vE (Bt N a0 a1) 147 [.str a0,.int .u8 a1] (fun r=>.int .i64 r):=Ae (Bt.eq_1 ..) Tryz.func147 rfl Tryz.ntmps147 Tryz.results147
instance AHh {a0}:CF vE (EO N a0) 23 [Jy a0] (fun r=>.str r):=Ae (EO.eq_1 ..) Tryz.func23 rfl Tryz.ntmps23 Tryz.results23
instance ANF {a0 a1}:CF vE (Dt N a0 a1) 103 [.str a0,.str a1] (fun r=>.bool r):=Ae (Dt.eq_1 ..) Tryz.func103 rfl Tryz.ntmps103 Tryz.results103 [(1,[],.stop)]
@[reducible, instance] def AJz {a0 a1 k2 xs s7 s5 s6} := LR.mk (X := EH N a0 a1 k2 xs s7 s5 s6) (G := fun xs i (s : (List (List UInt8)) × Int) => EH N a0 a1 k2 xs i s.1 s.2) (i := s7) (s := (s5, s6)) (js := [(8, 20)]) (cs := [5, 6, 7]) (V := fun i s => [.slice 1 (List.map AVal.str s.1) true, .int .i64 s.2, .int .i64 i]) (Ms := fun i s => []) rfl (fun i s => EH.eq_1 ..) (fun x xs i s => EH.eq_2 ..)
instance ARW {a0 a1}:CF vE (GM N a0 a1) 105 [.str a0,.int .u8 a1] (fun r=>.slice 1 (List.map AVal.str r) true):=Ae (GM.eq_1 ..) Tryz.func105 rfl Tryz.ntmps105 Tryz.results105 [(7,[19],.done),(8,[28],.done)]
instance ARO {a0}:CF vE (Il N a0) 176 [.int .u8 a0] (fun r=>.int .u8 r):=Ae (Il.eq_1 ..) Tryz.func176 rfl Tryz.ntmps176 Tryz.results176
end Go.Proofs.YtmalodjbhonipaaGreatDoor
