import Derived.Test.YtmalodjbhonipaaGreatDoorVmFacts
import Derived.Test.YtmalodjbhonipaaGreatDoorDefs
import Derived.Test.YtmalodjbhonipaaGreatDoorVM7
import Derived.Test.YtmalodjbhonipaaGreatDoorW0
import Derived.Test.YtmalodjbhonipaaGreatDoorW2
import Derived.Test.YtmalodjbhonipaaGreatDoorW3
set_option linter.unusedVariables false
set_option linter.unusedSimpArgs false
set_option maxHeartbeats 4000000
set_option maxRecDepth 100000
set_option linter.defProp false
namespace Go.Proofs.YtmalodjbhonipaaGreatDoor
open Go.VM
attribute [local irreducible] AA grd letL
variable{N n:Nat}{m:MS}{Q:PQ}{args:List AVal}
@[reducible, instance] def AHn {k2 xs} := LQ.mk (X := Du N k2 xs) (G := fun xs i (s : Unit) => Du N k2 xs) (s := ()) (js := [(2, 1), (4, 23)]) (cs := [3]) (V := fun i s => [.int .i64 i]) (Ms := fun i s => []) (fun _ => rfl) (fun i s => Du.eq_1 ..) (fun x xs i s => Du.eq_2 ..)
instance AOZ {a0}:CF vE (JP N a0) 104 [.str a0] (fun r=>.bool r):=Ae (JP.eq_1 ..) Tryz.func104 rfl Tryz.ntmps104 Tryz.results104 [(4,[],.stop)]
instance ARl {a0}:CF vE (Io N a0) 107 [.int .u8 a0] (fun r=>.bool r):=Ae (Io.eq_1 ..) Tryz.func107 rfl Tryz.ntmps107 Tryz.results107 [(1,[],.stop)]
instance AEv {a0 a1 a2}:CB vE (Db N a0 a1 a2) 55 (fun i0=>[.ptr i0 0,AR a1,.str a2]) (fun i0=>[.str a0.d.method,.str a0.d.iD,.int .i64 a0.fail]) (fun r=>.str r.1) (fun i0 r=>[.str r.2.d.method,.str r.2.d.iD,.int .i64 r.2.fail]):=KC (Db.eq_1 ..) Tryz.func55 rfl Tryz.ntmps55 Tryz.results55
@[reducible, instance] def UL {k12 xs s11 bi0} := LQ.mk (X := BD N k12 xs s11 bi0) (G := fun xs i (s : (List (List UInt8)) × Ref17Reader) => BD N k12 xs s.1 s.2) (s := (s11, bi0)) (js := [(13, 1), (50, 14)]) (cs := [11, 49]) (V := fun i s => [.slice 1 (List.map AVal.str s.1) true, .int .i64 i]) (Ms := fun i s => [.k, .k, .s ([.str s.2.d.method, .str s.2.d.iD, .int .i64 s.2.fail])]) (fun _ => rfl) (fun i s => BD.eq_1 ..) (fun x xs i s => BD.eq_2 ..)
instance Wu {a0 a1 a2 a3}:CB vE (BB N a0 a1 a2 a3) 56 (fun i0=>[.ptr i0 0,AR a1,.str a2,.bool a3]) (fun i0=>[.str a0.d.method,.str a0.d.iD,.int .i64 a0.fail]) (fun r=>.slice 1 (List.map AVal.str r.1) false) (fun i0 r=>[.str r.2.d.method,.str r.2.d.iD,.int .i64 r.2.fail]):=KC (BB.eq_1 ..) Tryz.func56 rfl Tryz.ntmps56 Tryz.results56 [(4,[],.stop),(18,[58],.done)] true
instance Xr {a0 a1 a2}:CB vE (CE N a0 a1 a2) 57 (fun i0=>[.ptr i0 0,AR a1,.str a2]) (fun i0=>[.str a0.d.method,.str a0.d.iD,.int .i64 a0.fail]) (fun r=>.slice 4 (List.map AR r.1) false) (fun i0 r=>[.str r.2.d.method,.str r.2.d.iD,.int .i64 r.2.fail]):=KC (CE.eq_1 ..) Tryz.func57 rfl Tryz.ntmps57 Tryz.results57 [] true
instance ABr {a0}:CF vE (Ec N a0) 157 [.int .u8 a0] (fun r=>.bool r):=Ae (Ec.eq_1 ..) Tryz.func157 rfl Tryz.ntmps157 Tryz.results157 [(1,[],.stop)]
instance AOm {a0}:CF vE (JL N a0) 152 [BZ a0] (fun r=>.str r):=Ae (JL.eq_1 ..) Tryz.func152 rfl Tryz.ntmps152 Tryz.results152 [(1,[],.take 0 (.take 1 (.take 3 (.take 4 (.alt 2 [4,3,0] (.take 5 (.alt 6 [] (.done) (.stop))) (.stop))))))]
instance ALs {a0}:CF vE (Jz N a0) 160 [.int .i64 a0] (fun r=>.str r):=Ae (Jz.eq_1 ..) Tryz.func160 rfl Tryz.ntmps160 Tryz.results160
@[reducible, instance] def AHe {k2 xs s3} := LR.mk (X := CQ N k2 xs s3) (G := fun xs i (s : Unit) => CQ N k2 xs i) (i := s3) (s := ()) (js := [(2, 1), (4, 29)]) (cs := [3]) (V := fun i s => [.int .i64 i]) (Ms := fun i s => []) rfl (fun i s => CQ.eq_1 ..) (fun x xs i s => CQ.eq_2 ..)
instance AMl {a0}:CF vE (Hq N a0) 153 [.str a0] (fun r=>.bool r):=Ae (Hq.eq_1 ..) Tryz.func153 rfl Tryz.ntmps153 Tryz.results153 [(4,[],.stop)]
instance ART {a0 a1}:CF vE (Ik N a0 a1) 113 [.str a0,.str a1] (fun r=>.bool r):=Ae (Ik.eq_1 ..) Tryz.func113 rfl Tryz.ntmps113 Tryz.results113
@[reducible, instance] def AKY {k2 xs} := LQ.mk (X := EJ N k2 xs) (G := fun xs i (s : Unit) => EJ N k2 xs) (s := ()) (js := [(2, 1), (4, 24)]) (cs := [3]) (V := fun i s => [.int .i64 i]) (Ms := fun i s => []) (fun _ => rfl) (fun i s => EJ.eq_1 ..) (fun x xs i s => EJ.eq_2 ..)
instance ARU {a0}:CF vE (J6 N a0) 190 [.str a0] (fun r=>.bool r):=Ae (J6.eq_1 ..) Tryz.func190 rfl Tryz.ntmps190 Tryz.results190 [(4,[],.stop),(6,[],.stop)]
@[reducible, instance] def AHI {k2 xs} := LQ.mk (X := Dq N k2 xs) (G := fun xs i (s : Unit) => Dq N k2 xs) (s := ()) (js := [(2, 1), (4, 11)]) (cs := [3]) (V := fun i s => [.int .i64 i]) (Ms := fun i s => []) (fun _ => rfl) (fun i s => Dq.eq_1 ..) (fun x xs i s => Dq.eq_2 ..)
instance AM3 {a0}:CF vE (JX N a0) 191 [.str a0] (fun r=>.bool r):=Ae (JX.eq_1 ..) Tryz.func191 rfl Tryz.ntmps191 Tryz.results191
end Go.Proofs.YtmalodjbhonipaaGreatDoor
