import Derived.Test.YtjmejdocgdbklaaGreatDoorVmFacts
import Derived.Test.YtjmejdocgdbklaaGreatDoorDefs
import Derived.Test.YtjmejdocgdbklaaGreatDoorVM7
import Derived.Test.YtjmejdocgdbklaaGreatDoorW2
import Derived.Test.YtjmejdocgdbklaaGreatDoorW3
import Derived.Test.YtjmejdocgdbklaaGreatDoorW4
set_option linter.unusedVariables false
set_option linter.unusedSimpArgs false
set_option maxHeartbeats 4000000
set_option maxRecDepth 100000
set_option linter.defProp false
namespace Go.Proofs.YtjmejdocgdbklaaGreatDoor
open Go.VM
attribute [local irreducible] AB grd letL
variable{N n:Nat}{m:MS}{Q:PQ}{args:List AVal}
instance Aa5 {a0 a1}:CB vE (En N a0 a1) 39 (λi0=>[.ptr i0 0,.slice 1 (List.map AVal.str a1) false]) (λi0=>[.slice 1 (List.map (AVal.int .u8) a0.l) false]) (λr=>.str r.1) (λi0 r=>[.slice 1 (List.map (AVal.int .u8) r.2.l) false]):=G5 (En.eq_1 ..) Tryz.func39 rfl Tryz.ntmps39 Tryz.results39
instance AbN {a0}:CF vE (OW N a0) 21 [.int .i64 a0] (λr=>.int .i64 r):=AZ (OW.eq_1 ..) Tryz.func21 rfl Tryz.ntmps21 Tryz.results21
instance Aay {a0}:CF vE (MC N a0) 175 [.int .u8 a0] (λr=>.bool r):=AZ (MC.eq_1 ..) Tryz.func175 rfl Tryz.ntmps175 Tryz.results175 [(1,[],.stop)]
@[reducible,instance] def AbJ {a0 k2 k s1} := LF.mk (X := HV N a0 k2 k s1) (G := λk (s : Int) => HV N a0 k2 k s) (s := s1) (js := [(5, 12)]) (cs := [1]) (V := λs => [.int .i64 s]) (Ms := λs => []) rfl (λs => HV.eq_1 ..) (λk s => HV.eq_2 ..)
instance AjT {a0 a1}:CF vE (Mv N a0 a1) 122 [.str a0,.int .i64 a1] (λr=>.int .i64 r):=AZ (Mv.eq_1 ..) Tryz.func122 rfl Tryz.ntmps122 Tryz.results122 [(1,[],.stop)]
@[reducible,instance] def AVb {a0 k7 k s7 s8} := LF.mk (X := Gm N a0 k7 k s7 s8) (G := λk (s : B8 × Int) => Gm N a0 k7 k s.1 s.2) (s := (s7, s8)) (js := [(4, 3), (9, 1), (22, 33)]) (cs := [7, 8]) (V := λs => [.str s.1, .int .i64 s.2]) (Ms := λs => []) rfl (λs => Gm.eq_1 ..) (λk s => Gm.eq_2 ..)
instance Agz {a0 a1}:CF vE (PW N a0 a1) 177 [.str a0,.int .i64 a1] (λr=>.tuple [.str r.1,.int .i64 r.2.1,.bool r.2.2]):=AZ (PW.eq_1 ..) Tryz.func177 rfl Tryz.ntmps177 Tryz.results177 [(2,[],.stop)]
@[reducible,instance] def AdB {a0 k2 k s3} := LF.mk (X := FY N a0 k2 k s3) (G := λk (s : Int) => FY N a0 k2 k s) (s := s3) (js := [(4, 12)]) (cs := [3]) (V := λs => [.int .i64 s]) (Ms := λs => []) rfl (λs => FY.eq_1 ..) (λk s => FY.eq_2 ..)
instance Alq {a0}:CF vE (J4 N a0) 221 [.str a0] (λr=>.int .i64 r):=AZ (J4.eq_1 ..) Tryz.func221 rfl Tryz.ntmps221 Tryz.results221 [(2,[],.stop)]
@[reducible,instance] def ARI {k19 xs s4} := LQ.mk (X := Cj N k19 xs s4) (G := λxs i (s : Int) => Cj N k19 xs s) (s := s4) (js := [(22, 15)]) (cs := [4, 5]) (V := λi s => [.int .i64 s, .int .i64 i]) (Ms := λi s => []) (λ_ => rfl) (λi s => Cj.eq_1 ..) (λx xs i s => Cj.eq_2 ..)
instance AZC {a0}:CF vE (Iz N a0) 179 [.str a0] (λr=>.int .i64 r):=AZ (Iz.eq_1 ..) Tryz.func179 rfl Tryz.ntmps179 Tryz.results179 [(1,[],.stop),(2,[],.stop)]
instance AhN {a0}:CF vE (NA N a0) 182 [.int .u8 a0] (λr=>.bool r):=AZ (NA.eq_1 ..) Tryz.func182 rfl Tryz.ntmps182 Tryz.results182
instance Afs {a0}:CF vE (IU N a0) 260 [.int .i64 a0] (λr=>.tuple [.str r.1,.int .i64 r.2]):=AZ (IU.eq_1 ..) Tryz.func260 rfl Tryz.ntmps260 Tryz.results260
instance ARG {a0 a1 a2}:CB vE (FE N a0 a1 a2) 74 (λi0=>[.ptr i0 0,AP a1,.str a2]) (λi0=>[.str a0.d.method,.str a0.d.iD,.int .i64 a0.fail]) (λr=>.str r.1) (λi0 r=>[.str r.2.d.method,.str r.2.d.iD,.int .i64 r.2.fail]):=G5 (FE.eq_1 ..) Tryz.func74 rfl Tryz.ntmps74 Tryz.results74
@[reducible,instance] def ACp {k12 xs s11 bi0} := LQ.mk (X := CO N k12 xs s11 bi0) (G := λxs i (s : (List B8) × Ref17Reader) => CO N k12 xs s.1 s.2) (s := (s11, bi0)) (js := [(13, 1), (50, 14)]) (cs := [11, 49]) (V := λi s => [.slice 1 (List.map AVal.str s.1) true, .int .i64 i]) (Ms := λi s => [.k, .k, .s ([.str s.2.d.method, .str s.2.d.iD, .int .i64 s.2.fail])]) (λ_ => rfl) (λi s => CO.eq_1 ..) (λx xs i s => CO.eq_2 ..)
instance ALB {a0 a1 a2 a3}:CB vE (Bt N a0 a1 a2 a3) 75 (λi0=>[.ptr i0 0,AP a1,.str a2,.bool a3]) (λi0=>[.str a0.d.method,.str a0.d.iD,.int .i64 a0.fail]) (λr=>.slice 1 (List.map AVal.str r.1) false) (λi0 r=>[.str r.2.d.method,.str r.2.d.iD,.int .i64 r.2.fail]):=G5 (Bt.eq_1 ..) Tryz.func75 rfl Tryz.ntmps75 Tryz.results75 [(4,[],.stop),(18,[58],.done)] true
instance AHA {a0 a1 a2}:CB vE (Dt N a0 a1 a2) 76 (λi0=>[.ptr i0 0,AP a1,.str a2]) (λi0=>[.str a0.d.method,.str a0.d.iD,.int .i64 a0.fail]) (λr=>.slice 4 (List.map AP r.1) false) (λi0 r=>[.str r.2.d.method,.str r.2.d.iD,.int .i64 r.2.fail]):=G5 (Dt.eq_1 ..) Tryz.func76 rfl Tryz.ntmps76 Tryz.results76 [] true
instance Agr {a0}:CF vE (Na N a0) 185 [KN a0] (λr=>.str r):=AZ (Na.eq_1 ..) Tryz.func185 rfl Tryz.ntmps185 Tryz.results185 [(1,[],.take 0 (.take 1 (.take 3 (.take 4 (.alt 2 [4,3,0] (.take 5 (.alt 6 [] (.done) (.stop))) (.stop))))))]
end Go.Proofs.YtjmejdocgdbklaaGreatDoor
