import Derived.Test.YtjmejdocgdbklaaGreatDoorVmFacts
import Derived.Test.YtjmejdocgdbklaaGreatDoorDefs
import Derived.Test.YtjmejdocgdbklaaGreatDoorVM7
import Derived.Test.YtjmejdocgdbklaaGreatDoorW0
import Derived.Test.YtjmejdocgdbklaaGreatDoorW2
import Derived.Test.YtjmejdocgdbklaaGreatDoorW3
import Derived.Test.YtjmejdocgdbklaaGreatDoorW5
import Derived.Test.YtjmejdocgdbklaaGreatDoorW6
import Derived.Test.YtjmejdocgdbklaaGreatDoorW7
import Derived.Test.YtjmejdocgdbklaaGreatDoorW9
import Derived.Test.YtjmejdocgdbklaaGreatDoorW10
import Derived.Test.YtjmejdocgdbklaaGreatDoorW11
import Derived.Test.YtjmejdocgdbklaaGreatDoorW12
import Derived.Test.YtjmejdocgdbklaaGreatDoorW13
import Derived.Test.YtjmejdocgdbklaaGreatDoorW14
import Derived.Test.YtjmejdocgdbklaaGreatDoorW16
set_option linter.unusedVariables false
set_option linter.unusedSimpArgs false
set_option maxHeartbeats 4000000
set_option maxRecDepth 100000
set_option linter.defProp false
namespace Go.Proofs.YtjmejdocgdbklaaGreatDoor
open Go.VM
attribute [local irreducible] AB grd letL
variable{N n:Nat}{m:MS}{Q:PQ}{args:List AVal}
instance AKS {a0}:CB vE (Fw N a0) 54 (λi0=>[.ptr i0 0]) (λi0=>[.str a0.s,.int .i64 a0.at_]) (λr=>.tuple [.str r.1,.bool r.2.1]) (λi0 r=>[.str r.2.2.s,.int .i64 r.2.2.at_]):=G5 (Fw.eq_1 ..) Tryz.func54 rfl Tryz.ntmps54 Tryz.results54 [(1,[],.take 0 (.alt 1 [] (.take 2 (.take 3 (.take 4 (.take 5 (.take 6 (.take 7 (.take 8 (.take 9 (.take 10 (.take 11 (.take 12 (.take 13 (.take 14 (.done)))))))))))))) (.stop)))]
instance Aa9 {a0}:CT vE (Ig N a0) 48 (λi0=>[.str a0.s,.int .i64 a0.at_]) (λr=>.tuple [.str r.1,.bool r.2.1]) (λi0 r=>[.str r.2.2.s,.int .i64 r.2.2.at_]):=AqU (Ig.eq_1 ..) Tryz.func48 rfl Tryz.ntmps48 Tryz.results48
@[reducible,instance] def AF9 {k2 k bn_addr bn_buf bi0_s bi0_at_} := LF.mk (X := Cb N k2 k bn_addr bn_buf bi0_s bi0_at_) (G := λk (s : Bool × B8 × B8 × Int) => Cb N k2 k s.1 s.2.1 s.2.2.1 s.2.2.2) (s := (bn_addr, bn_buf, bi0_s, bi0_at_)) (js := [(2, 2), (5, 4), (16, 50)]) (cs := []) (V := λs => []) (Ms := λs => [.t (λq => [KI q 155 2 s.1, .buf 5 s.2.1 true]), .s ([.str s.2.2.1, .int .i64 s.2.2.2])]) rfl (λs => Cb.eq_1 ..) (λk s => Cb.eq_2 ..)
instance ARO {a0}:CB vE (Jd N a0) 153 (λi0=>[.ptr i0 0]) (λi0=>[.str a0.s,.int .i64 a0.at_]) (λr=>.tuple [.str r.1,.int .i64 r.2.1]) (λi0 r=>[.str r.2.2.s,.int .i64 r.2.2.at_]):=G5 (Jd.eq_1 ..) Tryz.func153 rfl Tryz.ntmps153 Tryz.results153 [(3,[],.take 0 (.take 1 (.take 2 (.take 3 (.take 4 (.take 5 (.take 6 (.take 7 (.take 8 (.take 9 (.done))))))))))),(5,[],.take 0 (.take 1 (.take 2 (.take 3 (.take 4 (.take 5 (.take 6 (.take 7 (.take 8 (.alt 9 [] (.done) (.stop)))))))))))]
instance AZy {a0}:CF vE (LB N a0) 203 [.str a0] (λr=>.int .i64 r):=AZ (LB.eq_1 ..) Tryz.func203 rfl Tryz.ntmps203 Tryz.results203
instance Adn {a0}:CF vE (JO N a0) 58 [.str a0] (λr=>.tuple [Cy r.1,.int .i64 r.2]):=AZ (JO.eq_1 ..) Tryz.func58 rfl Tryz.ntmps58 Tryz.results58 [(14,[],.stop)]
instance Aln {a0}:CF vE (OM N a0) 246 [.str a0] (λr=>.tuple [.str r.1,.int .i64 r.2]):=AZ (OM.eq_1 ..) Tryz.func246 rfl Tryz.ntmps246 Tryz.results246 [(5,[],.stop)]
@[reducible,instance] def V7 {k2 xs bn_addr bn_buf bi1_0} := LQ.mk (X := A8 N k2 xs bn_addr bn_buf bi1_0) (G := λxs i (s : Bool × B8 × DidwebMapper) => A8 N k2 xs s.1 s.2.1 s.2.2) (s := (bn_addr, bn_buf, bi1_0)) (js := [(7, 1), (11, 8)]) (cs := [10]) (V := λi s => [.int .i64 i]) (Ms := λi s => [.t (λq => [KI q 155 2 s.1, .buf 5 s.2.1 true]), .s ([.int .i64 s.2.2.e])]) (λ_ => rfl) (λi s => A8.eq_1 ..) (λx xs i s => A8.eq_2 ..)
instance X0 {a0 b1_0}:CB vE (Dw N a0 b1_0) 281 (λi1_0=>[.slice 1 (List.map AVal.str a0) false,.fn (.func 282) [.ptr i1_0 0] []]) (λi1_0=>[.int .i64 b1_0.e]) (λr=>.str r.1) (λi1_0 r=>[.int .i64 r.2.e]):=G5 (Dw.eq_1 ..) Tryz.func281 rfl Tryz.ntmps281 Tryz.results281
@[reducible,instance] def U3 {k2 xs bn_addr bn_buf bi1_0} := LQ.mk (X := Am N k2 xs bn_addr bn_buf bi1_0) (G := λxs i (s : Bool × B8 × DidwebMapper) => Am N k2 xs s.1 s.2.1 s.2.2) (s := (bn_addr, bn_buf, bi1_0)) (js := [(7, 1), (11, 8)]) (cs := [10]) (V := λi s => [.int .i64 i]) (Ms := λi s => [.t (λq => [KI q 155 2 s.1, .buf 5 s.2.1 true]), .s ([.int .i64 s.2.2.e])]) (λ_ => rfl) (λi s => Am.eq_1 ..) (λx xs i s => Am.eq_2 ..)
instance WI {a0 b1_0}:CB vE (CV N a0 b1_0) 281 (λi1_0=>[.slice 1 (List.map AVal.str a0) false,.fn (.func 284) [.ptr i1_0 0] []]) (λi1_0=>[.int .i64 b1_0.e]) (λr=>.str r.1) (λi1_0 r=>[.int .i64 r.2.e]):=G5 (CV.eq_1 ..) Tryz.func281 rfl Tryz.ntmps281 Tryz.results281
instance Ahf {a0}:CF vE (Oi N a0) 31 [.str a0] (λr=>.tuple [Po r.1,.int .i64 r.2]):=AZ (Oi.eq_1 ..) Tryz.func31 rfl Tryz.ntmps31 Tryz.results31 [(3,[],.stop),(10,[],.stop)]
@[reducible,instance] def AXC {x8 k18 k s5} := LC.mk (X := GZ N x8 k18 k s5) (G := λk i (s : Unit) => GZ N x8 k18 k i) (i := s5) (k := k) (s := ()) (js := [(3, 1), (41, 18)]) (cs := [5]) (V := λi s => [.int .i64 i]) (Ms := λi s => []) rfl (λi s => GZ.eq_1 ..) (λk i s => GZ.eq_2 ..)
instance Ahy {a0}:CF vE (Oo N a0) 33 [.str a0] (λr=>.tuple [QB r.1,.int .i64 r.2]):=AZ (Oo.eq_1 ..) Tryz.func33 rfl Tryz.ntmps33 Tryz.results33 [(3,[],.stop),(7,[],.stop),(12,[],.stop)]
instance Ahz {a0}:CF vE (M8 N a0) 137 [.str a0] (λr=>.tuple [FJ r.1,.int .i64 r.2]):=AZ (M8.eq_1 ..) Tryz.func137 rfl Tryz.ntmps137 Tryz.results137
@[reducible,instance] def AbH {a0 k2 k s7 s8} := LF.mk (X := Eh N a0 k2 k s7 s8) (G := λk (s : B8 × Int) => Eh N a0 k2 k s.1 s.2) (s := (s7, s8)) (js := [(4, 3), (9, 6), (17, 53)]) (cs := [7, 8]) (V := λs => [.str s.1, .int .i64 s.2]) (Ms := λs => []) rfl (λs => Eh.eq_1 ..) (λk s => Eh.eq_2 ..)
instance Ak7 {a0 a1}:CF vE (Mm N a0 a1) 183 [.str a0,.int .i64 a1] (λr=>.tuple [.str r.1,.int .i64 r.2.1,.int .i64 r.2.2]):=AZ (Mm.eq_1 ..) Tryz.func183 rfl Tryz.ntmps183 Tryz.results183
instance AbG {a0 a1}:CF vE (MW N a0 a1) 184 [Cy a0,.str a1] (λr=>.tuple [KN r.1,.int .i64 r.2]):=AZ (MW.eq_1 ..) Tryz.func184 rfl Tryz.ntmps184 Tryz.results184 [(3,[],.stop)]
end Go.Proofs.YtjmejdocgdbklaaGreatDoor
