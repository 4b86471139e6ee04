import Derived.Test.YtjmejdocgdbklaaGreatDoorVmFacts
import Derived.Test.YtjmejdocgdbklaaGreatDoorDefs
import Derived.Test.YtjmejdocgdbklaaGreatDoorVM7
import Derived.Test.YtjmejdocgdbklaaGreatDoorW0
import Derived.Test.YtjmejdocgdbklaaGreatDoorW1
import Derived.Test.YtjmejdocgdbklaaGreatDoorW3
import Derived.Test.YtjmejdocgdbklaaGreatDoorW5
import Derived.Test.YtjmejdocgdbklaaGreatDoorW6
import Derived.Test.YtjmejdocgdbklaaGreatDoorW9
import Derived.Test.YtjmejdocgdbklaaGreatDoorW10
import Derived.Test.YtjmejdocgdbklaaGreatDoorW12
import Derived.Test.YtjmejdocgdbklaaGreatDoorW13
set_option linter.unusedVariables false
set_option linter.unusedSimpArgs false
set_option maxHeartbeats 4000000
set_option maxRecDepth 100000
set_option linter.defProp false
namespace Go.Proofs.YtjmejdocgdbklaaGreatDoor
open Go.VM
attribute [local irreducible] AB grd letL
variable{N n:Nat}{m:MS}{Q:PQ}{args:List AVal}
@[reducible,instance] def Sg {k2 k bi0_s bi0_at_} := LF.mk (X := Ae N k2 k bi0_s bi0_at_) (G := λk (s : B8 × Int) => Ae N k2 k s.1 s.2) (s := (bi0_s, bi0_at_)) (js := [(10, 23)]) (cs := []) (V := λs => []) (Ms := λs => [.s ([.str s.1, .int .i64 s.2])]) rfl (λs => Ae.eq_1 ..) (λk s => Ae.eq_2 ..)
instance Uf {a0}:CB vE (Dn N a0) 99 (λi0=>[.ptr i0 0,.fn (.func 100) [] []]) (λi0=>[.str a0.s,.int .i64 a0.at_]) (λr=>.str r.1) (λi0 r=>[.str r.2.s,.int .i64 r.2.at_]):=G5 (Dn.eq_1 ..) Tryz.func99 rfl Tryz.ntmps99 Tryz.results99 [(2,[],.take 0 (.alt 1 [] (.take 2 (.take 3 (.take 4 (.take 5 (.take 6 (.take 7 (.take 8 (.take 9 (.take 10 (.take 11 (.take 12 (.take 13 (.alt 14 [12,11,10,9,8,7,6,5,2,0] (.take 15 (.done)) (.stop)))))))))))))) (.stop))),(4,[],.take 0 (.take 1 (.take 2 (.take 3 (.take 4 (.take 5 (.take 6 (.take 7 (.take 8 (.take 9 (.alt 10 [] (.done) (.stop))))))))))))]
instance AhG {a0}:CF vE (Ol N a0) 16 [JM a0] (λr=>.bool r):=AZ (Ol.eq_1 ..) Tryz.func16 rfl Tryz.ntmps16 Tryz.results16
instance ARP {a0}:CB vE (IA N a0) 227 (λi0=>[.ptr i0 0]) (λi0=>[.str a0.s,.int .i64 a0.at_]) (λr=>.tuple [.int .i64 r.1,.bool r.2.1]) (λi0 r=>[.str r.2.2.s,.int .i64 r.2.2.at_]):=G5 (IA.eq_1 ..) Tryz.func227 rfl Tryz.ntmps227 Tryz.results227 [(1,[],.take 0 (.take 1 (.take 2 (.take 3 (.take 4 (.take 5 (.take 6 (.take 7 (.take 8 (.take 9 (.take 10 (.take 11 (.take 12 (.take 13 (.take 14 (.take 15 (.take 16 (.take 17 (.take 18 (.take 19 (.take 20 (.take 21 (.take 22 (.take 23 (.take 24 (.take 25 (.take 26 (.take 27 (.done))))))))))))))))))))))))))))),(3,[],.take 0 (.take 1 (.take 2 (.take 3 (.take 4 (.take 5 (.take 6 (.take 7 (.take 8 (.take 9 (.take 10 (.take 11 (.take 12 (.take 13 (.take 14 (.alt 15 [13,12,11,10,9,8,7,6,5,4,3,2,1,0] (.take 16 (.alt 17 [14,13,12,11,10,9,8,7,6,5,4,3,2,1,0] (.alt 18 [14,13,12,11,10,9,8,7,6,5,4,3,2,1,0] (.alt 19 [] (.alt 20 [] (.done) (.stop)) (.stop)) (.alt 19 [] (.alt 18 [14,13,12,11,10,9,8,7,6,5,4,3,2,1,0] (.alt 20 [] (.done) (.stop)) (.stop)) (.stop))) (.alt 18 [14,13,12,11,10,9,8,7,6,5,4,3,2,1,0] (.alt 17 [14,13,12,11,10,9,8,7,6,5,4,3,2,1,0] (.alt 19 [] (.alt 20 [] (.done) (.stop)) (.stop)) (.stop)) (.stop)))) (.stop)))))))))))))))))]
@[reducible,instance] def Zn {a1 k2 k s0} := LF.mk (X := Dj N a1 k2 k s0) (G := λk (s : B8) => Dj N a1 k2 k s) (s := s0) (js := [(5, 17)]) (cs := [0]) (V := λs => [.str s]) (Ms := λs => []) rfl (λs => Dj.eq_1 ..) (λk s => Dj.eq_2 ..)
instance ACm {a0 a1}:CF vE (Ju N a0 a1) 233 [.str a0,.str a1] (λr=>.str r):=AZ (Ju.eq_1 ..) Tryz.func233 rfl Tryz.ntmps233 Tryz.results233
@[reducible,instance] def ZA {a1 k2 k s0} := LF.mk (X := DU N a1 k2 k s0) (G := λk (s : B8) => DU N a1 k2 k s) (s := s0) (js := [(5, 28)]) (cs := [0]) (V := λs => [.str s]) (Ms := λs => []) rfl (λs => DU.eq_1 ..) (λk s => DU.eq_2 ..)
instance ABe {a0 a1}:CF vE (Jo N a0 a1) 236 [.str a0,.str a1] (λr=>.str r):=AZ (Jo.eq_1 ..) Tryz.func236 rfl Tryz.ntmps236 Tryz.results236
@[reducible,instance] def AJQ {a0 a1 k2 k s7 bn} := LF.mk (X := CZ N a0 a1 k2 k s7 bn) (G := λk (s : Int × (List Int)) => CZ N a0 a1 k2 k s.1 s.2) (s := (s7, bn)) (js := [(4, 2), (8, 3), (14, 43)]) (cs := [7]) (V := λs => [.int .i64 s.1]) (Ms := λs => [.s ([.slice 1 (List.map (AVal.int .u8) s.2) true])]) rfl (λs => CZ.eq_1 ..) (λk s => CZ.eq_2 ..)
instance ARN {a0 a1}:CF vE (Ck N a0 a1) 164 [.str a0,.str a1] (λr=>.tuple [.str r.1,.int .i64 r.2]):=AZ (Ck.eq_1 ..) Tryz.func164 rfl Tryz.ntmps164 Tryz.results164 [(15,[38],.done),(17,[],.stop),(18,[53],.done)]
instance AQC {a0 a1 a2}:CF vE (strings_ReplaceAll N a0 a1 a2) 167 [.str a0,.str a1,.str a2] (λr=>.str r):=AZ (strings_ReplaceAll.eq_1 ..) Tryz.func167 rfl Tryz.ntmps167 Tryz.results167
instance Aat {a0 a1}:CF vE (strings_Split N a0 a1) 275 [.str a0,.str a1] (λr=>.slice 1 (List.map AVal.str r) false):=AZ (strings_Split.eq_1 ..) Tryz.func275 rfl Tryz.ntmps275 Tryz.results275
instance AbF {a0 a1}:CF vE (Ko N a0 a1) 276 [.str a0,.int .u64 a1] (λr=>.tuple [.int .u64 r.1,.int .i64 r.2]):=AZ (Ko.eq_1 ..) Tryz.func276 rfl Tryz.ntmps276 Tryz.results276 [(1,[],.stop)]
instance AL0 {a0 a1}:CF vE (strings_ContainsAny N a0 a1) 247 [.str a0,.str a1] (λr=>.bool r):=AZ (strings_ContainsAny.eq_1 ..) Tryz.func247 rfl Tryz.ntmps247 Tryz.results247
@[reducible,instance] def ARA {a1 k2 xs bn} := LQ.mk (X := Dp N a1 k2 xs bn) (G := λxs i (s : (List Int)) => Dp N a1 k2 xs s) (s := bn) (js := [(6, 2), (11, 24)]) (cs := [10]) (V := λi s => [.int .i64 i]) (Ms := λi s => [.s ([.slice 1 (List.map (AVal.int .u8) s) true])]) (λ_ => rfl) (λi s => Dp.eq_1 ..) (λx xs i s => Dp.eq_2 ..)
instance AZU {a0 a1}:CF vE (Iy N a0 a1) 250 [.str a0,.str a1] (λr=>.str r):=AZ (Iy.eq_1 ..) Tryz.func250 rfl Tryz.ntmps250 Tryz.results250 [(6,[],.stop),(7,[28],.done)]
instance Alj {a0}:CF vE (OA N a0) 251 [.str a0] (λr=>.tuple [Yz r.1,.int .i64 r.2]):=AZ (OA.eq_1 ..) Tryz.func251 rfl Tryz.ntmps251 Tryz.results251 [(7,[],.stop),(10,[],.take 0 (.take 1 (.take 2 (.take 3 (.take 4 (.take 5 (.take 6 (.take 7 (.alt 8 [6,5,4,3] (.take 9 (.alt 10 [6,5,4,3] (.alt 11 [] (.done) (.stop)) (.stop))) (.stop)))))))))),(17,[],.take 0 (.take 1 (.take 2 (.take 3 (.take 4 (.take 5 (.take 6 (.alt 7 [5,4,3] (.alt 8 [] (.done) (.stop)) (.stop)))))))))]
@[reducible,instance] def AUk {k4 xs} := LQ.mk (X := Fb N k4 xs) (G := λxs i (s : Unit) => Fb N k4 xs) (s := ()) (js := [(2, 1), (5, 3), (13, 11)]) (cs := [12]) (V := λi s => [.int .i64 i]) (Ms := λi s => []) (λ_ => rfl) (λi s => Fb.eq_1 ..) (λx xs i s => Fb.eq_2 ..)
instance AfY {a0}:CF vE (Ld N a0) 85 [.str a0] (λr=>.bool r):=AZ (Ld.eq_1 ..) Tryz.func85 rfl Tryz.ntmps85 Tryz.results85
instance AlD {a0}:CF vE (QH N a0) 190 [.str a0] (λr=>.tuple [.int .i64 r.1,.int .i64 r.2]):=AZ (QH.eq_1 ..) Tryz.func190 rfl Tryz.ntmps190 Tryz.results190 [(2,[],.stop)]
end Go.Proofs.YtjmejdocgdbklaaGreatDoor
