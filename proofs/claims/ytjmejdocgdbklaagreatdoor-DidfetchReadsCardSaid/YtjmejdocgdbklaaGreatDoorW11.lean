import Derived.Test.YtjmejdocgdbklaaGreatDoorVmFacts
import Derived.Test.YtjmejdocgdbklaaGreatDoorDefs
import Derived.Test.YtjmejdocgdbklaaGreatDoorVM7
import Derived.Test.YtjmejdocgdbklaaGreatDoorW2
import Derived.Test.YtjmejdocgdbklaaGreatDoorW3
import Derived.Test.YtjmejdocgdbklaaGreatDoorW4
import Derived.Test.YtjmejdocgdbklaaGreatDoorW7
import Derived.Test.YtjmejdocgdbklaaGreatDoorW8
set_option linter.unusedVariables false
set_option linter.unusedSimpArgs false
set_option maxHeartbeats 4000000
set_option maxRecDepth 100000
set_option linter.defProp false
namespace Go.Proofs.YtjmejdocgdbklaaGreatDoor
open Go.VM
attribute [local irreducible] AB grd letL
variable{N n:Nat}{m:MS}{Q:PQ}{args:List AVal}
@[reducible,instance] def AYl {a1 k2 xs} := LQ.mk (X := Co N a1 k2 xs) (G := λxs i (s : Unit) => Co N a1 k2 xs) (s := ()) (js := [(6, 2), (14, 26)]) (cs := [8]) (V := λi s => [.int .i64 i]) (Ms := λi s => []) (λ_ => rfl) (λi s => Co.eq_1 ..) (λx xs i s => Co.eq_2 ..)
@[reducible,instance] def AXZ {a1 a2 k17 xs s9} := LQ.mk (X := Bd N a1 a2 k17 xs s9) (G := λxs i (s : Int) => Bd N a1 a2 k17 xs s) (s := s9) (js := [(6, 2), (11, 1), (40, 46)]) (cs := [9, 10]) (V := λi s => [.int .u64 s, .int .i64 i]) (Ms := λi s => []) (λ_ => rfl) (λi s => Bd.eq_1 ..) (λx xs i s => Bd.eq_2 ..)
instance AhH {a0 a1 a2}:CF vE (KJ N a0 a1 a2) 188 [.str a0,.int .u64 a1,.int .u64 a2] (λr=>.tuple [.int .u64 r.1,.int .i64 r.2]):=AZ (KJ.eq_1 ..) Tryz.func188 rfl Tryz.ntmps188 Tryz.results188 [(6,[],.stop),(15,[],.stop)]
@[reducible,instance] def AbC {k4 xs} := LQ.mk (X := Hg N k4 xs) (G := λxs i (s : Unit) => Hg N k4 xs) (s := ()) (js := [(2, 1), (5, 1), (11, 7)]) (cs := [10]) (V := λi s => [.int .i64 i]) (Ms := λi s => []) (λ_ => rfl) (λi s => Hg.eq_1 ..) (λx xs i s => Hg.eq_2 ..)
instance Aiw {a0}:CF vE (Pt N a0) 133 [.str a0] (λr=>.bool r):=AZ (Pt.eq_1 ..) Tryz.func133 rfl Tryz.ntmps133 Tryz.results133
@[reducible,instance] def AXb {k13 xs} := LQ.mk (X := Gf N k13 xs) (G := λxs i (s : Unit) => Gf N k13 xs) (s := ()) (js := [(2, 1), (22, 11)]) (cs := [5]) (V := λi s => [.int .i64 i]) (Ms := λi s => []) (λ_ => rfl) (λi s => Gf.eq_1 ..) (λx xs i s => Gf.eq_2 ..)
@[reducible,instance] def AYD {k6 xs} := LQ.mk (X := GM N k6 xs) (G := λxs i (s : Unit) => GM N k6 xs) (s := ()) (js := [(2, 1), (4, 2), (17, 17)]) (cs := [16]) (V := λi s => [.int .i64 i]) (Ms := λi s => []) (λ_ => rfl) (λi s => GM.eq_1 ..) (λx xs i s => GM.eq_2 ..)
instance Ahu {a0}:CF vE (Ov N a0) 84 [.str a0] (λr=>.bool r):=AZ (Ov.eq_1 ..) Tryz.func84 rfl Tryz.ntmps84 Tryz.results84 [(1,[],.stop)]
@[reducible,instance] def AVv {a0 a1 k2 xs s6 s5} := LR.mk (X := Dh N a0 a1 k2 xs s6 s5) (G := λxs i (s : B8) => Dh N a0 a1 k2 xs i s) (i := s6) (s := s5) (js := [(7, 36)]) (cs := [5, 6]) (V := λi s => [.str s, .int .i64 i]) (Ms := λi s => []) rfl (λi s => Dh.eq_1 ..) (λx xs i s => Dh.eq_2 ..)
instance AdV {a0 a1}:CF vE (Lj N a0 a1) 86 [.str a0,.str a1] (λr=>.str r):=AZ (Lj.eq_1 ..) Tryz.func86 rfl Tryz.ntmps86 Tryz.results86 [(5,[],.stop)]
instance AdR {a0}:CF vE (Nk N a0) 139 [FJ a0] (λr=>.str r):=AZ (Nk.eq_1 ..) Tryz.func139 rfl Tryz.ntmps139 Tryz.results139 [(3,[],.take 0 (.take 1 (.take 2 (.take 3 (.take 4 (.alt 5 [3,2,1,0] (.take 6 (.alt 7 [] (.done) (.stop))) (.stop)))))))]
instance AhP {a0}:CF vE (Oa N a0) 136 [.str a0] (λr=>.tuple [Yz r.1,.int .i64 r.2]):=AZ (Oa.eq_1 ..) Tryz.func136 rfl Tryz.ntmps136 Tryz.results136 [(6,[],.take 0 (.take 1 (.take 2 (.take 3 (.take 4 (.take 5 (.take 6 (.take 7 (.alt 8 [6,5,4] (.take 9 (.alt 10 [6,5,4] (.alt 11 [] (.done) (.stop)) (.stop))) (.stop)))))))))),(9,[],.take 0 (.take 1 (.take 2 (.take 3 (.take 4 (.take 5 (.take 6 (.take 7 (.alt 8 [6,5,4] (.take 9 (.alt 10 [6,5,4] (.alt 11 [] (.done) (.stop)) (.stop))) (.stop)))))))))),(11,[],.stop),(14,[],.take 0 (.take 1 (.take 2 (.take 3 (.take 4 (.take 5 (.take 6 (.take 7 (.alt 8 [6,5,4,3] (.take 9 (.alt 10 [6,5,4,3] (.alt 11 [] (.done) (.stop)) (.stop))) (.stop)))))))))),(17,[],.take 0 (.take 1 (.take 2 (.take 3 (.take 4 (.take 5 (.take 6 (.alt 7 [5,4,3] (.take 8 (.alt 9 [5,4,3] (.alt 10 [] (.done) (.stop)) (.stop))) (.stop)))))))))]
@[reducible,instance] def ALx {k2 k s3 s4} := LF.mk (X := Al N k2 k s3 s4) (G := λk (s : B8 × B8) => Al N k2 k s.1 s.2) (s := (s3, s4)) (js := [(5, 1), (7, 51)]) (cs := [3, 4]) (V := λs => [.str s.1, .str s.2]) (Ms := λs => []) rfl (λs => Al.eq_1 ..) (λk s => Al.eq_2 ..)
instance ASd {a0}:CF vE (Ik N a0) 138 [.str a0] (λr=>.str r):=AZ (Ik.eq_1 ..) Tryz.func138 rfl Tryz.ntmps138 Tryz.results138 [(14,[],.take 0 (.take 1 (.take 2 (.alt 3 [1,0] (.alt 4 [2] (.alt 5 [] (.done) (.stop)) (.stop)) (.stop))))),(17,[],.stop),(4,[],.take 0 (.take 1 (.take 2 (.take 3 (.take 4 (.take 5 (.take 6 (.take 7 (.alt 8 [7,6,5,3] (.alt 9 [] (.done) (.stop)) (.stop))))))))))]
@[reducible,instance] def ATL {a0 k2 xs s4 s3} := LR.mk (X := EI N a0 k2 xs s4 s3) (G := λxs i (s : B8) => EI N a0 k2 xs i s) (i := s4) (s := s3) (js := [(5, 23)]) (cs := [3, 4]) (V := λi s => [.str s, .int .i64 i]) (Ms := λi s => []) rfl (λi s => EI.eq_1 ..) (λx xs i s => EI.eq_2 ..)
instance AbP {a0}:CF vE (Kh N a0) 45 [.str a0] (λr=>.str r):=AZ (Kh.eq_1 ..) Tryz.func45 rfl Tryz.ntmps45 Tryz.results45
instance Alx {a0}:CB vE (Ul N a0) 37 (λi0=>[.ptr i0 0]) (λi0=>[.slice 1 (List.map (AVal.int .u8) a0.l) false]) (λr=>.str r.1) (λi0 r=>[.slice 1 (List.map (AVal.int .u8) r.2.l) false]):=G5 (Ul.eq_1 ..) Tryz.func37 rfl Tryz.ntmps37 Tryz.results37
@[reducible,instance] def AU1 {a1 k2 xs s5} := LQ.mk (X := FU N a1 k2 xs s5) (G := λxs i (s : (List B8)) => FU N a1 k2 xs s) (s := s5) (js := [(7, 1), (12, 13)]) (cs := [5, 11]) (V := λi s => [.slice 1 (List.map AVal.str s) true, .int .i64 i]) (Ms := λi s => []) (λ_ => rfl) (λi s => FU.eq_1 ..) (λx xs i s => FU.eq_2 ..)
instance AeB {a0 a1}:CF vE (NY N a0 a1) 68 [OD a0,.str a1] (λr=>.slice 1 (List.map AVal.str r) false):=AZ (NY.eq_1 ..) Tryz.func68 rfl Tryz.ntmps68 Tryz.results68 [(6,[19],.done)]
@[reducible,instance] def AWT {a0 k2 k s7} := LF.mk (X := GV N a0 k2 k s7) (G := λk (s : Int) => GV N a0 k2 k s) (s := s7) (js := [(9, 12)]) (cs := [7]) (V := λs => [.int .i64 s]) (Ms := λs => []) rfl (λs => GV.eq_1 ..) (λk s => GV.eq_2 ..)
instance AhZ {a0 a1}:CF vE (JV N a0 a1) 121 [.str a0,.int .i64 a1] (λr=>.tuple [.str r.1,.int .i64 r.2.1,.bool r.2.2]):=AZ (JV.eq_1 ..) Tryz.func121 rfl Tryz.ntmps121 Tryz.results121 [(2,[],.stop)]
@[reducible,instance] def AY4 {k2 xs} := LQ.mk (X := Hr N k2 xs) (G := λxs i (s : Unit) => Hr N k2 xs) (s := ()) (js := [(2, 1), (4, 1), (9, 13)]) (cs := [8]) (V := λi s => [.int .i64 i]) (Ms := λi s => []) (λ_ => rfl) (λi s => Hr.eq_1 ..) (λx xs i s => Hr.eq_2 ..)
instance Ahg {a0}:CF vE (LZ N a0) 70 [JM a0] (λr=>.bool r):=AZ (LZ.eq_1 ..) Tryz.func70 rfl Tryz.ntmps70 Tryz.results70 [(4,[],.stop)]
instance AbB {a0}:CF vE (IY N a0) 178 [.str a0] (λr=>.int .i64 r):=AZ (IY.eq_1 ..) Tryz.func178 rfl Tryz.ntmps178 Tryz.results178 [(2,[],.stop),(4,[],.stop),(10,[],.stop),(12,[],.stop),(14,[],.stop)]
@[reducible,instance] def AU6 {a0 a1 k6 k s7} := LF.mk (X := Cx N a0 a1 k6 k s7) (G := λk (s : Int) => Cx N a0 a1 k6 k s) (s := s7) (js := [(4, 3), (8, 3), (19, 40)]) (cs := [7]) (V := λs => [.int .i64 s]) (Ms := λs => []) rfl (λs => Cx.eq_1 ..) (λk s => Cx.eq_2 ..)
instance Ad4 {a0 a1}:CF vE (KV N a0 a1) 223 [.str a0,.int .i64 a1] (λr=>.tuple [.int .i64 r.1,.int .i64 r.2.1,.int .i64 r.2.2]):=AZ (KV.eq_1 ..) Tryz.func223 rfl Tryz.ntmps223 Tryz.results223 [(1,[],.stop),(4,[],.stop),(8,[],.stop)]
end Go.Proofs.YtjmejdocgdbklaaGreatDoor
