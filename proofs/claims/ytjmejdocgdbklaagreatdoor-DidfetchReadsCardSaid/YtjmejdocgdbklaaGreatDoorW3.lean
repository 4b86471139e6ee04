import Derived.Test.YtjmejdocgdbklaaGreatDoorVmFacts
import Derived.Test.YtjmejdocgdbklaaGreatDoorDefs
import Derived.Test.YtjmejdocgdbklaaGreatDoorVM7
set_option linter.unusedVariables false
set_option linter.unusedSimpArgs false
set_option maxHeartbeats 4000000
set_option maxRecDepth 100000
set_option linter.defProp false
namespace Go.Proofs.YtjmejdocgdbklaaGreatDoor
open Go.VM
attribute [local irreducible] AB grd letL
variable{N n:Nat}{m:MS}{Q:PQ}{args:List AVal}
instance Aas {a0}:CF vE (EG N a0) 93 [.int .u8 a0] (λr=>.bool r):=AZ (EG.eq_1 ..) Tryz.func93 rfl Tryz.ntmps93 Tryz.results93 [(1,[],.stop)]
instance Aht {a0}:CF vE (NC N a0) 146 [.int .u8 a0] (λr=>.int .u8 r):=AZ (NC.eq_1 ..) Tryz.func146 rfl Tryz.ntmps146 Tryz.results146
instance AgB {a0}:CF vE (JL N a0) 94 [.int .u8 a0] (λr=>.str r):=AZ (JL.eq_1 ..) Tryz.func94 rfl Tryz.ntmps94 Tryz.results94 [(1,[],.take 0 (.take 1 (.take 2 (.take 3 (.take 4 (.take 5 (.take 6 (.alt 7 [5,4,3,2,1,0] (.alt 8 [] (.done) (.stop)) (.stop)))))))))]
@[reducible,instance] def AaN {a0 a1 k2 xs s7 s5 s6} := LR.mk (X := Gb N a0 a1 k2 xs s7 s5 s6) (G := λxs i (s : (List B8) × Int) => Gb N a0 a1 k2 xs i s.1 s.2) (i := s7) (s := (s5, s6)) (js := [(8, 20)]) (cs := [5, 6, 7]) (V := λi s => [.slice 1 (List.map AVal.str s.1) true, .int .i64 s.2, .int .i64 i]) (Ms := λi s => []) rfl (λi s => Gb.eq_1 ..) (λx xs i s => Gb.eq_2 ..)
instance Ahq {a0 a1}:CF vE (Hq N a0 a1) 42 [.str a0,.int .u8 a1] (λr=>.slice 1 (List.map AVal.str r) true):=AZ (Hq.eq_1 ..) Tryz.func42 rfl Tryz.ntmps42 Tryz.results42 [(7,[19],.done),(8,[28],.done)]
instance AcH {a0}:CF vE (Ng N a0) 32 [Po a0] (λr=>.str r):=AZ (Ng.eq_1 ..) Tryz.func32 rfl Tryz.ntmps32 Tryz.results32
@[reducible,instance] def AUu {k s0 s3} := LF.mk (X := Ei N k s0 s3) (G := λk (s : Int × B8) => Ei N k s.1 s.2) (s := (s0, s3)) (js := [(2, 1), (4, 13)]) (cs := [0, 3]) (V := λs => [.int .u64 s.1, .str s.2]) (Ms := λs => []) rfl (λs => Ei.eq_1 ..) (λk s => Ei.eq_2 ..)
instance AcO {a0}:CF vE (HZ N a0) 181 [.int .u64 a0] (λr=>.str r):=AZ (HZ.eq_1 ..) Tryz.func181 rfl Tryz.ntmps181 Tryz.results181
instance AdL {a0}:CF vE (PK N a0) 140 [Gv a0] (λr=>FJ r):=AZ (PK.eq_1 ..) Tryz.func140 rfl Tryz.ntmps140 Tryz.results140
instance Abr {a0}:CF vE (Ni N a0) 141 [Gv a0] (λr=>.str r):=AZ (Ni.eq_1 ..) Tryz.func141 rfl Tryz.ntmps141 Tryz.results141
instance Acu {a0 a1}:CF vE (Fe N a0 a1) 40 [.str a0,.str a1] (λr=>.bool r):=AZ (Fe.eq_1 ..) Tryz.func40 rfl Tryz.ntmps40 Tryz.results40 [(1,[],.stop)]
@[reducible,instance] def AUC {a0 k2 k s3} := LF.mk (X := Ey N a0 k2 k s3) (G := λk (s : Int) => Ey N a0 k2 k s) (s := s3) (js := [(2, 1), (7, 11)]) (cs := [3]) (V := λs => [.int .i64 s]) (Ms := λs => []) rfl (λs => Ey.eq_1 ..) (λk s => Ey.eq_2 ..)
instance Aaw {a0}:CF vE (Ki N a0) 191 [.str a0] (λr=>.str r):=AZ (Ki.eq_1 ..) Tryz.func191 rfl Tryz.ntmps191 Tryz.results191
instance AV3 {a0}:CF vE (Cm N a0) 28 [Cy a0] (λr=>.str r):=AZ (Cm.eq_1 ..) Tryz.func28 rfl Tryz.ntmps28 Tryz.results28
instance AZk {a0 a1}:CB vE (Jy N a0 a1) 38 (λi0=>[.ptr i0 0,.int .i64 a1]) (λi0=>[.slice 1 (List.map (AVal.int .u8) a0.l) false]) (λr=>.int .i64 r.1) (λi0 r=>[.slice 1 (List.map (AVal.int .u8) r.2.l) false]):=G5 (Jy.eq_1 ..) Tryz.func38 rfl Tryz.ntmps38 Tryz.results38 [(1,[],.stop)]
instance Aa1 {a0}:CF vE (OV N a0) 67 [.int .i64 a0] (λr=>.int .i64 r):=AZ (OV.eq_1 ..) Tryz.func67 rfl Tryz.ntmps67 Tryz.results67
instance Ahk {a0}:CF vE (Ob N a0) 176 [.int .u8 a0] (λr=>.bool r):=AZ (Ob.eq_1 ..) Tryz.func176 rfl Tryz.ntmps176 Tryz.results176 [(1,[],.stop)]
end Go.Proofs.YtjmejdocgdbklaaGreatDoor
