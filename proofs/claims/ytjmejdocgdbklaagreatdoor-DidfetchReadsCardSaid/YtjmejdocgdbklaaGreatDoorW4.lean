import Derived.Test.YtjmejdocgdbklaaGreatDoorVmFacts
import Derived.Test.YtjmejdocgdbklaaGreatDoorDefs
import Derived.Test.YtjmejdocgdbklaaGreatDoorVM7
set_option linter.unusedVariables false
set_option linter.unusedSimpArgs false
set_option maxHeartbeats 4000000
set_option maxRecDepth 100000
set_option linter.defProp false
namespace Go.Proofs.YtjmejdocgdbklaaGreatDoor
open Go.VM
attribute [local irreducible] AB grd letL
variable{N n:Nat}{m:MS}{Q:PQ}{args:List AVal}
instance AU5 {a0}:CF vE (Ka N a0) 220 [.int .u8 a0] (λr=>.bool r):=AZ (Ka.eq_1 ..) Tryz.func220 rfl Tryz.ntmps220 Tryz.results220 [(1,[],.stop)]
instance ARL {a0 a1 a2}:CB vE (BC N a0 a1 a2) 73 (λi0=>[.ptr i0 0,.int .i64 a1,.int .i64 a2]) (λi0=>[.str a0.s,.int .i64 a0.at_,.int .i64 a0.nodes,.int .i64 a0.fail,.int .i64 a0.where_]) (λr=>.tuple []) (λi0 r=>[.str r.s,.int .i64 r.at_,.int .i64 r.nodes,.int .i64 r.fail,.int .i64 r.where_]):=G5 (BC.eq_1 ..) Tryz.func73 rfl Tryz.ntmps73 Tryz.results73
instance Amc {a0 a1}:CF vE (Hu N a0 a1) 124 [Eb a0,.str a1] (λr=>.bool r):=AZ (Hu.eq_1 ..) Tryz.func124 rfl Tryz.ntmps124 Tryz.results124 [(1,[],.stop)]
instance Aip {a0 a1}:CF vE (KS N a0 a1) 180 [.str a0,.int .i64 a1] (λr=>.str r):=AZ (KS.eq_1 ..) Tryz.func180 rfl Tryz.ntmps180 Tryz.results180
instance Aim {a0}:CF vE (Nw N a0) 126 [.str a0] (λr=>.int .i64 r):=AZ (Nw.eq_1 ..) Tryz.func126 rfl Tryz.ntmps126 Tryz.results126
instance Aha {a0}:CF vE (M7 N a0) 286 [.int .i64 a0] (λr=>.bool r):=AZ (M7.eq_1 ..) Tryz.func286 rfl Tryz.ntmps286 Tryz.results286 [(1,[],.stop)]
@[reducible,instance] def AZj {a0 k4 k s4 s3} := LC.mk (X := Cs N a0 k4 k s4 s3) (G := λk i (s : Int) => Cs N a0 k4 k i s) (i := s4) (k := k) (s := s3) (js := [(20, 14)]) (cs := [3, 4]) (V := λi s => [.int .i64 s, .int .i64 i]) (Ms := λi s => []) rfl (λi s => Cs.eq_1 ..) (λk i s => Cs.eq_2 ..)
instance AhE {a0}:CF vE (Ic N a0) 261 [.str a0] (λr=>.int .i64 r):=AZ (Ic.eq_1 ..) Tryz.func261 rfl Tryz.ntmps261 Tryz.results261 [(3,[],.take 0 (.take 1 (.take 2 (.take 3 (.take 4 (.take 5 (.take 6 (.take 7 (.take 8 (.alt 9 [] (.done) (.stop)))))))))))]
@[reducible,instance] def AcB {a0 a1 k2 xs s14} := LR.mk (X := FW N a0 a1 k2 xs s14) (G := λxs i (s : Unit) => FW N a0 a1 k2 xs i) (i := s14) (s := ()) (js := [(5, 2), (15, 22)]) (cs := [14]) (V := λi s => [.int .i64 i]) (Ms := λi s => []) rfl (λi s => FW.eq_1 ..) (λx xs i s => FW.eq_2 ..)
instance AmC {a0 a1}:CF vE (Jw N a0 a1) 130 [AP a0,.str a1] (λr=>.tuple [AP r.1,.bool r.2]):=AZ (Jw.eq_1 ..) Tryz.func130 rfl Tryz.ntmps130 Tryz.results130 [(6,[],.stop)] true
instance ARB {a0 a1}:CB vE (BJ N a0 a1) 131 (λi0=>[.ptr i0 0,.int .i64 a1]) (λi0=>[.str a0.d.method,.str a0.d.iD,.int .i64 a0.fail]) (λr=>.tuple []) (λi0 r=>[.str r.d.method,.str r.d.iD,.int .i64 r.fail]):=G5 (BJ.eq_1 ..) Tryz.func131 rfl Tryz.ntmps131 Tryz.results131
@[reducible,instance] def Aa2 {a1 rec_ref14_Same k6 xs s40} := LR.mk (X := G9 N a1 rec_ref14_Same k6 xs s40) (G := λxs i (s : Unit) => G9 N a1 rec_ref14_Same k6 xs i) (i := s40) (s := ()) (js := [(4, 2), (41, 15)]) (cs := [40]) (V := λi s => [.int .i64 i]) (Ms := λi s => []) rfl (λi s => G9.eq_1 ..) (λx xs i s => G9.eq_2 ..)
@[reducible,instance] def Aaq {a1 k14 xs s59} := LR.mk (X := Ho N a1 k14 xs s59) (G := λxs i (s : Unit) => Ho N a1 k14 xs i) (i := s59) (s := ()) (js := [(4, 1), (6, 1), (60, 14)]) (cs := [59]) (V := λi s => [.int .i64 i]) (Ms := λi s => []) rfl (λi s => Ho.eq_1 ..) (λx xs i s => Ho.eq_2 ..)
theorem ACe (N:Nat): ∀D:Nat,(∀ {a0:ApiValue}{a1:ApiValue},CF vE (LK N D a0 a1) 9 [AP a0,AP a1] (λr=>.bool r)):=by intro D;induction D with |zero=>exact⟨λh=>by rw[LK.eq_1]at h;cases h⟩|succ D ih=>exact AZ (LK.eq_2 ..) Tryz.func9 rfl Tryz.ntmps9 Tryz.results9 [(1,[],.stop),(6,[],.take 0 (.take 1 (.take 2 (.take 3 (.take 4 (.take 5 (.take 6 (.take 7 (.take 8 (.take 9 (.alt 10 [8,7,6,5,3,2,1,0] (.take 11 (.done)) (.stop)))))))))))),(12,[],.take 0 (.take 1 (.take 2 (.take 3 (.take 4 (.take 5 (.take 6 (.take 7 (.take 8 (.take 9 (.take 10 (.done))))))))))))] true
instance AkC {a0 a1}:CF vE (LK N N a0 a1) 9 [AP a0,AP a1] (λr=>.bool r):=ACe N N
end Go.Proofs.YtjmejdocgdbklaaGreatDoor
