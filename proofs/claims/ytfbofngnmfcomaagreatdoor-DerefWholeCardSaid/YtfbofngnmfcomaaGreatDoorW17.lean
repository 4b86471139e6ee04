import Derived.Test.YtfbofngnmfcomaaGreatDoorW13
import Derived.Test.YtfbofngnmfcomaaGreatDoorW15
set_option linter.unusedVariables false
set_option linter.unusedSimpArgs false
set_option maxHeartbeats 4000000
set_option maxRecDepth 100000
set_option linter.defProp false
namespace Go.Proofs.YtfbofngnmfcomaaGreatDoor
open Go.VM
attribute [local irreducible] AA grd letL
variable{N n:Nat}{m:MS}{Q:PQ}{args:List AVal}
@[reducible,instance] def AYH {a0 k2 k s4 s5}:=lf (λk (s:(List Int)×Int)=>IK N a0 k2 k s.1 s.2) k (s4,s5) [(2,2),(6,3),(12,26)] [4,5] (λs=>[.slice 1 (List.map (AVal.int .u8) s.1) true,.int .i64 s.2]) (λs=>IK.eq_1 ..) (λk s=>IK.eq_2 ..) (X:=IK N a0 k2 k s4 s5)
instance Ali {a0}:CF vE (Jm N a0) 63 [.str a0] (λr=>.tuple [.str r.1,.int .i64 r.2]):=AQ (Jm.eq_1 ..) Tryz.func63 rfl Tryz.ntmps63 Tryz.results63 [(13,[34],.done)]
instance Ahc {a0}:CF vE (Dv N a0) 65 [Aa a0] (λr=>.str r):=AQ (Dv.eq_1 ..) Tryz.func65 rfl Tryz.ntmps65 Tryz.results65 [(1,[],.take 0 (.take 4 (.al 1 [(4,1)] (.al 2 [(4,1),(0,1)] (.take 3 (.al 5 [(3,1),(0,1)] (.take 6 (.al 7 [] .done))))))))]
@[reducible,instance] def AZg {a0 k2 k s3 s4}:=lf (λk (s:Int×Int)=>JE N a0 k2 k s.1 s.2) k (s3,s4) [(2,1),(5,19)] [3,4] (λs=>[.int .i64 s.1,.int .i64 s.2]) (λs=>JE.eq_1 ..) (λk s=>JE.eq_2 ..) (X:=JE N a0 k2 k s3 s4)
instance AmO {a0}:CF vE (TZ N a0) 351 [.str a0] (λr=>.int .i64 r):=AQ (TZ.eq_1 ..) Tryz.func351 rfl Tryz.ntmps351 Tryz.results351
instance AtH {a0 a1 a2 a3 a4}:CF vE (Fe N a0 a1 a2 a3 a4) 46 [.int .i64 a0,.str a1,.str a2,.slice 2 (List.map Ad a3) false,.bool a4] (λr=>.str r):=AQ (Fe.eq_1 ..) Tryz.func46 rfl Tryz.ntmps46 Tryz.results46 [(3,[17],.done),(4,[24],.done),(6,[30],.done),(8,[41],.take 0 (.tk 2 2 (.ar 1 [(3,2)] (.al 4 [(2,1),(0,1)] (.al 5 [(3,2),(0,1)] (.take 6 (.al 7 [(3,2),(0,1)] (.take 8 (.al 9 [] .done)))))) (.al 4 [(2,1),(0,1)] (.ar 1 [(3,2)] (.al 5 [(3,2),(0,1)] (.take 6 (.al 7 [(3,2),(0,1)] (.take 8 (.al 9 [] .done))))) (.al 5 [(3,2),(0,1)] (.take 6 (.al 1 [(6,1),(3,2)] (.al 7 [(3,2),(0,1)] (.take 8 (.al 9 [] .done)))))))))))]
@[reducible,instance] def Af2 {k4 xs s15 s7}:=lr (λxs i (s:B8)=>GD N k4 xs i s) xs s15 s7 [(8,2),(16,12)] [7,15] (λi s=>GD.eq_1 ..) (λx xs i s=>GD.eq_2 ..) (V:=λi s=>[.str s,.int .i64 i])
instance ArR {a0 a1}:CF vE (M9 N a0 a1) 69 [Gj a0,.str a1] (λr=>.tuple [.str r.1,.bool r.2]):=AQ (M9.eq_1 ..) Tryz.func69 rfl Tryz.ntmps69 Tryz.results69
instance AfT {a0 a1}:CF vE (MC N a0 a1) 238 [Fq a0,Fq a1] (λr=>Fq r):=AQ (MC.eq_1 ..) Tryz.func238 rfl Tryz.ntmps238 Tryz.results238 [(14,[],.tk 0 5 (.al 5 [(3,2)] (.take 6 (.al 7 [] .done)))),(15,[],.tk 0 5 (.al 5 [(3,2)] (.take 6 (.al 7 [] .done)))),(5,[],.tk 0 5 (.al 5 [(3,2)] (.take 6 (.al 7 [] .done)))),(16,[],.tk 0 5 (.al 5 [(3,2)] (.take 6 (.al 7 [] .done))))]
instance Amh {a0 a1}:CF vE (IZ N a0 a1) 310 [.str a0,.int .u64 a1] (λr=>.tuple [.int .u64 r.1,.int .i64 r.2]):=AQ (IZ.eq_1 ..) Tryz.func310 rfl Tryz.ntmps310 Tryz.results310
@[reducible,instance] def Aa8 {a0 y12 y14 k s5}:=lf (λk (s:Int)=>NT N a0 y12 y14 k s) k s5 [(3,1),(9,4),(52,59)] [5] (λs=>[.int .i64 s]) (λs=>NT.eq_1 ..) (λk s=>NT.eq_2 ..)
instance Al5 {a0}:CF vE (TB N a0) 163 [.str a0] (λr=>.tuple [Ir r.1,.bool r.2]):=AQ (TB.eq_1 ..) Tryz.func163 rfl Tryz.ntmps163 Tryz.results163 [(2,[],.stop),(14,[],.stop),(19,[102],.take 0 (.take 2 (.take 4 (.take 8 (.ar 1 [(8,1),(4,1),(2,1)] (.al 3 [(8,1),(4,1),(0,1)] (.al 5 [(8,1),(2,1),(0,1)] (.take 6 (.al 7 [(8,1),(4,1),(2,1),(0,1)] (.take 9 (.al 10 [(8,1)] (.al 11 [] .done))))))) (.al 3 [(8,1),(4,1),(0,1)] (.ar 1 [(8,1),(4,1),(2,1)] (.al 5 [(8,1),(2,1),(0,1)] (.take 6 (.al 7 [(8,1),(4,1),(2,1),(0,1)] (.take 9 (.al 10 [(8,1)] (.al 11 [] .done)))))) (.al 5 [(8,1),(2,1),(0,1)] (.take 6 (.al 1 [(6,1),(8,1),(4,1),(2,1)] (.al 7 [(8,1),(4,1),(2,1),(0,1)] (.take 9 (.al 10 [(8,1)] (.al 11 [] .done))))))))))))))] true
instance AmV {a0}:CF vE (Ol N a0) 71 [Ir a0] (λr=>.bool r):=AQ (Ol.eq_1 ..) Tryz.func71 rfl Tryz.ntmps71 Tryz.results71 [(1,[],.stop)]
instance AYt {a0}:CB vE (IM N a0) 360 (λi0=>[.ptr i0 0]) (λi0=>[.str a0.rest,.bool a0.more]) (λr=>.str r.1) (λi0 r=>[.str r.2.rest,.bool r.2.more]):=E8 (IM.eq_1 ..) Tryz.func360 rfl Tryz.ntmps360 Tryz.results360
instance AfN {a0}:CF vE (KC N a0) 330 [.int .u8 a0] (λr=>.bool r):=AQ (KC.eq_1 ..) Tryz.func330 rfl Tryz.ntmps330 Tryz.results330 [(1,[],.stop)]
instance Aud {a0 a1}:CF vE (QU N a0 a1) 185 [Gj a0,.str a1] (λr=>.tuple [.str r.1,.bool r.2]):=AQ (QU.eq_1 ..) Tryz.func185 rfl Tryz.ntmps185 Tryz.results185
instance Apx {a0 a1}:CF vE (OU N a0 a1) 403 [.str a0,.int .u64 a1] (λr=>.tuple [.int .u64 r.1,.int .i64 r.2]):=AQ (OU.eq_1 ..) Tryz.func403 rfl Tryz.ntmps403 Tryz.results403
@[reducible,instance] def AgS {a0 k2 xs}:=lq (λxs i (s:Unit)=>NV N a0 k2 xs) xs () [(4,1),(6,1),(10,14)] [9] (λi s=>NV.eq_1 ..) (λx xs i s=>NV.eq_2 ..)
instance ArQ {a0 a1}:CF vE (YG N a0 a1) 276 [Ir a0,.slice 1 (List.map AVal.str a1) false] (λr=>.bool r):=AQ (YG.eq_1 ..) Tryz.func276 rfl Tryz.ntmps276 Tryz.results276
@[reducible,instance] def ANP {k2 k bn_addr bn_buf bi0_s bi0_at_}:=lf (λk (s:Bool×B8×B8×Int)=>ES N k2 k s.1 s.2.1 s.2.2.1 s.2.2.2) k (bn_addr,bn_buf,bi0_s,bi0_at_) [(2,2),(5,4),(16,50)] [] (λs=>[]) (λs=>ES.eq_1 ..) (λk s=>ES.eq_2 ..) (Ms:=λs=>[.t (λq=>[GR q 263 2 s.1,.buf 5 s.2.1 true]),.s ([.str s.2.2.1,.int .i64 s.2.2.2])]) (X:=ES N k2 k bn_addr bn_buf bi0_s bi0_at_)
instance ATh {a0}:CB vE (Nu N a0) 369 (λi0=>[.ptr i0 0]) (λi0=>[.str a0.s,.int .i64 a0.at_]) (λr=>.tuple [.str r.1,.int .i64 r.2.1]) (λi0 r=>[.str r.2.2.s,.int .i64 r.2.2.at_]):=E8 (Nu.eq_1 ..) Tryz.func369 rfl Tryz.ntmps369 Tryz.results369 [(3,[],.tk 0 10 .done),(5,[],.tk 0 9 (.al 9 [] .done))]
instance AN0 {a0}:CB vE (I9 N a0) 370 (λi0=>[.ptr i0 0]) (λi0=>[.str a0.s,.int .i64 a0.at_]) (λr=>.tuple [.str r.1,.bool r.2.1]) (λi0 r=>[.str r.2.2.s,.int .i64 r.2.2.at_]):=E8 (I9.eq_1 ..) Tryz.func370 rfl Tryz.ntmps370 Tryz.results370 [(3,[],.stop),(12,[],.tk 0 10 (.al 10 [] (.al 11 [] .done)))]
end Go.Proofs.YtfbofngnmfcomaaGreatDoor
