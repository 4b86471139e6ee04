import Derived.Test.YtfbofngnmfcomaaGreatDoorW5
set_option linter.unusedVariables false
set_option linter.unusedSimpArgs false
set_option maxHeartbeats 4000000
set_option maxRecDepth 100000
set_option linter.defProp false
namespace Go.Proofs.YtfbofngnmfcomaaGreatDoor
open Go.VM
attribute [local irreducible] AA grd letL
variable{N n:Nat}{m:MS}{Q:PQ}{args:List AVal}
instance AmL {a0 a1}:CF vE (JU N a0 a1) 112 [.str a0,.str a1] (λr=>.bool r):=AQ (JU.eq_1 ..) Tryz.func112 rfl Tryz.ntmps112 Tryz.results112
instance APK {a0}:CF vE (De N a0) 115 [.int .u8 a0] (λr=>.bool r):=AQ (De.eq_1 ..) Tryz.func115 rfl Tryz.ntmps115 Tryz.results115 [(1,[],.stop)]
@[reducible,instance] def AZZ {k2 xs}:=lq (λxs i (s:Unit)=>GZ N k2 xs) xs () [(2,1),(4,24)] [3] (λi s=>GZ.eq_1 ..) (λx xs i s=>GZ.eq_2 ..)
instance Ame {a0}:CF vE (Oj N a0) 298 [.str a0] (λr=>.bool r):=AQ (Oj.eq_1 ..) Tryz.func298 rfl Tryz.ntmps298 Tryz.results298 [(4,[],.stop),(6,[],.stop)]
@[reducible,instance] def AYS {k2 xs}:=lq (λxs i (s:Unit)=>FK N k2 xs) xs () [(2,1),(4,11)] [3] (λi s=>FK.eq_1 ..) (λx xs i s=>FK.eq_2 ..)
instance AhM {a0}:CF vE (Gt N a0) 299 [.str a0] (λr=>.bool r):=AQ (Gt.eq_1 ..) Tryz.func299 rfl Tryz.ntmps299 Tryz.results299
instance Aen {a0}:CF vE (CK N a0) 228 [.int .i64 a0] (λr=>.str r):=AQ (CK.eq_1 ..) Tryz.func228 rfl Tryz.ntmps228 Tryz.results228
@[reducible,instance] def AXu {k2 xs s3}:=lr (λxs i (s:Unit)=>Dq N k2 xs i) xs s3 () [(2,1),(4,29)] [3] (λi s=>Dq.eq_1 ..) (λx xs i s=>Dq.eq_2 ..)
instance Ai5 {a0}:CF vE (Ll N a0) 301 [.str a0] (λr=>.bool r):=AQ (Ll.eq_1 ..) Tryz.func301 rfl Tryz.ntmps301 Tryz.results301 [(4,[],.stop)]
@[reducible,instance] def AXZ {k2 xs}:=lq (λxs i (s:Unit)=>Jy N k2 xs) xs () [(2,1),(4,23)] [3] (λi s=>Jy.eq_1 ..) (λx xs i s=>Jy.eq_2 ..)
instance Ajz {a0}:CF vE (SA N a0) 127 [.str a0] (λr=>.bool r):=AQ (SA.eq_1 ..) Tryz.func127 rfl Tryz.ntmps127 Tryz.results127 [(4,[],.stop)]
instance AmE {a0}:CF vE (Q3 N a0) 129 [.int .u8 a0] (λr=>.bool r):=AQ (Q3.eq_1 ..) Tryz.func129 rfl Tryz.ntmps129 Tryz.results129 [(1,[],.stop)]
instance Aeg {a0 a1}:CB vE (DJ N a0 a1) 55 (λi0=>[.ptr i0 0,.slice 1 (List.map AVal.str a1) false]) (λi0=>[.slice 1 (List.map (AVal.int .u8) a0.l) false]) (λr=>.str r.1) (λi0 r=>[.slice 1 (List.map (AVal.int .u8) r.2.l) false]):=E8 (DJ.eq_1 ..) Tryz.func55 rfl Tryz.ntmps55 Tryz.results55
@[reducible,instance] def AeJ {rec_ref15_order k2 xs bn2_items}:=lq (λxs i (s:(List ApiValue))=>LK N rec_ref15_order k2 xs s) xs bn2_items [(5,1),(22,11)] [21] (λi s=>LK.eq_1 ..) (λx xs i s=>LK.eq_2 ..) (Ms:=λi s=>[.p [.k,.k,.k,.v (.slice 4 (List.map AB s) true)]])
@[reducible,instance] def AaW {a0 rec_ref15_order k13 xs bn2_keys bn2_items}:=lq (λxs i (s:(List B8)×(List ApiValue))=>JM N a0 rec_ref15_order k13 xs s.1 s.2) xs (bn2_keys,bn2_items) [(7,3),(39,23)] [38] (λi s=>JM.eq_1 ..) (λx xs i s=>JM.eq_2 ..) (Ms:=λi s=>[.p [.k,.k,.v (.slice 1 (List.map AVal.str s.1) true),.v (.slice 4 (List.map AB s.2) true)]]) (X:=JM N a0 rec_ref15_order k13 xs bn2_keys bn2_items)
theorem ZN (N:Nat): ∀D:Nat,(∀ {a0:ApiValue},CF vE (K3 N D a0) 136 [AB a0] (λr=>AB r)):=by intro D;induction D with|zero=>exact⟨λh=>by rw[K3.eq_1]at h;cases h⟩|succ D ih=>exact AQ (K3.eq_2 ..) Tryz.func136 rfl Tryz.ntmps136 Tryz.results136 [(6,[26],.take 0 (.take 2 (.ar 1 [(2,1)] (.al 3 [(0,1)] (.take 4 (.al 5 [(2,1),(0,1)] (.take 6 (.al 7 [] .done))))) (.al 3 [(0,1)] (.take 4 (.al 1 [(4,1),(2,1)] (.al 5 [(2,1),(0,1)] (.take 6 (.al 7 [] .done))))))))),(13,[49,54],.take 0 (.tk 2 2 (.take 5 (.take 7 (.ar 1 [(7,1),(5,1),(3,2)] (.ar 4 [(7,1),(5,1),(2,1),(0,1)] (.ar 6 [(7,1),(3,2),(0,1)] (.take 11 (.al 8 [(11,1),(5,1),(3,2),(0,1)] (.take 9 (.al 10 [(11,1),(7,1),(5,1),(3,2),(0,1)] (.al 12 [(9,1),(7,1)] (.take 13 (.al 14 [] .done))))))) (.al 8 [(5,1),(3,2),(0,1)] (.take 9 (.al 6 [(9,1),(7,1),(3,2),(0,1)] (.take 11 (.al 10 [(11,1),(7,1),(5,1),(3,2),(0,1)] (.al 12 [(9,1),(7,1)] (.take 13 (.al 14 [] .done))))))))) (.al 6 [(7,1),(3,2),(0,1)] (.al 4 [(7,1),(5,1),(2,1),(0,1)] (.take 11 (.al 8 [(11,1),(5,1),(3,2),(0,1)] (.take 9 (.al 10 [(11,1),(7,1),(5,1),(3,2),(0,1)] (.al 12 [(9,1),(7,1)] (.take 13 (.al 14 [] .done)))))))))) (.al 6 [(7,1),(3,2),(0,1)] (.al 1 [(7,1),(5,1),(3,2)] (.al 4 [(7,1),(5,1),(2,1),(0,1)] (.take 11 (.al 8 [(11,1),(5,1),(3,2),(0,1)] (.take 9 (.al 10 [(11,1),(7,1),(5,1),(3,2),(0,1)] (.al 12 [(9,1),(7,1)] (.take 13 (.al 14 [] .done)))))))))))))))] true
instance Al8 {a0}:CF vE (K3 N N a0) 136 [AB a0] (λr=>AB r):=ZN N N
@[reducible,instance] def Ad0 {k2 xs bn1_items}:=lq (λxs i (s:(List ApiValue))=>LH N k2 xs s) xs bn1_items [(5,1),(10,11)] [9] (λi s=>LH.eq_1 ..) (λx xs i s=>LH.eq_2 ..) (Ms:=λi s=>[.p [.k,.k,.k,.v (.slice 4 (List.map AB s) true)]])
instance AmC {a0}:CF vE (M3 N a0) 139 [.slice 1 (List.map AVal.str a0) false] (λr=>AB r):=AQ (M3.eq_1 ..) Tryz.func139 rfl Tryz.ntmps139 Tryz.results139 [(5,[14],.take 0 (.take 2 (.ar 1 [(2,1)] (.al 3 [(0,1)] (.take 4 (.al 5 [(2,1),(0,1)] (.take 6 (.al 7 [] .done))))) (.al 3 [(0,1)] (.take 4 (.al 1 [(4,1),(2,1)] (.al 5 [(2,1),(0,1)] (.take 6 (.al 7 [] .done)))))))))]
instance AnX {a0 a1 a2}:CF vE (Fj N a0 a1 a2) 226 [AB a0,.str a1,AB a2] (λr=>AB r):=AQ (Fj.eq_1 ..) Tryz.func226 rfl Tryz.ntmps226 Tryz.results226
@[reducible,instance] def AXb {a1 k2 k s0 s5}:=lf (λk (s:B8×B8)=>FO N a1 k2 k s.1 s.2) k (s0,s5) [(6,21)] [0,5] (λs=>[.str s.1,.str s.2]) (λs=>FO.eq_1 ..) (λk s=>FO.eq_2 ..) (X:=FO N a1 k2 k s0 s5)
instance Afh {a0 a1}:CF vE (GH N a0 a1) 124 [.str a0,.int .i64 a1] (λr=>.str r):=AQ (GH.eq_1 ..) Tryz.func124 rfl Tryz.ntmps124 Tryz.results124 [(4,[],.tk 0 2 (.tk 5 3 (.tk 10 3 (.al 2 [(12,3),(7,3),(0,1)] (.tk 3 2 (.tk 8 2 (.al 13 [(12,3)] (.al 14 [] .done))))))))]
instance AmY {a0 a1}:CF vE (D9 N a0 a1) 60 [Aa a0,.str a1] (λr=>Aw r):=AQ (D9.eq_1 ..) Tryz.func60 rfl Tryz.ntmps60 Tryz.results60 [(1,[],.tk 0 5 (.take 6 (.al 5 [(6,1),(3,4)] (.al 7 [(4,1),(2,1),(0,1)] (.al 8 [] .done)))))]
@[reducible,instance] def Aev {a0 k2 k s1}:=lf (λk (s:Int)=>MK N a0 k2 k s) k s1 [(5,12)] [1] (λs=>[.int .i64 s]) (λs=>MK.eq_1 ..) (λk s=>MK.eq_2 ..)
instance Ao0 {a0 a1}:CF vE (QA N a0 a1) 236 [.str a0,.int .i64 a1] (λr=>.int .i64 r):=AQ (QA.eq_1 ..) Tryz.func236 rfl Tryz.ntmps236 Tryz.results236 [(1,[],.stop)]
instance Ael {a0}:CF vE (KF N a0) 311 [.int .u8 a0] (λr=>.bool r):=AQ (KF.eq_1 ..) Tryz.func311 rfl Tryz.ntmps311 Tryz.results311 [(1,[],.stop)]
instance Aoe {a0 a1 a2}:CF vE (QN N a0 a1 a2) 243 [Aw a0,Aa a1,.int .u64 a2] (λr=>.bool r):=AQ (QN.eq_1 ..) Tryz.func243 rfl Tryz.ntmps243 Tryz.results243 [(1,[],.tk 0 16 (.al 16 [(14,2),(11,12)] (.tk 17 19 (.al 36 [] .done))))]
@[reducible,instance] def ANq {k2 xs}:=lq (λxs i (s:Unit)=>DL N k2 xs) xs () [(2,1),(4,11)] [3] (λi s=>DL.eq_1 ..) (λx xs i s=>DL.eq_2 ..)
instance AVG {a0}:CF vE (Fv N a0) 247 [.str a0] (λr=>.bool r):=AQ (Fv.eq_1 ..) Tryz.func247 rfl Tryz.ntmps247 Tryz.results247
@[reducible,instance] def AfL {k2 k s0}:=lf (λk (s:B8)=>HZ N k2 k s) k s0 [(3,10)] [0] (λs=>[.str s]) (λs=>HZ.eq_1 ..) (λk s=>HZ.eq_2 ..)
@[reducible,instance] def AfE {k15 k s0}:=lf (λk (s:B8)=>G6 N k15 k s) k s0 [(13,16)] [0] (λs=>[.str s]) (λs=>G6.eq_1 ..) (λk s=>G6.eq_2 ..)
instance Apn {a0}:CF vE (OG N a0) 248 [.str a0] (λr=>.str r):=AQ (OG.eq_1 ..) Tryz.func248 rfl Tryz.ntmps248 Tryz.results248 [(1,[],.stop),(3,[],.stop)]
@[reducible,instance] def AUG {a0 k s1}:=lf (λk (s:Int)=>Fs N a0 k s) k s1 [(4,19)] [1] (λs=>[.int .i64 s]) (λs=>Fs.eq_1 ..) (λk s=>Fs.eq_2 ..)
instance AfV {a0 a1}:CF vE (Od N a0 a1) 313 [.str a0,.int .i64 a1] (λr=>.int .i64 r):=AQ (Od.eq_1 ..) Tryz.func313 rfl Tryz.ntmps313 Tryz.results313 [(2,[],.stop)]
instance Ae0 {a0}:CF vE (Lx N a0) 68 [.int .i64 a0] (λr=>.int .i64 r):=AQ (Lx.eq_1 ..) Tryz.func68 rfl Tryz.ntmps68 Tryz.results68
instance ATf {a0 a1 a2}:CB vE (KW N a0 a1 a2) 165 (λi0=>[.ptr i0 0,AB a1,.str a2]) (λi0=>[.str a0.d.method,.str a0.d.iD,.int .i64 a0.fail]) (λr=>.str r.1) (λi0 r=>[.str r.2.d.method,.str r.2.d.iD,.int .i64 r.2.fail]):=E8 (KW.eq_1 ..) Tryz.func165 rfl Tryz.ntmps165 Tryz.results165
@[reducible,instance] def ABU {k12 xs s11 bi0}:=lq (λxs i (s:(List B8)×Ref17Reader)=>DU N k12 xs s.1 s.2) xs (s11,bi0) [(13,1),(50,14)] [11,49] (λi s=>DU.eq_1 ..) (λx xs i s=>DU.eq_2 ..) (V:=λi s=>[.slice 1 (List.map AVal.str s.1) true,.int .i64 i]) (Ms:=λi s=>[.k,.k,.s ([.str s.2.d.method,.str s.2.d.iD,.int .i64 s.2.fail])]) (X:=DU N k12 xs s11 bi0)
instance AI6 {a0 a1 a2 a3}:CB vE (ET N a0 a1 a2 a3) 166 (λi0=>[.ptr i0 0,AB a1,.str a2,.bool a3]) (λi0=>[.str a0.d.method,.str a0.d.iD,.int .i64 a0.fail]) (λr=>.slice 1 (List.map AVal.str r.1) false) (λi0 r=>[.str r.2.d.method,.str r.2.d.iD,.int .i64 r.2.fail]):=E8 (ET.eq_1 ..) Tryz.func166 rfl Tryz.ntmps166 Tryz.results166 [(4,[],.stop),(18,[58],.done)] true
instance AG0 {a0 a1 a2}:CB vE (Io N a0 a1 a2) 167 (λi0=>[.ptr i0 0,AB a1,.str a2]) (λi0=>[.str a0.d.method,.str a0.d.iD,.int .i64 a0.fail]) (λr=>.slice 4 (List.map AB r.1) false) (λi0 r=>[.str r.2.d.method,.str r.2.d.iD,.int .i64 r.2.fail]):=E8 (Io.eq_1 ..) Tryz.func167 rfl Tryz.ntmps167 Tryz.results167 [] true
instance AgL {a0}:CF vE (Si N a0) 317 [GA a0] (λr=>.str r):=AQ (Si.eq_1 ..) Tryz.func317 rfl Tryz.ntmps317 Tryz.results317 [(1,[],.tk 0 2 (.tk 3 2 (.al 2 [(4,2),(0,1)] (.take 5 (.al 6 [] .done)))))]
instance AhS {a0}:CF vE (NP N a0) 264 [Je a0] (λr=>.agg [.str r.next.host,.int .i64 r.next.port,.str r.next.path,.str r.next.query,.str r.next.fragment,.bool r.next.hasQuery,.bool r.next.hasFrag,.int .i64 r.hops,.bool r.done,.int .i64 r.err,.str r.final.uRL.host,.int .i64 r.final.uRL.port,.str r.final.uRL.path,.str r.final.uRL.query,.str r.final.uRL.fragment,.bool r.final.uRL.hasQuery,.bool r.final.uRL.hasFrag,.int .i64 r.final.head.minor,.int .i64 r.final.head.status,.slice 2 (List.map Ad r.final.head.fields) true,.str r.final.body,.slice 9 (List.map A7 r.final.trace) true,.slice 7 (List.map Aa r.seen) true]):=AQ (NP.eq_1 ..) Tryz.func264 rfl Tryz.ntmps264 Tryz.results264 [(4,[21],.done)]
instance AS6 {a0 a1}:CF vE (H5 N a0 a1) 358 [Sw a0,Aw a1] (λr=>.bool r):=AQ (H5.eq_1 ..) Tryz.func358 rfl Tryz.ntmps358 Tryz.results358 [(1,[],.take 0 (.tk 2 2 (.al 1 [(3,2)] (.tk 4 27 (.al 31 [] .done)))))]
@[reducible,instance] def Aey {k2 k s0}:=lf (λk (s:B8)=>HV N k2 k s) k s0 [(3,10)] [0] (λs=>[.str s]) (λs=>HV.eq_1 ..) (λk s=>HV.eq_2 ..)
@[reducible,instance] def Aep {k15 k s0}:=lf (λk (s:B8)=>G8 N k15 k s) k s0 [(13,16)] [0] (λs=>[.str s]) (λs=>G8.eq_1 ..) (λk s=>G8.eq_2 ..)
instance Anj {a0}:CF vE (Mk N a0) 363 [.str a0] (λr=>.str r):=AQ (Mk.eq_1 ..) Tryz.func363 rfl Tryz.ntmps363 Tryz.results363 [(1,[],.stop),(3,[],.stop)]
end Go.Proofs.YtfbofngnmfcomaaGreatDoor
