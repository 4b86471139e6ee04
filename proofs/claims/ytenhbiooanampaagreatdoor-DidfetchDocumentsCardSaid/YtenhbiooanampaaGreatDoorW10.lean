import Derived.Test.YtenhbiooanampaaGreatDoorW2
import Derived.Test.YtenhbiooanampaaGreatDoorW4
set_option linter.unusedVariables false
set_option linter.unusedSimpArgs false
set_option maxHeartbeats 4000000
set_option maxRecDepth 100000
set_option linter.defProp false
namespace Go.Proofs.YtenhbiooanampaaGreatDoor
open Go.VM Tryz
attribute [local irreducible] AA grd letL
variable{N n:Nat}{m:MS}{Q:PQ}{args:List AVal}
abbrev Am6 {a0 k2 k s3}:=lf (λk (s:Int)=>OQ N a0 k2 k s) k s3 [(4,12)] [3] (λs=>[.int .i64 s]) (λs=>OQ.eq_1 ..) (λk s=>OQ.eq_2 ..)
abbrev AVU {k19 xs s4}:=lq (λxs i (s:Int)=>I9 N k19 xs s) xs s4 [(22,15)] [4,5] (λi s=>I9.eq_1 ..) (λx xs i s=>I9.eq_2 ..) (V:=λi s=>[.int .i64 s,.int .i64 i])
abbrev AgA {rec_ref15_order k2 xs bn2_items}:=lq (λxs i (s:(List ApiValue))=>LH N rec_ref15_order k2 xs s) xs bn2_items [(5,1),(22,11)] [21] (λi s=>LH.eq_1 ..) (λx xs i s=>LH.eq_2 ..) (Ms:=λi s=>[.p [.k,.k,.k,.v (.slice 4 (List.map AC s) true)]])
abbrev AfJ {a0 rec_ref15_order k13 xs bn2_keys bn2_items}:=lq (λxs i (s:(List B8)×(List ApiValue))=>Jh N a0 rec_ref15_order k13 xs s.1 s.2) xs (bn2_keys,bn2_items) [(7,3),(39,23)] [38] (λi s=>Jh.eq_1 ..) (λx xs i s=>Jh.eq_2 ..) (Ms:=λi s=>[.p [.k,.k,.v (.slice 1 (List.map AVal.str s.1) true),.v (.slice 4 (List.map AC s.2) true)]]) (X:=Jh N a0 rec_ref15_order k13 xs bn2_keys bn2_items)
abbrev Afv {k2 xs bn1_items}:=lq (λxs i (s:(List ApiValue))=>Lx N k2 xs s) xs bn1_items [(5,1),(10,11)] [9] (λi s=>Lx.eq_1 ..) (λx xs i s=>Lx.eq_2 ..) (Ms:=λi s=>[.p [.k,.k,.k,.v (.slice 4 (List.map AC s) true)]])
abbrev AZb {a1 k2 k s0 s5}:=lf (λk (s:B8×B8)=>Fz N a1 k2 k s.1 s.2) k (s0,s5) [(6,21)] [0,5] (λs=>[.str s.1,.str s.2]) (λs=>Fz.eq_1 ..) (λk s=>Fz.eq_2 ..) (X:=Fz N a1 k2 k s0 s5)
abbrev Agj {a0 k2 k s1}:=lf (λk (s:Int)=>Mq N a0 k2 k s) k s1 [(5,12)] [1] (λs=>[.int .i64 s]) (λs=>Mq.eq_1 ..) (λk s=>Mq.eq_2 ..)
abbrev AhN {k2 k s0}:=lf (λk (s:B8)=>H5 N k2 k s) k s0 [(3,10)] [0] (λs=>[.str s]) (λs=>H5.eq_1 ..) (λk s=>H5.eq_2 ..)
abbrev Agu {k15 k s0}:=lf (λk (s:B8)=>IE N k15 k s) k s0 [(13,16)] [0] (λs=>[.str s]) (λs=>IE.eq_1 ..) (λk s=>IE.eq_2 ..)
abbrev APa {k2 xs}:=lq (λxs i (s:Unit)=>Di N k2 xs) xs () [(2,1),(4,11)] [3] (λi s=>Di.eq_1 ..) (λx xs i s=>Di.eq_2 ..)
abbrev AhA {k2 k s0}:=lf (λk (s:B8)=>H8 N k2 k s) k s0 [(3,10)] [0] (λs=>[.str s]) (λs=>H8.eq_1 ..) (λk s=>H8.eq_2 ..)
abbrev Ag1 {k15 k s0}:=lf (λk (s:B8)=>II N k15 k s) k s0 [(13,16)] [0] (λs=>[.str s]) (λs=>II.eq_1 ..) (λk s=>II.eq_2 ..)
abbrev AX4 {a0 k s1}:=lf (λk (s:Int)=>GZ N a0 k s) k s1 [(4,19)] [1] (λs=>[.int .i64 s]) (λs=>GZ.eq_1 ..) (λk s=>GZ.eq_2 ..)
abbrev AC5 {k12 xs s11 bi0}:=lq (λxs i (s:(List B8)×Ref17Reader)=>Dq N k12 xs s.1 s.2) xs (s11,bi0) [(13,1),(50,14)] [11,49] (λi s=>Dq.eq_1 ..) (λx xs i s=>Dq.eq_2 ..) (V:=λi s=>[.slice 1 (List.map AVal.str s.1) true,.int .i64 i]) (Ms:=λi s=>[.k,.k,.s ([.str s.2.d.method,.str s.2.d.iD,.int .i64 s.2.fail])]) (X:=Dq N k12 xs s11 bi0)
attribute [instance] Am6 AVU AgA AfJ Afv AZb Agj AhN Agu APa AhA Ag1 AX4 AC5
instance Ato {a0}:CF vE (Sg N a0) 354 [.str a0] (λr=>.int .i64 r):=AQ (Sg.eq_1 ..) func354 rfl ntmps354 results354 [(2,[],.stop)]
instance AbF {a0}:CF vE (Ql N a0) 301 [.str a0] (λr=>.int .i64 r):=AQ (Ql.eq_1 ..) func301 rfl ntmps301 results301 [(1,[],.stop),(2,[],.stop)]
instance AnO {a0}:CF vE (TS N a0) 395 [.int .i64 a0] (λr=>.tuple [.str r.1,.int .i64 r.2]):=AQ (TS.eq_1 ..) func395 rfl ntmps395 results395
theorem AAW (N:Nat): ∀D:Nat,(∀ {a0:ApiValue},CF vE (Lh N D a0) 74 [AC a0] (λr=>AC r)):=by intro D;induction D with|zero=>exact⟨λh=>by rw[Lh.eq_1]at h;cases h⟩|succ D ih=>exact AQ (Lh.eq_2 ..) func74 rfl ntmps74 results74 [(6,[26],.take 0 (.take 2 (.ar 1 [(2,1)] (.al 3 [(0,1)] (.take 4 (.al 5 [(2,1),(0,1)] (.take 6 (.al 7 [] .done))))) (.al 3 [(0,1)] (.take 4 (.al 1 [(4,1),(2,1)] (.al 5 [(2,1),(0,1)] (.take 6 (.al 7 [] .done))))))))),(13,[49,54],.take 0 (.tk 2 2 (.take 5 (.take 7 (.ar 1 [(7,1),(5,1),(3,2)] (.ar 4 [(7,1),(5,1),(2,1),(0,1)] (.ar 6 [(7,1),(3,2),(0,1)] (.take 11 (.al 8 [(11,1),(5,1),(3,2),(0,1)] (.take 9 (.al 10 [(11,1),(7,1),(5,1),(3,2),(0,1)] (.al 12 [(9,1),(7,1)] (.take 13 (.al 14 [] .done))))))) (.al 8 [(5,1),(3,2),(0,1)] (.take 9 (.al 6 [(9,1),(7,1),(3,2),(0,1)] (.take 11 (.al 10 [(11,1),(7,1),(5,1),(3,2),(0,1)] (.al 12 [(9,1),(7,1)] (.take 13 (.al 14 [] .done))))))))) (.al 6 [(7,1),(3,2),(0,1)] (.al 4 [(7,1),(5,1),(2,1),(0,1)] (.take 11 (.al 8 [(11,1),(5,1),(3,2),(0,1)] (.take 9 (.al 10 [(11,1),(7,1),(5,1),(3,2),(0,1)] (.al 12 [(9,1),(7,1)] (.take 13 (.al 14 [] .done)))))))))) (.al 6 [(7,1),(3,2),(0,1)] (.al 1 [(7,1),(5,1),(3,2)] (.al 4 [(7,1),(5,1),(2,1),(0,1)] (.take 11 (.al 8 [(11,1),(5,1),(3,2),(0,1)] (.take 9 (.al 10 [(11,1),(7,1),(5,1),(3,2),(0,1)] (.al 12 [(9,1),(7,1)] (.take 13 (.al 14 [] .done)))))))))))))))] true
instance ApE {a0}:CF vE (Lh N N a0) 74 [AC a0] (λr=>AC r):=AAW N N
instance Aoz {a0}:CF vE (N7 N a0) 77 [.slice 1 (List.map AVal.str a0) false] (λr=>AC r):=AQ (N7.eq_1 ..) func77 rfl ntmps77 results77 [(5,[14],.take 0 (.take 2 (.ar 1 [(2,1)] (.al 3 [(0,1)] (.take 4 (.al 5 [(2,1),(0,1)] (.take 6 (.al 7 [] .done))))) (.al 3 [(0,1)] (.take 4 (.al 1 [(4,1),(2,1)] (.al 5 [(2,1),(0,1)] (.take 6 (.al 7 [] .done)))))))))]
instance Aq2 {a0 a1 a2}:CF vE (GX N a0 a1 a2) 139 [AC a0,.str a1,AC a2] (λr=>AC r):=AQ (GX.eq_1 ..) func139 rfl ntmps139 results139
instance AlS {a0 a1}:CF vE (Gh N a0 a1) 64 [.str a0,.int .i64 a1] (λr=>.str r):=AQ (Gh.eq_1 ..) func64 rfl ntmps64 results64 [(4,[],.tk 0 2 (.tk 5 3 (.tk 10 3 (.al 2 [(12,3),(7,3),(0,1)] (.tk 3 2 (.tk 8 2 (.al 13 [(12,3)] (.al 14 [] .done))))))))]
instance AoR {a0 a1}:CF vE (ET N a0 a1) 31 [Ad a0,.str a1] (λr=>Bd r):=AQ (ET.eq_1 ..) func31 rfl ntmps31 results31 [(1,[],.tk 0 5 (.take 6 (.al 5 [(6,1),(3,4)] (.al 7 [(4,1),(2,1),(0,1)] (.al 8 [] .done)))))]
instance Aqq {a0 a1}:CF vE (Qi N a0 a1) 156 [.str a0,.int .i64 a1] (λr=>.int .i64 r):=AQ (Qi.eq_1 ..) func156 rfl ntmps156 results156 [(1,[],.stop)]
instance AhX {a0}:CF vE (Kk N a0) 330 [.int .u8 a0] (λr=>.bool r):=AQ (Kk.eq_1 ..) func330 rfl ntmps330 results330 [(1,[],.stop)]
instance Ajl {a0}:CF vE (Om N a0) 172 [J2 a0] (λr=>.agg [.str r.next.host,.int .i64 r.next.port,.str r.next.path,.str r.next.query,.str r.next.fragment,.bool r.next.hasQuery,.bool r.next.hasFrag,.int .i64 r.hops,.bool r.done,.int .i64 r.err,.str r.final.uRL.host,.int .i64 r.final.uRL.port,.str r.final.uRL.path,.str r.final.uRL.query,.str r.final.uRL.fragment,.bool r.final.uRL.hasQuery,.bool r.final.uRL.hasFrag,.int .i64 r.final.head.minor,.int .i64 r.final.head.status,.slice 2 (List.map Am r.final.head.fields) true,.str r.final.body,.slice 9 (List.map BQ r.final.trace) true,.slice 7 (List.map Ad r.seen) true]):=AQ (Om.eq_1 ..) func172 rfl ntmps172 results172 [(4,[21],.done)]
instance ARw {a0 a1}:CF vE (Il N a0 a1) 318 [Tm a0,Bd a1] (λr=>.bool r):=AQ (Il.eq_1 ..) func318 rfl ntmps318 results318 [(1,[],.take 0 (.tk 2 2 (.al 1 [(3,2)] (.tk 4 27 (.al 31 [] .done)))))]
instance Ap3 {a0}:CF vE (NP N a0) 323 [.str a0] (λr=>.str r):=AQ (NP.eq_1 ..) func323 rfl ntmps323 results323 [(1,[],.stop),(3,[],.stop)]
instance XE {a0 a1}:CF vE (Cs N a0 a1) 255 [.slice 7 (List.map Ad a0) false,Ad a1] (λr=>.bool r):=AQ (Cs.eq_1 ..) func255 rfl ntmps255 results255
instance AqU {a0 a1 a2}:CF vE (RO N a0 a1 a2) 256 [Bd a0,Ad a1,.int .u64 a2] (λr=>.bool r):=AQ (RO.eq_1 ..) func256 rfl ntmps256 results256 [(1,[],.tk 0 16 (.al 16 [(14,2),(11,12)] (.tk 17 19 (.al 36 [] .done))))]
instance AYZ {a0}:CF vE (GU N a0) 260 [.str a0] (λr=>.bool r):=AQ (GU.eq_1 ..) func260 rfl ntmps260 results260
instance Aq5 {a0}:CF vE (PI N a0) 261 [.str a0] (λr=>.str r):=AQ (PI.eq_1 ..) func261 rfl ntmps261 results261 [(1,[],.stop),(3,[],.stop)]
instance AhH {a0 a1}:CF vE (PW N a0 a1) 332 [.str a0,.int .i64 a1] (λr=>.int .i64 r):=AQ (PW.eq_1 ..) func332 rfl ntmps332 results332 [(2,[],.stop)]
instance AhY {a0}:CF vE (Mo N a0) 97 [.int .i64 a0] (λr=>.int .i64 r):=AQ (Mo.eq_1 ..) func97 rfl ntmps97 results97
instance Ao1 {a0}:CF vE (Ty N a0) 335 [.int .u8 a0] (λr=>.bool r):=AQ (Ty.eq_1 ..) func335 rfl ntmps335 results335
instance AVI {a0 a1 a2}:CB vE (Ky N a0 a1 a2) 189 (λi0=>[.ptr i0 0,AC a1,.str a2]) (λi0=>[.str a0.d.method,.str a0.d.iD,.int .i64 a0.fail]) (λr=>.str r.1) (λi0 r=>[.str r.2.d.method,.str r.2.d.iD,.int .i64 r.2.fail]):=Fb (Ky.eq_1 ..) func189 rfl ntmps189 results189
instance AMM {a0 a1 a2 a3}:CB vE (E9 N a0 a1 a2 a3) 190 (λi0=>[.ptr i0 0,AC a1,.str a2,.bool a3]) (λi0=>[.str a0.d.method,.str a0.d.iD,.int .i64 a0.fail]) (λr=>.slice 1 (List.map AVal.str r.1) false) (λi0 r=>[.str r.2.d.method,.str r.2.d.iD,.int .i64 r.2.fail]):=Fb (E9.eq_1 ..) func190 rfl ntmps190 results190 [(4,[],.stop),(18,[58],.done)] true
instance AH4 {a0 a1 a2}:CB vE (JL N a0 a1 a2) 191 (λi0=>[.ptr i0 0,AC a1,.str a2]) (λi0=>[.str a0.d.method,.str a0.d.iD,.int .i64 a0.fail]) (λr=>.slice 4 (List.map AC r.1) false) (λi0 r=>[.str r.2.d.method,.str r.2.d.iD,.int .i64 r.2.fail]):=Fb (JL.eq_1 ..) func191 rfl ntmps191 results191 [] true
instance Ai4 {a0}:CF vE (TJ N a0) 338 [KC a0] (λr=>.str r):=AQ (TJ.eq_1 ..) func338 rfl ntmps338 results338 [(1,[],.tk 0 2 (.tk 3 2 (.al 2 [(4,2),(0,1)] (.take 5 (.al 6 [] .done)))))]
instance Ap8 {a0 a1}:CF vE (Sz N a0 a1) 37 [FX a0,FX a1] (λr=>.bool r):=AQ (Sz.eq_1 ..) func37 rfl ntmps37 results37 [(1,[],.stop)]
end Go.Proofs.YtenhbiooanampaaGreatDoor
