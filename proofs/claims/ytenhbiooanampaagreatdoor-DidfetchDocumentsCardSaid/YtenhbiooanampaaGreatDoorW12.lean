import Derived.Test.YtenhbiooanampaaGreatDoorW7
set_option linter.unusedVariables false
set_option linter.unusedSimpArgs false
set_option maxHeartbeats 4000000
set_option maxRecDepth 100000
set_option linter.defProp false
namespace Go.Proofs.YtenhbiooanampaaGreatDoor
open Go.VM Tryz
attribute [local irreducible] AA grd letL
variable{N n:Nat}{m:MS}{Q:PQ}{args:List AVal}
abbrev AbJ {a1 k2 xs s5}:=lq (λxs i (s:(List B8))=>G5 N a1 k2 xs s) xs s5 [(7,1),(12,13)] [5,11] (λi s=>G5.eq_1 ..) (λx xs i s=>G5.eq_2 ..) (V:=λi s=>[.slice 1 (List.map AVal.str s) true,.int .i64 i])
abbrev AZ0 {k11 xs s5}:=lq (λxs i (s:Int)=>F7 N k11 xs s) xs s5 [(7,1),(42,14)] [5,41] (λi s=>F7.eq_1 ..) (λx xs i s=>F7.eq_2 ..) (V:=λi s=>[.int .i64 s,.int .i64 i])
abbrev AaI {a1 k25 xs bn13}:=lq (λxs i (s:StringsBuilder)=>F9 N a1 k25 xs s) xs bn13 [(10,1),(66,8)] [65] (λi s=>F9.eq_1 ..) (λx xs i s=>F9.eq_2 ..) (Ms:=λi s=>[.t (λq=>[Gs q 234 2 s.addr,.buf 5 s.buf true])])
abbrev AhK {k2 xs}:=lq (λxs i (s:Unit)=>Mh N k2 xs) xs () [(2,1),(4,1),(9,13)] [8] (λi s=>Mh.eq_1 ..) (λx xs i s=>Mh.eq_2 ..)
abbrev Yv {k2 xs}:=lq (λxs i (s:Unit)=>BU N k2 xs) xs () [(8,3),(19,9)] [18] (λi s=>BU.eq_1 ..) (λx xs i s=>BU.eq_2 ..)
abbrev Y8 {a1 a2 k9 xs s11}:=lq (λxs i (s:Int)=>BV N a1 a2 k9 xs s) xs s11 [(8,2),(12,2),(31,27)] [11,30] (λi s=>BV.eq_1 ..) (λx xs i s=>BV.eq_2 ..) (V:=λi s=>[.int .u64 s,.int .i64 i])
abbrev AIA {a0 k8 k s175}:=lf (λk (s:Nat)=>BJ N a0 k8 k s) k s175 [(4,3),(176,7)] [175] (λs=>[.iter a0 s]) (λs=>BJ.eq_1 ..) (λk s=>BJ.eq_2 ..)
abbrev AL4 {a0 a1 j19 k29 k s12}:=lc (λk i (s:Unit)=>G6 N a0 a1 j19 k29 k i) k s12 () [(48,17)] [12] (λi s=>G6.eq_1 ..) (λk i s=>G6.eq_2 ..)
abbrev AKs {a0 a1 k15 k s9}:=lf (λk (s:Int)=>BB N a0 a1 k15 k s) k s9 [(4,1),(10,3),(23,76)] [9] (λs=>[.int .i64 s]) (λs=>BB.eq_1 ..) (λk s=>BB.eq_2 ..)
abbrev YR {k2 xs}:=lq (λxs i (s:Unit)=>BI N k2 xs) xs () [(8,3),(19,9)] [18] (λi s=>BI.eq_1 ..) (λx xs i s=>BI.eq_2 ..)
abbrev Ya {a1 a2 k9 xs s11}:=lq (λxs i (s:Int)=>BL N a1 a2 k9 xs s) xs s11 [(8,2),(12,2),(31,27)] [11,30] (λi s=>BL.eq_1 ..) (λx xs i s=>BL.eq_2 ..) (V:=λi s=>[.int .u64 s,.int .i64 i])
abbrev AZD {a1 k s0 s5}:=lf (λk (s:B8×Int)=>IQ N a1 k s.1 s.2) k (s0,s5) [(4,1),(6,1),(20,14)] [0,5] (λs=>[.str s.1,.int .i64 s.2]) (λs=>IQ.eq_1 ..) (λk s=>IQ.eq_2 ..) (X:=IQ N a1 k s0 s5)
abbrev AR1 {j3 k12 k s7 s0 bn6}:=lc (λk i (s:B8×(List B8))=>GY N j3 k12 k i s.1 s.2) k s7 (s0,bn6) [(8,2),(22,20)] [0,7] (λi s=>GY.eq_1 ..) (λk i s=>GY.eq_2 ..) (V:=λi s=>[.str s.1,.int .i64 i]) (Ms:=λi s=>[.s (List.map AVal.str s.2)]) (X:=GY N j3 k12 k s7 s0 bn6)
abbrev Ag4 {k2 xs s6}:=lr (λxs i (s:Unit)=>Df N k2 xs i) xs s6 () [(2,2),(7,26)] [6] (λi s=>Df.eq_1 ..) (λx xs i s=>Df.eq_2 ..)
abbrev Adf {a1 k2 xs}:=lq (λxs i (s:Unit)=>D5 N a1 k2 xs) xs () [(6,2),(14,26)] [8] (λi s=>D5.eq_1 ..) (λx xs i s=>D5.eq_2 ..)
abbrev Ac6 {a1 a2 k17 xs s9}:=lq (λxs i (s:Int)=>Cj N a1 a2 k17 xs s) xs s9 [(6,2),(11,1),(40,46)] [9,10] (λi s=>Cj.eq_1 ..) (λx xs i s=>Cj.eq_2 ..) (V:=λi s=>[.int .u64 s,.int .i64 i])
abbrev Agm {k4 xs}:=lq (λxs i (s:Unit)=>IJ N k4 xs) xs () [(2,1),(5,1),(11,7)] [10] (λi s=>IJ.eq_1 ..) (λx xs i s=>IJ.eq_2 ..)
abbrev Ac1 {k13 xs}:=lq (λxs i (s:Unit)=>Le N k13 xs) xs () [(2,1),(22,11)] [5] (λi s=>Le.eq_1 ..) (λx xs i s=>Le.eq_2 ..)
abbrev Abl {k6 xs}:=lq (λxs i (s:Unit)=>L6 N k6 xs) xs () [(2,1),(4,2),(17,17)] [16] (λi s=>L6.eq_1 ..) (λx xs i s=>L6.eq_2 ..)
abbrev AZ9 {a0 a1 k2 xs s6 s5}:=lr (λxs i (s:B8)=>Db N a0 a1 k2 xs i s) xs s6 s5 [(7,36)] [5,6] (λi s=>Db.eq_1 ..) (λx xs i s=>Db.eq_2 ..) (V:=λi s=>[.str s,.int .i64 i])
attribute [instance] AbJ AZ0 AaI AhK Yv Y8 AIA AL4 AKs YR Ya AZD AR1 Ag4 Adf Ac6 Agm Ac1 Abl AZ9
instance AoT {a0 a1}:CF vE (Nw N a0 a1) 105 [FX a0,.str a1] (λr=>.slice 1 (List.map AVal.str r) false):=AQ (Nw.eq_1 ..) func105 rfl ntmps105 results105 [(6,[19],.done)]
instance AiB {a0 a1}:CF vE (strings_Join N a0 a1) 106 [.slice 1 (List.map AVal.str a0) false,.str a1] (λr=>.str r):=AQ (strings_Join.eq_1 ..) func106 rfl ntmps106 results106 [(18,[8],.done)]
instance ApI {a0 a1}:CF vE (Rp N a0 a1) 275 [.int .u8 a0,.str a1] (λr=>.bool r):=AQ (Rp.eq_1 ..) func275 rfl ntmps275 results275
instance AGw {a0}:CB vE (Gt N a0) 110 (λi0=>[.ptr i0 0]) (λi0=>[.str a0.s,.int .i64 a0.at_]) (λr=>.tuple []) (λi0 r=>[.str r.s,.int .i64 r.at_]):=Fb (Gt.eq_1 ..) func110 rfl ntmps110 results110
instance Ari {a0}:CF vE (WT N a0) 200 [I6 a0] (λr=>.bool r):=AQ (WT.eq_1 ..) func200 rfl ntmps200 results200 [(4,[],.stop)]
instance AVR {a0}:CB vE (OG N a0) 340 (λi0=>[.ptr i0 0]) (λi0=>[.str a0.s,.int .i64 a0.at_]) (λr=>.tuple [.str r.1,.int .i64 r.2.1]) (λi0 r=>[.str r.2.2.s,.int .i64 r.2.2.at_]):=Fb (OG.eq_1 ..) func340 rfl ntmps340 results340 [(2,[],.tk 0 8 (.al 8 [(6,3),(2,3)] (.take 9 (.ar 10 [(7,8)] (.ar 11 [(7,8)] (.ar 12 [(7,8)] (.al 13 [] (.al 14 [] (.al 15 [] .done))) (.al 13 [] (.ar 12 [(7,8)] (.al 14 [] (.al 15 [] .done)) (.al 14 [] (.al 12 [(7,8)] (.al 15 [] .done)))))) (.ar 12 [(7,8)] (.ar 11 [(7,8)] (.al 13 [] (.al 14 [] (.al 15 [] .done))) (.al 13 [] (.al 11 [(7,8)] (.al 14 [] (.al 15 [] .done))))) (.al 13 [] (.ar 11 [(7,8)] (.ar 12 [(7,8)] (.al 14 [] (.al 15 [] .done)) (.al 14 [] (.al 12 [(7,8)] (.al 15 [] .done)))) (.al 12 [(7,8)] (.al 11 [(7,8)] (.al 14 [] (.al 15 [] .done)))))))) (.ar 11 [(7,8)] (.ar 10 [(7,8)] (.ar 12 [(7,8)] (.al 13 [] (.al 14 [] (.al 15 [] .done))) (.al 13 [] (.ar 12 [(7,8)] (.al 14 [] (.al 15 [] .done)) (.al 14 [] (.al 12 [(7,8)] (.al 15 [] .done)))))) (.al 12 [(7,8)] (.al 10 [(7,8)] (.al 13 [] (.al 14 [] (.al 15 [] .done)))))) (.al 12 [(7,8)] (.ar 10 [(7,8)] (.ar 11 [(7,8)] (.al 13 [] (.al 14 [] (.al 15 [] .done))) (.al 13 [] (.al 11 [(7,8)] (.al 14 [] (.al 15 [] .done))))) (.al 11 [(7,8)] (.al 10 [(7,8)] (.al 13 [] (.al 14 [] (.al 15 [] .done))))))))))))]
instance AAr {a0 a1 a2}:CF vE (GL N a0 a1 a2) 398 [.str a0,.int .u64 a1,.int .u64 a2,.fn (.func 305) [] []] (λr=>.tuple [.int .u64 r.1,.int .i64 r.2]):=AQ (GL.eq_1 ..) func398 rfl ntmps398 results398 [(14,[],.stop)]
instance AVJ {a0 a1}:CB vE (Fe N a0 a1) 342 (λi0=>[.ptr i0 0,.str a1]) (λi0=>[.str a0.s,.int .i64 a0.at_]) (λr=>.bool r.1) (λi0 r=>[.str r.2.s,.int .i64 r.2.at_]):=Fb (Fe.eq_1 ..) func342 rfl ntmps342 results342 [(1,[],.tk 0 21 (.al 21 [(19,8),(9,10)] (.tk 22 2 .done)))]
instance AoP {a0 a1}:CF vE (strings_Cut N a0 a1) 161 [.str a0,.str a1] (λr=>.tuple [.str r.1,.str r.2.1,.bool r.2.2]):=AQ (strings_Cut.eq_1 ..) func161 rfl ntmps161 results161
instance AVM {a0 a1}:CF vE (CU N a0 a1) 399 [.str a0,.int .i32 a1] (λr=>.int .i64 r):=AQ (CU.eq_1 ..) func399 rfl ntmps399 results399 [(34,[],.stop),(6,[],.tk 0 7 .done),(7,[],.tk 0 7 (.al 7 [(5,2),(2,3)] (.al 8 [] .done))),(14,[],.tk 0 11 .done),(18,[],.stop),(27,[],.stop),(31,[],.tk 0 11 .done)]
instance AAF {a0 a1 a2}:CF vE (FJ N a0 a1 a2) 398 [.str a0,.int .u64 a1,.int .u64 a2,.fn (.func 278) [] []] (λr=>.tuple [.int .u64 r.1,.int .i64 r.2]):=AQ (FJ.eq_1 ..) func398 rfl ntmps398 results398 [(14,[],.stop)]
instance AVE {a0 a1}:CF vE (strings_CutPrefix N a0 a1) 208 [.str a0,.str a1] (λr=>.tuple [.str r.1,.bool r.2]):=AQ (strings_CutPrefix.eq_1 ..) func208 rfl ntmps208 results208
instance AZP {a0 a1}:CF vE (Ip N a0 a1) 236 [.str a0,.int .i64 a1] (λr=>.tuple [.int .u8 r.1,.bool r.2]):=AQ (Ip.eq_1 ..) func236 rfl ntmps236 results236 [(1,[],.stop),(3,[],.tk 0 4 (.tk 6 4 (.al 4 [(9,4),(2,3)] (.take 5 (.al 10 [(5,1),(8,3),(3,4)] (.take 11 (.al 12 [] (.al 13 [] .done))))))))]
instance AY7 {a0 a1}:CF vE (strings_Contains N a0 a1) 288 [.str a0,.str a1] (λr=>.bool r):=AQ (strings_Contains.eq_1 ..) func288 rfl ntmps288 results288
instance AAh {a0 a1}:CF vE (strings_Count N a0 a1) 240 [.str a0,.str a1] (λr=>.int .i64 r):=AQ (strings_Count.eq_1 ..) func240 rfl ntmps240 results240
def AAV {a0 a1 r} (h:strings_Count N a0 a1=some r) (ha:args=[.str a0,.str a1]) (hQ: ∀n',n<=n'->Gl (Q (.int .i64 r) ⟨m,n'⟩)):ACall vE 240 args ⟨m,n⟩ Q:=ha▸AAh.go h hQ
instance AFN {a0 a1 a2}:CB vE (Eb N a0 a1 a2) 118 (λi0=>[.ptr i0 0,AC a1,.str a2]) (λi0=>[.str a0.did.method,.str a0.did.iD,.int .i64 a0.e]) (λr=>.str r.1) (λi0 r=>[.str r.2.did.method,.str r.2.did.iD,.int .i64 r.2.e]):=Fb (Eb.eq_1 ..) func118 rfl ntmps118 results118
instance APc {a0 a1 a2}:CB vE (Hg N a0 a1 a2) 120 (λi0=>[.ptr i0 0,AC a1,.str a2]) (λi0=>[.str a0.did.method,.str a0.did.iD,.int .i64 a0.e]) (λr=>.slice 4 (List.map AC r.1) false) (λi0 r=>[.str r.2.did.method,.str r.2.did.iD,.int .i64 r.2.e]):=Fb (Hg.eq_1 ..) func120 rfl ntmps120 results120 [] true
instance ABe {a0 a1}:CB vE (Ed N a0 a1) 122 (λi0=>[.ptr i0 0,AC a1]) (λi0=>[.str a0.did.method,.str a0.did.iD,.int .i64 a0.e]) (λr=>.slice 1 (List.map AVal.str r.1) false) (λi0 r=>[.str r.2.did.method,.str r.2.did.iD,.int .i64 r.2.e]):=Fb (Ed.eq_1 ..) func122 rfl ntmps122 results122
instance Xd {a0 a1}:CF vE (NL N a0 a1) 239 [.str a0,.int .i64 a1] (λr=>.slice 1 (List.map AVal.str r) false):=AQ (NL.eq_1 ..) func239 rfl ntmps239 results239 [(2,[],.stop)]
def Xg {a0 a1 r} (h:NL N a0 a1=some r) (ha:args=[.str a0,.int .i64 a1]) (hQ: ∀n',n<=n'->Gl (Q (.slice 1 (List.map AVal.str r) false) ⟨m,n'⟩)):ACall vE 239 args ⟨m,n⟩ Q:=ha▸Xd.go h hQ
instance Ai6 {a0}:CF vE (KF N a0) 360 [.str a0] (λr=>.bool r):=AQ (KF.eq_1 ..) func360 rfl ntmps360 results360 [(1,[],.stop)]
instance AhG {a0}:CF vE (FU N a0) 92 [Ad a0] (λr=>.str r):=AQ (FU.eq_1 ..) func92 rfl ntmps92 results92 [(1,[],.take 0 (.take 4 (.al 1 [(4,1)] (.al 2 [(4,1),(0,1)] (.take 3 (.al 5 [(3,1),(0,1)] (.take 6 (.al 7 [] .done))))))))]
instance Aqx {a0}:CF vE (LZ N a0) 365 [.str a0] (λr=>.bool r):=AQ (LZ.eq_1 ..) func365 rfl ntmps365 results365 [(4,[],.stop)]
instance Uy {a0 a1}:CF vE (strings_TrimPrefix N a0 a1) 366 [.str a0,.str a1] (λr=>.str r):=AQ (strings_TrimPrefix.eq_1 ..) func366 rfl ntmps366 results366
def Ua {a0 a1 r} (h:strings_TrimPrefix N a0 a1=some r) (ha:args=[.str a0,.str a1]) (hQ: ∀n',n<=n'->Gl (Q (.str r) ⟨m,n'⟩)):ACall vE 366 args ⟨m,n⟩ Q:=ha▸Uy.go h hQ
instance Ahd {a0 a1}:CF vE (MI N a0 a1) 136 [.str a0,.int .i64 a1] (λr=>.tuple [.int .u8 r.1,.bool r.2]):=AQ (MI.eq_1 ..) func136 rfl ntmps136 results136 [(1,[],.stop),(3,[],.tk 0 4 (.tk 6 4 (.al 4 [(9,4),(2,3)] (.take 5 (.al 10 [(5,1),(8,3),(3,4)] (.take 11 (.al 12 [] (.al 13 [] .done))))))))]
instance AoI {a0 a1 a2}:CF vE (J4 N a0 a1 a2) 299 [.str a0,.int .u64 a1,.int .u64 a2] (λr=>.tuple [.int .u64 r.1,.int .i64 r.2]):=AQ (J4.eq_1 ..) func299 rfl ntmps299 results299 [(6,[],.stop),(15,[],.stop)]
instance AsU {a0}:CF vE (Qn N a0) 217 [.str a0] (λr=>.bool r):=AQ (Qn.eq_1 ..) func217 rfl ntmps217 results217
instance AoH {a0}:CF vE (UB N a0) 131 [.str a0] (λr=>.bool r):=AQ (UB.eq_1 ..) func131 rfl ntmps131 results131 [(1,[],.stop)]
instance Ahh {a0 a1}:CF vE (ME N a0 a1) 67 [.str a0,.str a1] (λr=>.str r):=AQ (ME.eq_1 ..) func67 rfl ntmps67 results67 [(5,[],.stop)]
end Go.Proofs.YtenhbiooanampaaGreatDoor
