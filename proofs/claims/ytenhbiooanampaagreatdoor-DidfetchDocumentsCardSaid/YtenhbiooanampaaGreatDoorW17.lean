import Derived.Test.YtenhbiooanampaaGreatDoorW14
import Derived.Test.YtenhbiooanampaaGreatDoorW16
set_option linter.unusedVariables false
set_option linter.unusedSimpArgs false
set_option maxHeartbeats 4000000
set_option maxRecDepth 100000
set_option linter.defProp false
namespace Go.Proofs.YtenhbiooanampaaGreatDoor
open Go.VM Tryz
attribute [local irreducible] AA grd letL
variable{N n:Nat}{m:MS}{Q:PQ}{args:List AVal}
abbrev AUh {a0 a1 k2 k s6 s7}:=lf (λk (s:(List Int)×Int)=>Cr N a0 a1 k2 k s.1 s.2) k (s6,s7) [(4,2),(8,2),(13,49)] [6,7] (λs=>[.slice 1 (List.map (AVal.int .u8) s.1) true,.int .i64 s.2]) (λs=>Cr.eq_1 ..) (λk s=>Cr.eq_2 ..) (X:=Cr N a0 a1 k2 k s6 s7)
abbrev AZp {a0 k2 k s4 s5}:=lf (λk (s:(List Int)×Int)=>Ep N a0 k2 k s.1 s.2) k (s4,s5) [(2,2),(6,3),(12,26)] [4,5] (λs=>[.slice 1 (List.map (AVal.int .u8) s.1) true,.int .i64 s.2]) (λs=>Ep.eq_1 ..) (λk s=>Ep.eq_2 ..) (X:=Ep N a0 k2 k s4 s5)
abbrev Aag {k29 k s7}:=lf (λk (s:B8)=>KS N k29 k s) k s7 [(54,10)] [7] (λs=>[.str s]) (λs=>KS.eq_1 ..) (λk s=>KS.eq_2 ..)
abbrev AZw {k40 k s6 s7}:=lf (λk (s:Int×B8)=>Iy N k40 k s.1 s.2) k (s6,s7) [(66,13)] [6,7] (λs=>[.int .i64 s.1,.str s.2]) (λs=>Iy.eq_1 ..) (λk s=>Iy.eq_2 ..) (X:=Iy N k40 k s6 s7)
abbrev AbH {a0 k2 k s3 s4}:=lf (λk (s:Int×Int)=>Jl N a0 k2 k s.1 s.2) k (s3,s4) [(2,1),(5,19)] [3,4] (λs=>[.int .i64 s.1,.int .i64 s.2]) (λs=>Jl.eq_1 ..) (λk s=>Jl.eq_2 ..) (X:=Jl N a0 k2 k s3 s4)
abbrev An8 {k4 xs s15 s7}:=lr (λxs i (s:B8)=>Gj N k4 xs i s) xs s15 s7 [(8,2),(16,12)] [7,15] (λi s=>Gj.eq_1 ..) (λx xs i s=>Gj.eq_2 ..) (V:=λi s=>[.str s,.int .i64 i])
abbrev Ae8 {a0 y12 y14 k s5}:=lf (λk (s:Int)=>OZ N a0 y12 y14 k s) k s5 [(3,1),(9,4),(52,59)] [5] (λs=>[.int .i64 s]) (λs=>OZ.eq_1 ..) (λk s=>OZ.eq_2 ..)
abbrev Ag7 {a0 k2 k s7 s8}:=lf (λk (s:B8×Int)=>Kc N a0 k2 k s.1 s.2) k (s7,s8) [(4,3),(9,6),(17,53)] [7,8] (λs=>[.str s.1,.int .i64 s.2]) (λs=>Kc.eq_1 ..) (λk s=>Kc.eq_2 ..) (X:=Kc N a0 k2 k s7 s8)
abbrev Tt {k2 k bi0_s bi0_at_}:=lf (λk (s:B8×Int)=>BM N k2 k s.1 s.2) k (bi0_s,bi0_at_) [(10,23)] [] (λs=>[]) (λs=>BM.eq_1 ..) (λk s=>BM.eq_2 ..) (Ms:=λs=>[.s ([.str s.1,.int .i64 s.2])]) (X:=BM N k2 k bi0_s bi0_at_)
abbrev AH2 {a0 a1 k2 k s7 bn}:=lf (λk (s:Int×(List Int))=>CP N a0 a1 k2 k s.1 s.2) k (s7,bn) [(4,2),(8,3),(14,43)] [7] (λs=>[.int .i64 s.1]) (λs=>CP.eq_1 ..) (λk s=>CP.eq_2 ..) (Ms:=λs=>[.s ([.slice 1 (List.map (AVal.int .u8) s.2) true])]) (X:=CP N a0 a1 k2 k s7 bn)
abbrev AVH {a1 k2 xs bn}:=lq (λxs i (s:(List Int))=>Dl N a1 k2 xs s) xs bn [(6,2),(11,24)] [10] (λi s=>Dl.eq_1 ..) (λx xs i s=>Dl.eq_2 ..) (Ms:=λi s=>[.s ([.slice 1 (List.map (AVal.int .u8) s) true])])
abbrev AZ5 {k4 xs}:=lq (λxs i (s:Unit)=>Fv N k4 xs) xs () [(2,1),(5,3),(13,11)] [12] (λi s=>Fv.eq_1 ..) (λx xs i s=>Fv.eq_2 ..)
abbrev AVK {k13 xs}:=lq (λxs i (s:Unit)=>EU N k13 xs) xs () [(3,1),(7,3),(49,12)] [48] (λi s=>EU.eq_1 ..) (λx xs i s=>EU.eq_2 ..)
abbrev AVP {k25 xs}:=lq (λxs i (s:Unit)=>EW N k25 xs) xs () [(3,1),(68,18)] [13] (λi s=>EW.eq_1 ..) (λx xs i s=>EW.eq_2 ..)
abbrev AVG {k20 xs s63 s10}:=lr (λxs i (s:B8)=>DF N k20 xs i s) xs s63 s10 [(3,1),(11,5),(64,36)] [10,63] (λi s=>DF.eq_1 ..) (λx xs i s=>DF.eq_2 ..) (V:=λi s=>[.str s,.int .i64 i])
attribute [instance] AUh AZp Aag AZw AbH An8 Ae8 Ag7 Tt AH2 AVH AZ5 AVK AVP AVG
instance AZl {a0 a1}:CF vE (DZ N a0 a1) 128 [.str a0,.str a1] (λr=>.tuple [.str r.1,.int .i64 r.2]):=AQ (DZ.eq_1 ..) func128 rfl ntmps128 results128 [(8,[],.stop),(10,[36],.done),(15,[52],.done),(16,[56],.done)]
instance Amq {a0 a1}:CF vE (L9 N a0 a1) 219 [.str a0,.int .u64 a1] (λr=>.tuple [.int .u64 r.1,.int .i64 r.2]):=AQ (L9.eq_1 ..) func219 rfl ntmps219 results219 [(2,[],.stop)]
instance AlO {a0}:CF vE (Gm N a0) 58 [.str a0] (λr=>.tuple [.str r.1,.int .i64 r.2]):=AQ (Gm.eq_1 ..) func58 rfl ntmps58 results58 [(13,[34],.done)]
instance Aia {a0}:CF vE (TK N a0) 51 [WB a0] (λr=>.str r):=AQ (TK.eq_1 ..) func51 rfl ntmps51 results51 [(1,[],.tk 0 2 (.tk 5 2 (.al 2 [(6,2),(0,1)] (.tk 3 2 (.take 7 (.al 8 [] .done))))))]
instance AlU {a0}:CF vE (Cy N a0) 68 [Ad a0] (λr=>.str r):=AQ (Cy.eq_1 ..) func68 rfl ntmps68 results68 [(1,[],.take 0 (.take 4 (.al 1 [(4,1)] (.al 2 [(4,1),(0,1)] (.take 3 (.al 5 [(3,1),(0,1)] (.take 6 (.al 7 [] .done))))))))]
instance AuE {a0}:CB vE (SF N a0) 14 (λi0=>[.ptr i0 0]) (λi0=>[.slice 1 (List.map (AVal.int .u8) a0.l) false]) (λr=>.str r.1) (λi0 r=>[.slice 1 (List.map (AVal.int .u8) r.2.l) false]):=Fb (SF.eq_1 ..) func14 rfl ntmps14 results14
instance Ajj {a0}:CF vE (QR N a0) 225 [.str a0] (λr=>.tuple [.str r.1,.int .i64 r.2]):=AQ (QR.eq_1 ..) func225 rfl ntmps225 results225 [(1,[],.stop),(5,[],.tk 0 2 (.al 2 [(1,2)] (.al 3 [] .done))),(7,[],.tk 0 3 (.tk 5 3 (.al 3 [(7,3),(1,1)] (.al 4 [(7,3),(2,3)] (.al 8 [(7,3)] (.al 9 [] .done)))))),(10,[],.tk 0 15 (.al 15 [(14,8)] (.al 16 [] .done))),(11,[],.stop),(17,[],.stop)]
instance ApF {a0}:CF vE (Uh N a0) 303 [.str a0] (λr=>.int .i64 r):=AQ (Uh.eq_1 ..) func303 rfl ntmps303 results303
instance AuI {a0 a1 a2 a3 a4}:CF vE (GN N a0 a1 a2 a3 a4) 17 [.int .i64 a0,.str a1,.str a2,.slice 2 (List.map Am a3) false,.bool a4] (λr=>.str r):=AQ (GN.eq_1 ..) func17 rfl ntmps17 results17 [(3,[17],.done),(4,[24],.done),(6,[30],.done),(8,[41],.take 0 (.tk 2 2 (.ar 1 [(3,2)] (.al 4 [(2,1),(0,1)] (.al 5 [(3,2),(0,1)] (.take 6 (.al 7 [(3,2),(0,1)] (.take 8 (.al 9 [] .done)))))) (.al 4 [(2,1),(0,1)] (.ar 1 [(3,2)] (.al 5 [(3,2),(0,1)] (.take 6 (.al 7 [(3,2),(0,1)] (.take 8 (.al 9 [] .done))))) (.al 5 [(3,2),(0,1)] (.take 6 (.al 1 [(6,1),(3,2)] (.al 7 [(3,2),(0,1)] (.take 8 (.al 9 [] .done)))))))))))]
instance Atm {a0 a1}:CF vE (Nc N a0 a1) 84 [FX a0,.str a1] (λr=>.tuple [.str r.1,.bool r.2]):=AQ (Nc.eq_1 ..) func84 rfl ntmps84 results84
instance AhI {a0 a1}:CF vE (Mj N a0 a1) 159 [Ga a0,Ga a1] (λr=>Ga r):=AQ (Mj.eq_1 ..) func159 rfl ntmps159 results159 [(14,[],.tk 0 5 (.al 5 [(3,2)] (.take 6 (.al 7 [] .done)))),(15,[],.tk 0 5 (.al 5 [(3,2)] (.take 6 (.al 7 [] .done)))),(5,[],.tk 0 5 (.al 5 [(3,2)] (.take 6 (.al 7 [] .done)))),(16,[],.tk 0 5 (.al 5 [(3,2)] (.take 6 (.al 7 [] .done))))]
instance AaP {a0}:CB vE (Iq N a0) 320 (λi0=>[.ptr i0 0]) (λi0=>[.str a0.rest,.bool a0.more]) (λr=>.str r.1) (λi0 r=>[.str r.2.rest,.bool r.2.more]):=Fb (Iq.eq_1 ..) func320 rfl ntmps320 results320
instance AuZ {a0}:CF vE (Uo N a0) 327 [Ga a0] (λr=>.str r):=AQ (Uo.eq_1 ..) func327 rfl ntmps327 results327
instance AoX {a0 a1}:CF vE (I1 N a0 a1) 329 [.str a0,.int .u64 a1] (λr=>.tuple [.int .u64 r.1,.int .i64 r.2]):=AQ (I1.eq_1 ..) func329 rfl ntmps329 results329
instance At8 {a0 a1}:CF vE (QX N a0 a1) 376 [.str a0,.int .u64 a1] (λr=>.tuple [.int .u64 r.1,.int .i64 r.2]):=AQ (QX.eq_1 ..) func376 rfl ntmps376 results376
instance Aol {a0}:CF vE (U2 N a0) 184 [.str a0] (λr=>.tuple [I6 r.1,.bool r.2]):=AQ (U2.eq_1 ..) func184 rfl ntmps184 results184 [(2,[],.stop),(14,[],.stop),(19,[102],.take 0 (.take 2 (.take 4 (.take 8 (.ar 1 [(8,1),(4,1),(2,1)] (.al 3 [(8,1),(4,1),(0,1)] (.al 5 [(8,1),(2,1),(0,1)] (.take 6 (.al 7 [(8,1),(4,1),(2,1),(0,1)] (.take 9 (.al 10 [(8,1)] (.al 11 [] .done))))))) (.al 3 [(8,1),(4,1),(0,1)] (.ar 1 [(8,1),(4,1),(2,1)] (.al 5 [(8,1),(2,1),(0,1)] (.take 6 (.al 7 [(8,1),(4,1),(2,1),(0,1)] (.take 9 (.al 10 [(8,1)] (.al 11 [] .done)))))) (.al 5 [(8,1),(2,1),(0,1)] (.take 6 (.al 1 [(6,1),(8,1),(4,1),(2,1)] (.al 7 [(8,1),(4,1),(2,1),(0,1)] (.take 9 (.al 10 [(8,1)] (.al 11 [] .done))))))))))))))] true
instance Aoe {a0}:CF vE (Ph N a0) 99 [I6 a0] (λr=>.bool r):=AQ (Ph.eq_1 ..) func99 rfl ntmps99 results99 [(1,[],.stop)]
instance AsB {a0 a1}:CF vE (Wn N a0 a1) 336 [.str a0,.int .i64 a1] (λr=>.tuple [.str r.1,.int .i64 r.2.1,.int .i64 r.2.2]):=AQ (Wn.eq_1 ..) func336 rfl ntmps336 results336
instance U5 {a0}:CB vE (El N a0) 196 (λi0=>[.ptr i0 0,.fn (.func 197) [] []]) (λi0=>[.str a0.s,.int .i64 a0.at_]) (λr=>.str r.1) (λi0 r=>[.str r.2.s,.int .i64 r.2.at_]):=Fb (El.eq_1 ..) func196 rfl ntmps196 results196 [(2,[],.take 0 (.al 1 [] (.tk 2 12 (.al 14 [(12,8),(2,1),(0,1)] (.take 15 .done))))),(4,[],.tk 0 10 (.al 10 [] .done))]
instance Aob {a0}:CF vE (PZ N a0) 41 [I6 a0] (λr=>.bool r):=AQ (PZ.eq_1 ..) func41 rfl ntmps41 results41
instance ASs {a0}:CB vE (NS N a0) 203 (λi0=>[.ptr i0 0]) (λi0=>[.str a0.s,.int .i64 a0.at_]) (λr=>.tuple [.int .i64 r.1,.str r.2.1,.int .i64 r.2.2.1]) (λi0 r=>[.str r.2.2.2.s,.int .i64 r.2.2.2.at_]):=Fb (NS.eq_1 ..) func203 rfl ntmps203 results203 [(1,[],.tk 0 10 .done),(3,[],.tk 0 9 (.al 9 [] .done)),(10,[],.stop),(16,[],.stop)]
instance Afk {a0}:CF vE (Q4 N a0) 346 [.str a0] (λr=>.int .i64 r):=AQ (Q4.eq_1 ..) func346 rfl ntmps346 results346
instance AVY {a0 a1}:CF vE (Ci N a0 a1) 287 [.str a0,.str a1] (λr=>.tuple [.str r.1,.int .i64 r.2]):=AQ (Ci.eq_1 ..) func287 rfl ntmps287 results287 [(15,[38],.done),(17,[],.stop),(18,[53],.done)]
instance APi {a0 a1 a2}:CF vE (strings_ReplaceAll N a0 a1 a2) 289 [.str a0,.str a1,.str a2] (λr=>.str r):=AQ (strings_ReplaceAll.eq_1 ..) func289 rfl ntmps289 results289
instance Ag3 {a0 a1}:CF vE (strings_Split N a0 a1) 89 [.str a0,.str a1] (λr=>.slice 1 (List.map AVal.str r) false):=AQ (strings_Split.eq_1 ..) func89 rfl ntmps89 results89
instance AhR {a0 a1}:CF vE (H7 N a0 a1) 309 [.str a0,.int .u64 a1] (λr=>.tuple [.int .u64 r.1,.int .i64 r.2]):=AQ (H7.eq_1 ..) func309 rfl ntmps309 results309 [(1,[],.stop)]
instance AcQ {a0 a1}:CF vE (Jm N a0 a1) 167 [.str a0,.str a1] (λr=>.str r):=AQ (Jm.eq_1 ..) func167 rfl ntmps167 results167 [(6,[],.stop),(7,[28],.done)]
instance AtY {a0}:CF vE (MV N a0) 315 [.str a0] (λr=>.tuple [Ga r.1,.int .i64 r.2]):=AQ (MV.eq_1 ..) func315 rfl ntmps315 results315 [(7,[],.stop),(10,[],.tk 0 8 (.al 8 [(6,4)] (.take 9 (.al 10 [(6,4)] (.al 11 [] .done))))),(17,[],.tk 0 7 (.al 7 [(5,3)] (.al 8 [] .done)))]
instance Aks {a0}:CF vE (MH N a0) 132 [.str a0] (λr=>.bool r):=AQ (MH.eq_1 ..) func132 rfl ntmps132 results132
instance AqC {a0}:CF vE (Q3 N a0) 224 [.str a0] (λr=>.tuple [.int .i64 r.1,.int .i64 r.2]):=AQ (Q3.eq_1 ..) func224 rfl ntmps224 results224 [(2,[],.stop)]
instance Aen {a0}:CF vE (CZ N a0) 15 [.str a0] (λr=>.tuple [CL r.1,.int .i64 r.2]):=AQ (CZ.eq_1 ..) func15 rfl ntmps15 results15 [(26,[],.stop)]
instance AoJ {a0}:CF vE (Pn N a0) 226 [.str a0] (λr=>.bool r):=AQ (Pn.eq_1 ..) func226 rfl ntmps226 results226
end Go.Proofs.YtenhbiooanampaaGreatDoor
