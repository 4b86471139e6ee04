import Derived.Test.YtalbfkgififmfaaGreatDoorW17
set_option linter.unusedVariables false
set_option linter.unusedSimpArgs false
set_option maxHeartbeats 4000000
set_option maxRecDepth 100000
set_option linter.defProp false
namespace Go.Proofs.YtalbfkgififmfaaGreatDoor
open Go.VM Tryz
attribute [local irreducible] AA grd letL
variable{N n:Nat}{m:MS}{Q:PQ}{args:List AVal}
abbrev ANn {a e b k d f}:=lf (λk (s:Int×(List Int))=>CR N a e b k s.1 s.2) k (d,f) [(4,2),(8,3),(14,43)] [7] (λs=>[.int .i64 s.1]) (λs=>CR.eq_1 ..) (λk s=>CR.eq_2 ..) (Ms:=λs=>[.s ([.slice 1 (List.map (AVal.int .u8) s.2) true])]) (X:=CR N a e b k d f)
abbrev U4 {b k e a}:=lf (λk (s:B8×Int)=>BM N b k s.1 s.2) k (e,a) [(10,23)] [] (λs=>[]) (λs=>BM.eq_1 ..) (λk s=>BM.eq_2 ..) (Ms:=λs=>[.s ([.str s.1,.int .i64 s.2])]) (X:=BM N b k e a)
abbrev AXd {e b a d}:=lq (λa i (s:(List Int))=>Dv N e b a s) a d [(6,2),(11,24)] [10] (λi s=>Dv.eq_1 ..) (λx a i s=>Dv.eq_2 ..) (Ms:=λi s=>[.s ([.slice 1 (List.map (AVal.int .u8) s) true])])
abbrev AcR {e a}:=lq (λa i (s:Unit)=>GH N e a) a () [(2,1),(5,3),(13,11)] [12] (λi s=>GH.eq_1 ..) (λx a i s=>GH.eq_2 ..)
abbrev AXv {e a}:=lq (λa i (s:Unit)=>Eo N e a) a () [(3,1),(7,3),(49,12)] [48] (λi s=>Eo.eq_1 ..) (λx a i s=>Eo.eq_2 ..)
abbrev AXc {e a}:=lq (λa i (s:Unit)=>Em N e a) a () [(3,1),(68,18)] [13] (λi s=>Em.eq_1 ..) (λx a i s=>Em.eq_2 ..)
abbrev AXf {e a b d}:=lr (λa i (s:B8)=>DK N e a i s) a b d [(3,1),(11,5),(64,36)] [10,63] (λi s=>DK.eq_1 ..) (λx a i s=>DK.eq_2 ..) (V:=λi s=>[.str s,.int .i64 i])
abbrev AXm {t k v y f g p d a e b q}:=lc (λk i (s:(List AK)×B8×Int×B8×B8×B8×Bool×Bool×AI)=>DI N t k i s.1 s.2.1 s.2.2.1 s.2.2.2.1 s.2.2.2.2.1 s.2.2.2.2.2.1 s.2.2.2.2.2.2.1 s.2.2.2.2.2.2.2.1 s.2.2.2.2.2.2.2.2) k v (y,f,g,p,d,a,e,b,q) [(9,52)] [7,8] (λi s=>DI.eq_1 ..) (λk i s=>DI.eq_2 ..) (V:=λi s=>[.vec 7 (List.map BR s.1),.int .i64 i]) (Ms:=λi s=>[.s ([.str s.2.1,.int .i64 s.2.2.1,.str s.2.2.2.1,.str s.2.2.2.2.1,.str s.2.2.2.2.2.1,.bool s.2.2.2.2.2.2.1,.bool s.2.2.2.2.2.2.2.1]),.s ([.slice 1 (List.map (AVal.int .u8) s.2.2.2.2.2.2.2.2.l) false])]) (X:=DI N t k v y f g p d a e b q)
abbrev Aoh {e a}:=lq (λa i (s:Unit)=>Ja N e a) a () [(2,2),(7,8)] [6] (λi s=>Ja.eq_1 ..) (λx a i s=>Ja.eq_2 ..)
abbrev AkF {a e k b}:=lf (λk (s:Int)=>J4 N a e k s) k b [(13,12)] [7] (λs=>[.int .i64 s]) (λs=>J4.eq_1 ..) (λk s=>J4.eq_2 ..)
abbrev AcW {d a e b}:=lr (λa i (s:(List B8))=>GR N d a i s) a e b [(2,2),(5,2),(14,26)] [13] (λi s=>GR.eq_1 ..) (λx a i s=>GR.eq_2 ..) (Ms:=λi s=>[.s ([.vec 1 (List.map AVal.str s)])])
abbrev Aiq {d e b k f a}:=lf (λk (s:Int×(List AG))=>KG N d e b k s.1 s.2) k (f,a) [(3,1),(9,4),(52,59)] [5] (λs=>[.int .i64 s.1]) (λs=>KG.eq_1 ..) (λk s=>KG.eq_2 ..) (Ms:=λs=>[.p [.k,.k,.v (.slice 2 (List.map Ag s.2) true)]]) (X:=KG N d e b k f a)
abbrev Aj5 {a e k b}:=lf (λk (s:Int)=>NV N a e k s) k b [(23,12)] [1] (λs=>[.int .i64 s]) (λs=>NV.eq_1 ..) (λk s=>NV.eq_2 ..)
abbrev AkG {b d a k e}:=lf (λk (s:Int)=>NT N b d a k s) k e [(100,16)] [12] (λs=>[.int .i64 s]) (λs=>NT.eq_1 ..) (λk s=>NT.eq_2 ..)
abbrev ARK {a k e b}:=lf (λk (s:(List AG)×Int)=>F7 N a k s.1 s.2) k (e,b) [(2,2),(6,68)] [4,5] (λs=>[.slice 2 (List.map Ag s.1) true,.int .i64 s.2]) (λs=>F7.eq_1 ..) (λk s=>F7.eq_2 ..) (X:=F7 N a k e b)
attribute [instance] ANn U4 AXd AcR AXv AXc AXf AXm Aoh AkF AcW Aiq Aj5 AkG ARK
instance AXr {a e}:CF vE (CY N a e) 178 [.str a,.str e] (λr=>.tuple [.str r.1,.int .i64 r.2]):=AO (CY.eq_1 ..) func178 [(15,[38],.done),(17,[],.stop),(18,[53],.done)]
instance AUB {a e b}:CF vE (strings_ReplaceAll N a e b) 181 [.str a,.str e,.str b] .str:=AO (strings_ReplaceAll.eq_1 ..) func181
instance Wt {a}:CB vE (Ew N a) 212 (λe=>[.ptr e 0,.fn (.func 213) [] []]) (λe=>[.str a.s,.int .i64 a.o]) (λr=>.str r.1) (λe r=>[.str r.2.s,.int .i64 r.2.o]):=Fh (Ew.eq_1 ..) func212 [(2,[],.take 0 (.al 1 [] (.tk 2 12 (.al 14 [(12,8),(2,1),(0,1)] (.take 15 .done))))),(4,[],.tk 0 10 (.al 10 [] .done))]
instance AsT {a}:CF vE (Qb N a) 51 [Je a] .bool:=AO (Qb.eq_1 ..) func51
instance AWG {a}:CB vE (OJ N a) 219 (λe=>[.ptr e 0]) (λe=>[.str a.s,.int .i64 a.o]) (λr=>.tuple [.int .i64 r.1,.str r.2.1,.int .i64 r.2.2.1]) (λe r=>[.str r.2.2.2.s,.int .i64 r.2.2.2.o]):=Fh (OJ.eq_1 ..) func219 [(1,[],.tk 0 10 .done),(3,[],.tk 0 9 (.al 9 [] .done)),(10,[],.stop),(16,[],.stop)]
instance AjF {a}:CF vE (SC N a) 354 [.str a] (.int .i64):=AO (SC.eq_1 ..) func354
instance Aj1 {a e}:CF vE (strings_Split N a e) 184 [.str a,.str e] (λr=>.slice 1 (List.map AVal.str r) false):=AO (strings_Split.eq_1 ..) func184
instance AjX {a e}:CF vE (IR N a e) 370 [.str a,.int .u64 e] (λr=>.tuple [.int .u64 r.1,.int .i64 r.2]):=AO (IR.eq_1 ..) func370 [(1,[],.stop)]
instance ARI {a e}:CF vE (strings_ContainsAny N a e) 358 [.str a,.str e] .bool:=AO (strings_ContainsAny.eq_1 ..) func358
instance Afz {a e}:CF vE (I6 N a e) 256 [.str a,.str e] .str:=AO (I6.eq_1 ..) func256 [(6,[],.stop),(7,[28],.done)]
instance AxH {a}:CF vE (NA N a) 361 [.str a] (λr=>.tuple [Gm r.1,.int .i64 r.2]):=AO (NA.eq_1 ..) func361 [(7,[],.stop),(10,[],.tk 0 8 (.al 8 [(6,4)] (.take 9 (.al 10 [(6,4)] (.al 11 [] .done))))),(17,[],.tk 0 7 (.al 7 [(5,3)] (.al 8 [] .done)))]
instance AnK {a}:CF vE (ND N a) 146 [.str a] .bool:=AO (ND.eq_1 ..) func146
instance Auj {a}:CF vE (Rn N a) 231 [.str a] (λr=>.tuple [.int .i64 r.1,.int .i64 r.2]):=AO (Rn.eq_1 ..) func231 [(2,[],.stop)]
instance Ahe {a}:CF vE (Cc N a) 19 [.str a] (λr=>.tuple [DC r.1,.int .i64 r.2]):=AO (Cc.eq_1 ..) func19 [(26,[],.stop)]
instance ArT {a}:CF vE (Qk N a) 233 [.str a] .bool:=AO (Qk.eq_1 ..) func233
instance Aoy {e b}:CB vE (Pf N e b) 25 (λa=>[.ptr a 0,Ad b]) (λa=>[.slice 1 (List.map (AVal.int .u8) e.l) false]) (λr=>BR r.1) (λa r=>[.slice 1 (List.map (AVal.int .u8) r.2.l) false]):=Fh (Pf.eq_1 ..) func25 [(1,[],.tk 0 3 (.ar 3 [(1,2)] (.tk 4 2 (.ar 6 [(4,1),(2,3)] (.ar 7 [(5,2),(2,2)] (.al 8 [(5,2),(2,3)] (.al 9 [] .done)) (.al 8 [(5,2),(2,3)] (.al 7 [(5,2),(2,2)] (.al 9 [] .done)))) (.al 8 [(5,2),(2,3)] (.al 6 [(4,1),(2,3)] (.al 7 [(5,2),(2,2)] (.al 9 [] .done)))))) (.al 8 [(2,3)] (.al 3 [(1,2)] (.tk 4 2 (.al 6 [(4,1),(2,3)] (.al 7 [(5,2),(2,2)] (.al 9 [] .done))))))))]
instance AjG {e b d}:CB vE (Aa6 (KF N e b d)) 78 (λa=>[.ptr a 0,Ad b,.int .i64 d]) (λa=>[.slice 1 (List.map (AVal.int .u8) e.l) false]) (λr=>.vec 7 (List.map BR r.1)) (λa r=>[.slice 1 (List.map (AVal.int .u8) r.2.l) false]):=Fh (AHc.trans (KF.eq_1 ..)) func78 [(0,[6],.done),(1,[7],.done),(12,[],.stop),(14,[7,47],.tk 1 2 (.take 6 (.ar 0 [(6,1),(2,2)] (.ar 3 [(6,1),(1,1)] (.tk 4 2 (.al 7 [(5,2),(2,2)] (.take 8 (.al 9 [(4,1),(6,1),(2,2)] (.al 10 [(8,1),(5,2),(6,1),(2,1)] (.take 11 (.al 12 [(8,1),(5,2),(6,1),(2,2)] (.al 13 [] .done)))))))) (.al 7 [(2,2)] (.take 8 (.al 3 [(8,1),(6,1),(1,1)] (.tk 4 2 (.al 9 [(4,1),(6,1),(2,2)] (.al 10 [(5,2),(8,1),(6,1),(2,1)] (.take 11 (.al 12 [(5,2),(8,1),(6,1),(2,2)] (.al 13 [] .done)))))))))) (.ar 3 [(6,1),(1,1)] (.tk 4 2 (.ar 0 [(5,2),(6,1),(2,2)] (.al 7 [(5,2),(2,2)] (.take 8 (.al 9 [(4,1),(6,1),(2,2)] (.al 10 [(8,1),(5,2),(6,1),(2,1)] (.take 11 (.al 12 [(8,1),(5,2),(6,1),(2,2)] (.al 13 [] .done))))))) (.al 7 [(5,2),(2,2)] (.take 8 (.ar 0 [(8,1),(5,2),(6,1),(2,2)] (.al 9 [(4,1),(6,1),(2,2)] (.al 10 [(8,1),(5,2),(6,1),(2,1)] (.take 11 (.al 12 [(8,1),(5,2),(6,1),(2,2)] (.al 13 [] .done))))) (.al 9 [(4,1),(6,1),(2,2)] (.ar 0 [(8,1),(5,2),(6,1),(2,2)] (.al 10 [(8,1),(5,2),(6,1),(2,1)] (.take 11 (.al 12 [(8,1),(5,2),(6,1),(2,2)] (.al 13 [] .done)))) (.al 10 [(8,1),(5,2),(6,1),(2,1)] (.take 11 (.al 0 [(11,1),(8,1),(5,2),(6,1),(2,2)] (.al 12 [(8,1),(5,2),(6,1),(2,2)] (.al 13 [] .done)))))))))))) (.al 7 [(2,2)] (.take 8 (.ar 0 [(8,1),(6,1),(2,2)] (.al 3 [(8,1),(6,1),(1,1)] (.tk 4 2 (.al 9 [(4,1),(6,1),(2,2)] (.al 10 [(5,2),(8,1),(6,1),(2,1)] (.take 11 (.al 12 [(5,2),(8,1),(6,1),(2,2)] (.al 13 [] .done))))))) (.al 3 [(8,1),(6,1),(1,1)] (.tk 4 2 (.ar 0 [(5,2),(8,1),(6,1),(2,2)] (.al 9 [(4,1),(6,1),(2,2)] (.al 10 [(5,2),(8,1),(6,1),(2,1)] (.take 11 (.al 12 [(5,2),(8,1),(6,1),(2,2)] (.al 13 [] .done))))) (.al 9 [(4,1),(6,1),(2,2)] (.ar 0 [(5,2),(8,1),(6,1),(2,2)] (.al 10 [(5,2),(8,1),(6,1),(2,1)] (.take 11 (.al 12 [(5,2),(8,1),(6,1),(2,2)] (.al 13 [] .done)))) (.al 10 [(5,2),(8,1),(6,1),(2,1)] (.take 11 (.al 0 [(11,1),(5,2),(8,1),(6,1),(2,2)] (.al 12 [(5,2),(8,1),(6,1),(2,2)] (.al 13 [] .done))))))))))))))))),(16,[6,61],.done)]
instance AxL {a}:CF vE (UJ N a) 375 [.str a] .bool:=AO (UJ.eq_1 ..) func375
instance AaF {a}:CB vE (Iy N a) 414 (λe=>[.ptr e 0]) (λe=>[.str a.rest,.int .u64 a.size]) (λr=>.tuple [.str r.1,.int .i64 r.2.1]) (λe r=>[.str r.2.2.rest,.int .u64 r.2.2.size]):=Fh (Iy.eq_1 ..) func414
instance ArV {a e}:CF vE (Qq N a e) 380 [Gm a,Gm e] (λr=>Gm r):=AO (Qq.eq_1 ..) func380 [(11,[],.tk 0 5 (.al 5 [(3,2)] (.take 6 (.al 7 [] .done)))),(12,[],.tk 0 5 (.al 5 [(3,2)] (.take 6 (.al 7 [] .done)))),(14,[],.tk 0 5 (.al 5 [(3,2)] (.take 6 (.al 7 [] .done))))]
instance AkE {a}:CF vE (QV N a) 114 [.str a] (λr=>.tuple [.int .u64 r.1,.bool r.2]):=AO (QV.eq_1 ..) func114
instance Akd {a}:CF vE (PK N a) 334 [.str a] (λr=>.tuple [.agg [.int .i64 r.1.y,.int .i64 r.1.l,.slice 2 (List.map Ag r.1.m) true],.bool r.2]):=AO (PK.eq_1 ..) func334 [(1,[],.stop),(4,[],.stop)]
instance Auv {a e}:CF vE (Rl N a e) 383 [.str a,.int .i64 e] (λr=>.tuple [.int .u64 r.1,.int .i64 r.2.1,.int .i64 r.2.2]):=AO (Rl.eq_1 ..) func383 [(2,[],.stop),(6,[],.stop)]
instance Akh {a}:CF vE (NH N a) 339 [.str a] (λr=>.tuple [.int .u64 r.1,.bool r.2]):=AO (NH.eq_1 ..) func339 [(1,[4],.done),(2,[11],.done),(6,[],.tk 0 4 (.al 4 [(2,3)] (.tk 5 11 .done)))]
instance Ar4 {a}:CF vE (VG N a) 276 [.str a] (λr=>.tuple [Je r.1,.bool r.2]):=AO (VG.eq_1 ..) func276 [(2,[],.stop),(14,[],.stop),(19,[102],.take 0 (.take 2 (.take 4 (.take 8 (.ar 1 [(8,1),(4,1),(2,1)] (.al 3 [(8,1),(4,1),(0,1)] (.al 5 [(8,1),(2,1),(0,1)] (.take 6 (.al 7 [(8,1),(4,1),(2,1),(0,1)] (.take 9 (.al 10 [(8,1)] (.al 11 [] .done))))))) (.al 3 [(8,1),(4,1),(0,1)] (.ar 1 [(8,1),(4,1),(2,1)] (.al 5 [(8,1),(2,1),(0,1)] (.take 6 (.al 7 [(8,1),(4,1),(2,1),(0,1)] (.take 9 (.al 10 [(8,1)] (.al 11 [] .done)))))) (.al 5 [(8,1),(2,1),(0,1)] (.take 6 (.al 1 [(6,1),(8,1),(4,1),(2,1)] (.al 7 [(8,1),(4,1),(2,1),(0,1)] (.take 9 (.al 10 [(8,1)] (.al 11 [] .done))))))))))))))] true
instance AuK {a e}:CF vE (Xn N a e) 344 [.str a,.int .i64 e] (λr=>.tuple [ED r.1,.int .i64 r.2.1,.int .i64 r.2.2]):=AO (Xn.eq_1 ..) func344 [(1,[],.stop),(3,[],.stop),(15,[],.stop),(21,[],.stop),(24,[],.stop)]
instance AY6 {a}:CF vE (Pv N a) 124 [.str a] (λr=>.tuple [.slice 2 (List.map Ag r.1) false,.bool r.2]):=AO (Pv.eq_1 ..) func124 [(5,[],.stop),(10,[],.stop),(14,[58],.done)] true
instance AkC {a}:CF vE (QP N a) 125 [.str a] (λr=>.tuple [.int .u64 r.1,.bool r.2]):=AO (QP.eq_1 ..) func125
end Go.Proofs.YtalbfkgififmfaaGreatDoor
