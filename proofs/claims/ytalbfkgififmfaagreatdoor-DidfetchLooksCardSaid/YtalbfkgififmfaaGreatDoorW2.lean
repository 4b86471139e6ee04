import Derived.Test.YtalbfkgififmfaaGreatDoorVmFacts
import Derived.Test.YtalbfkgififmfaaGreatDoorDefs
import Derived.Test.YtalbfkgififmfaaGreatDoorVM7
set_option linter.unusedVariables false
set_option linter.unusedSimpArgs false
set_option maxHeartbeats 4000000
set_option maxRecDepth 100000
set_option linter.defProp false
namespace Go.Proofs.YtalbfkgififmfaaGreatDoor
open Go.VM Tryz
attribute [local irreducible] AA grd letL
variable{N n:Nat}{m:MS}{Q:PQ}{args:List AVal}
abbrev Uw {a e b k d}:=lf (λk (s:Int)=>Ao N a e b k s) k d [(4,1),(9,10)] [5] (λs=>[.int .i64 s]) (λs=>Ao.eq_1 ..) (λk s=>Ao.eq_2 ..)
abbrev Aci {e b a}:=lq (λa i (s:Unit)=>Hu N e b a) a () [(6,1),(8,1),(16,8)] [15] (λi s=>Hu.eq_1 ..) (λx a i s=>Hu.eq_2 ..)
abbrev AsY {e b a}:=lq (λa i (s:Unit)=>Kg N e b a) a () [(4,1),(6,11)] [5] (λi s=>Kg.eq_1 ..) (λx a i s=>Kg.eq_2 ..)
abbrev Agq {e b a d f}:=lr (λa i (s:(List Int))=>G6 N e b a i s) a d f [(4,1),(10,21)] [9] (λi s=>G6.eq_1 ..) (λx a i s=>G6.eq_2 ..) (Ms:=λi s=>[.s (List.map (AVal.int .u8) s)])
abbrev Ag4 {e b d a f g p}:=lr (λa i (s:(List B8)×Int)=>Fz N e b d a i s.1 s.2) a f (g,p) [(8,20)] [5,6,7] (λi s=>Fz.eq_1 ..) (λx a i s=>Fz.eq_2 ..) (V:=λi s=>[.vec 1 (List.map AVal.str s.1),.int .i64 s.2,.int .i64 i]) (X:=Fz N e b d a f g p)
abbrev Acj {k a e}:=lf (λk (s:Int×B8)=>EM N k s.1 s.2) k (a,e) [(2,1),(4,13)] [0,3] (λs=>[.int .u64 s.1,.str s.2]) (λs=>EM.eq_1 ..) (λk s=>EM.eq_2 ..) (X:=EM N k a e)
abbrev AZb {a e k b}:=lf (λk (s:Int)=>FK N a e k s) k b [(2,1),(7,11)] [3] (λs=>[.int .i64 s]) (λs=>FK.eq_1 ..) (λk s=>FK.eq_2 ..)
abbrev Ad2 {a d b e f}:=lq (λe i (s:Int)=>MM N a d b e s) e f [(4,1),(8,2),(27,14)] [6,26] (λi s=>MM.eq_1 ..) (λx e i s=>MM.eq_2 ..) (V:=λi s=>[.int .i64 s,.int .i64 i])
abbrev Agt {a e k b d}:=lc (λk i (s:Int)=>ML N a e k i s) k b d [(20,14)] [3,4] (λi s=>ML.eq_1 ..) (λk i s=>ML.eq_2 ..) (V:=λi s=>[.int .i64 s,.int .i64 i])
abbrev AcG {a k e b d}:=lf (λk (s:(List B8)×(List B8)×(List B8))=>H6 N a k s.1 s.2.1 s.2.2) k (e,b,d) [(22,31)] [3,4,5] (λs=>[.slice 1 (List.map AVal.str s.1) false,.slice 1 (List.map AVal.str s.2.1) false,.slice 1 (List.map AVal.str s.2.2) true]) (λs=>H6.eq_1 ..) (λk s=>H6.eq_2 ..) (X:=H6 N a k e b d)
abbrev Ajy {e a b}:=lq (λa i (s:Int)=>NW N e a s) a b [(5,1),(15,8)] [3,14] (λi s=>NW.eq_1 ..) (λx a i s=>NW.eq_2 ..) (V:=λi s=>[.int .i64 s,.int .i64 i])
abbrev Ajx {a b e}:=lq (λe i (s:Unit)=>Na N a b e) e () [(2,1),(7,1),(29,6)] [28] (λi s=>Na.eq_1 ..) (λx e i s=>Na.eq_2 ..)
abbrev Al4 {b d f a e}:=lr (λa i (s:Unit)=>O3 N b d f a i) a e () [(5,2),(15,22)] [14] (λi s=>O3.eq_1 ..) (λx a i s=>O3.eq_2 ..)
abbrev Anz {k a e}:=lf (λk (s:Int×B8)=>Jp N k s.1 s.2) k (a,e) [(2,1),(4,13)] [0,3] (λs=>[.int .i64 s.1,.str s.2]) (λs=>Jp.eq_1 ..) (λk s=>Jp.eq_2 ..) (X:=Jp N k a e)
abbrev Acl {k a e}:=lf (λk (s:Int×B8)=>GG N k s.1 s.2) k (a,e) [(2,1),(4,13)] [0,3] (λs=>[.int .i64 s.1,.str s.2]) (λs=>GG.eq_1 ..) (λk s=>GG.eq_2 ..) (X:=GG N k a e)
abbrev Aco {a e b k d}:=lf (λk (s:Int)=>GI N a e b k s) k d [(4,1),(20,17)] [5] (λs=>[.int .i64 s]) (λs=>GI.eq_1 ..) (λk s=>GI.eq_2 ..)
abbrev Z5 {b d e a}:=lr (λe i (s:Unit)=>BS N b d e i) e a () [(4,2),(9,10)] [8] (λi s=>BS.eq_1 ..) (λx e i s=>BS.eq_2 ..)
attribute [instance] Uw Aci AsY Agq Ag4 Acj AZb Ad2 Agt AcG Ajy Ajx Al4 Anz Acl Aco Z5
instance AsO {a}:CF vE (Qo N a) 306 [Sa a] .str:=AO (Qo.eq_1 ..) func306
instance ACK {a}:CF vE (strings_shouldUseASCIISet N a) 426 [.int .i64 a] .bool:=AO (strings_shouldUseASCIISet.eq_1 ..) func426
instance AjZ {a}:CF vE (Lh N a) 258 [Ad a] (λr=>EJ r):=AO (Lh.eq_1 ..) func258
instance Aj8 {a}:CF vE (LX N a) 259 [Ad a] .str:=AO (LX.eq_1 ..) func259
instance V8 {a e}:CF vE (Cx N a e) 428 [.str a,.int .u8 e] (.int .i64):=AO (Cx.eq_1 ..) func428
def AET {r} (h:Qe N=some r) (ha:args=[]) (hQ: ∀i n',n<=i->i<n'->Gl (Q (.sh i) ⟨(i,[.map [[97,99,99,116],[109,97,105,108,116,111],[104,116,116,112,115],[100,105,100]] [.fn (.func 242) [] [],.fn (.func 243) [] [],.fn (.func 244) [] [],.fn (.func 245) [] []]])::m,n'⟩)):AE vE 174 args ⟨m,n⟩ Q:=by rw[Qe]at h;subst ha;refine Ake func174 rfl ntmps174 results174 (.q (.r []) (.q (.r []) .z)) λR hR=>?_;replace h:=ac trivial h;obtain⟨H,h⟩:=h;cases h;simp(decide:=true) (disch:=omega) only[vm,seval,H,IB,MC];refine⟨(hR _ _ [.sh n] ((n,[.map [[97,99,99,116],[109,97,105,108,116,111],[104,116,116,112,115],[100,105,100]] [.fn (.func 242) [] [],.fn (.func 243) [] [],.fn (.func 244) [] [],.fn (.func 245) [] []]])::m) _ (n+1) (by first|(simp(decide:=true) (disch:=omega) only[vm,seval,H,IB,MC];done)|(simp(decide:=true) (disch:=omega) only[vm,seval,H,IB,MC];rfl)) slr fM (hQ (n) (n+1) fM fM).go).1⟩
instance Arp:CN vE (Qe N) 174 [] (λi=>.sh i) (λr i=>[.map [[97,99,99,116],[109,97,105,108,116,111],[104,116,116,112,115],[100,105,100]] [.fn (.func 242) [] [],.fn (.func 243) [] [],.fn (.func 244) [] [],.fn (.func 245) [] []]]):=⟨λh hQ=>AET h rfl hQ⟩
instance A03 {a}:CF vE (Zv N a) 5 [BA a] .bool:=AO (Zv.eq_1 ..) func5
instance AnP {a e b}:CF vE (Po N a e b) 6 [.slice 1 (List.map AVal.str a) false,.int .i64 e,.int .i64 b] .bool:=AO (Po.eq_1 ..) func6
def Aak {a0 r} (h:SX N a0=some r) (ha:args=[.slice 1 (List.map (AVal.int .u8) a0) false]) (hQ: ∀i n',n<=i->i<n'->Gl (Q (.ptr i 0) ⟨(i,[.slice 1 (List.map (AVal.int .u8) r.l) false])::m,n'⟩)):AE vE 9 args ⟨m,n⟩ Q:=by rw[SX]at h;subst ha;refine Ake func9 rfl ntmps9 results9 (.q (.r []) (.q (.r []) .z)) λR hR=>?_;replace h:=ac trivial h;obtain⟨x1,h⟩:=GY h;obtain⟨H,h⟩:=h;cases h;simp(disch:=omega) only[vm,seval,H];refine⟨(hR _ _ [.ptr n 0] ((n,[.slice 1 (List.map (AVal.int .u8) x1) false])::m) _ (n+1) (by first|(simp(disch:=omega) only[vm,seval,H];done)|(simp(disch:=omega) only[vm,seval,H];rfl)) slr fM (hQ (n) (n+1) fM fM).go).1⟩
instance AzH {a}:CN vE (SX N a) 9 [.slice 1 (List.map (AVal.int .u8) a) false] (λi=>.ptr i 0) (λr i=>[.slice 1 (List.map (AVal.int .u8) r.l) false]):=⟨λh hQ=>Aak h rfl hQ⟩
instance AyB {a e}:CF vE (F5 N a e) 140 [.int .u8 a,.str e] .bool:=AO (F5.eq_1 ..) func140
instance ArX {a}:CF vE (EE N a) 56 [.str a] .str:=AO (EE.eq_1 ..) func56 [(5,[],.stop)]
instance Aj9 {a}:CF vE (CQ N a) 149 [.int .u8 a] .bool:=AO (CQ.eq_1 ..) func149 [(1,[],.stop)]
instance Ajr {a}:CF vE (Ex N a) 151 [.int .u8 a] .bool:=AO (Ex.eq_1 ..) func151 [(1,[],.stop)]
instance AsG {a}:CF vE (Oq N a) 229 [.int .u8 a] (.int .u8):=AO (Oq.eq_1 ..) func229
instance Ak7 {a}:CF vE (Ji N a) 152 [.int .u8 a] .str:=AO (Ji.eq_1 ..) func152 [(1,[],.tk 0 7 (.al 7 [(5,6)] (.al 8 [] .done)))]
instance AEm {a e}:CF vE (Aa6 (En N a e)) 66 [.str a,.int .u8 e] (λr=>.vec 1 (List.map AVal.str r)):=AO (AHc.trans (En.eq_1 ..)) func66 [(0,[4],.done),(1,[5],.done),(7,[5,19],.done),(8,[4,28],.done)]
instance Ash {a e}:CF vE (En N a e) 66 [.str a,.int .u8 e] (λr=>.slice 1 (List.map AVal.str r) false):=CF.freeze AEm
instance Ap3 {a}:CF vE (O6 N a) 58 [Sa a] .str:=AO (O6.eq_1 ..) func58
instance Alw {a}:CF vE (IE N a) 92 [Ad a] .str:=AO (IE.eq_1 ..) func92
instance AmG {a}:CF vE (Gz N a) 230 [.int .u64 a] .str:=AO (Gz.eq_1 ..) func230
instance Alm {a}:CF vE (RQ N a) 159 [Ad a] (λr=>EJ r):=AO (RQ.eq_1 ..) func159
instance AnA {a e}:CF vE (E8 N a e) 64 [.str a,.str e] .bool:=AO (E8.eq_1 ..) func64 [(1,[],.stop)]
instance AjW {a}:CF vE (Lf N a) 236 [.str a] .str:=AO (Lf.eq_1 ..) func236
instance AcF {a}:CF vE (CV N a) 119 [DC a] .str:=AO (CV.eq_1 ..) func119
instance Ady {e b}:CB vE (Am N e b) 23 (λa=>[.ptr a 0,.int .i64 b]) (λa=>[.slice 1 (List.map (AVal.int .u8) e.l) false]) (λr=>.int .i64 r.1) (λa r=>[.slice 1 (List.map (AVal.int .u8) r.2.l) false]):=Fh (Am.eq_1 ..) func23 [(1,[],.stop)]
theorem ABp (N:Nat): ∀D:Nat,(∀ {a0:Ax}{a1:Int},CF vE (Oa N D a0 a1) 160 [AC a0,.int .i64 a1] (λr=>.int .i64 r)):=by intro D;induction D with|zero=>exact⟨λh=>by rw[Oa.eq_1]at h;cases h⟩|succ D ih=>exact AO (Oa.eq_2 ..) func160 [(2,[],.stop)] true
instance Arq {a e}:CF vE (Oa N N a e) 160 [AC a,.int .i64 e] (.int .i64):=ABp N N
instance Aty {a e}:CF vE (SN N a e) 303 [.str a,.int .i64 e] .str:=AO (SN.eq_1 ..) func303
instance Ar5 {a}:CF vE (WC N a) 399 [.str a] (.int .i64):=AO (WC.eq_1 ..) func399 [(3,[],.tk 0 9 (.al 9 [] .done))]
instance Ar6 {a}:CF vE (VJ N a) 424 [.int .i64 a] .bool:=AO (VJ.eq_1 ..) func424 [(1,[],.stop)]
theorem AAD (N:Nat): ∀D:Nat,(∀ {a0:(List B8)},CF vE (Jc N D a0) 163 [.slice 1 (List.map AVal.str a0) false] (λr=>.slice 1 (List.map AVal.str r) false)):=by intro D;induction D with|zero=>exact⟨λh=>by rw[Jc.eq_1]at h;cases h⟩|succ D ih=>exact AO (Jc.eq_2 ..) func163 [(3,[],.tk 0 5 (.tk 6 5 (.al 5 [(10,5),(3,4)] (.al 11 [(9,4),(4,5)] (.al 12 [(10,5)] (.al 13 [] .done)))))),(5,[],.stop),(6,[],.tk 0 7 .done),(7,[37],.tk 1 4 (.tk 6 2 (.al 0 [(7,2),(4,4)] (.al 5 [(7,2),(3,3)] (.al 8 [(7,2)] (.al 9 [] .done)))))),(8,[45],.tk 1 4 (.tk 6 2 (.al 0 [(7,2),(4,4)] (.al 5 [(7,2),(3,3)] (.al 8 [(7,2)] (.al 9 [] .done)))))),(9,[53],.done)] true
instance AqU {a}:CF vE (Jc N N a) 163 [.slice 1 (List.map AVal.str a) false] (λr=>.slice 1 (List.map AVal.str r) false):=AAD N N
theorem ADO (N:Nat): ∀D:Nat,(∀ {a0:Ax},CF vE (Ps N D a0) 81 [AC a0] (λr=>.bool r)):=by intro D;induction D with|zero=>exact⟨λh=>by rw[Ps.eq_1]at h;cases h⟩|succ D ih=>exact AO (Ps.eq_2 ..) func81 [] true
instance AwS {a}:CF vE (Ps N N a) 81 [AC a] .bool:=ADO N N
instance Axy {a e}:CF vE (NE N a e) 164 [AC a,.str e] (λr=>.tuple [AC r.1,.bool r.2]):=AO (NE.eq_1 ..) func164 [(6,[],.stop)] true
instance Asw {a e b}:CF vE (Xw N a e b) 85 [AC a,.str e,AC b] (λr=>AC r):=AO (Xw.eq_1 ..) func85 [(1,[],.tk 0 11 (.tk 12 11 (.al 11 [(22,11),(9,1),(7,8)] (.take 24 (.al 23 [(24,1),(21,1),(19,8),(10,11)] (.al 25 [(22,4),(16,1)] (.take 26 (.al 27 [] .done))))))))]
instance AtM {a}:CF vE (Ml N a) 88 [.str a] (λr=>.agg [.int .i64 r.kind,.str r.text,.slice 1 (List.map AVal.str r.keys) true,.slice 4 (List.map AC r.items) true]):=AO (Ml.eq_1 ..) func88
instance Aqv:CF vE (O9 N) 154 [] (λr=>.agg [.int .i64 r.kind,.str r.text,.slice 1 (List.map AVal.str r.keys) true,.slice 4 (List.map AC r.items) true]):=AO (O9.eq_1 ..) func154
instance AxZ {a}:CF vE (Tf N a) 156 [.int .i64 a] .str:=AO (Tf.eq_1 ..) func156
instance Ao4 {a}:CF vE (EW N a) 74 [.int .i64 a] .str:=AO (EW.eq_1 ..) func74
instance Asd {a}:CF vE (MV N a) 237 [.int .u8 a] .bool:=AO (MV.eq_1 ..) func237 [(1,[],.stop)]
instance AcY {a}:CF vE (K7 N a) 238 [.int .u8 a] .bool:=AO (K7.eq_1 ..) func238 [(1,[],.stop)]
instance Alf {a e}:CF vE (O0 N a e) 241 [Gm a,Gm e] .str:=AO (O0.eq_1 ..) func241 [(1,[],.stop),(7,[],.tk 0 8 (.al 8 [] .done))]
instance AwF {a}:CF vE (Rt N a) 173 [Gm a] .str:=AO (Rt.eq_1 ..) func173
instance ABv {a e}:CF vE (Fv N a e) 207 [.slice 4 (List.map BA a) false,BA e] (.int .i64):=AO (Fv.eq_1 ..) func207 [(4,[],.tk 0 6 .done)]
def QK {a0 r} (h:Dk N a0=some r) (ha:args=[.slice 7 (List.map Ad a0) false]) (hQ: ∀n',n<=n'->Gl (Q (.slice 7 (List.map Ad r) true) ⟨m,n'⟩)):AE vE 323 args ⟨m,n⟩ Q:=by
 rw[Dk]at h;subst ha;refine ent hQ func323 rfl ntmps323 results323 (.q (.r []) (.q (.q (.r []) .z) .z)) λR hR=>?_;replace h:=ac trivial h;obtain⟨c,h⟩:=Ow h;try simp only[liE,seval]at c
 replace h:=Lp c h;obtain⟨H,h⟩:=h;cases h;simp(disch:=omega) only[vm,seval,H];refine⟨λc hc=>?_⟩;cases c;·refine Cy (.c (.q (.r []) .z) .z) ?_;simp(disch:=omega) only[vm,seval,H];refine⟨Cy (.q (.r []) .z) ?_⟩;simp(disch:=omega) only[vm,seval,H];refine⟨(hR _ _ _ _ _ _ (by simp(disch:=omega) only[vm,seval,H];rfl) slr ?_ fM ?_).1⟩<;>first|(simp(disch:=omega) only[vm,seval,H];done)|rfl
 ·have e:a0=[]:=eD.1 (hc rfl);subst e;refine Cy (.c (.q (.r []) .z) .z) ?_;simp(disch:=omega) only[vm,seval,H];refine⟨(hR _ _ _ _ _ _ (by simp(disch:=omega) only[vm,seval,H];rfl) slr ?_ fM ?_).1⟩<;>first|(simp(disch:=omega) only[vm,seval,H];done)|rfl
instance AAf {a}:CF vE (Dk N a) 323 [.slice 7 (List.map Ad a) false] (λr=>.slice 7 (List.map Ad r) true):=⟨λh hQ=>QK h rfl hQ⟩
end Go.Proofs.YtalbfkgififmfaaGreatDoor
