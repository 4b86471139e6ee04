import Derived.Test.YtfbofngnmfcomaaGreatDoorVmFacts
import Derived.Test.YtfbofngnmfcomaaGreatDoorDefs
import Derived.Test.YtfbofngnmfcomaaGreatDoorVM7
set_option linter.unusedVariables false
set_option linter.unusedSimpArgs false
set_option maxHeartbeats 4000000
set_option maxRecDepth 100000
set_option linter.defProp false
namespace Go.Proofs.YtfbofngnmfcomaaGreatDoor
open Go.VM
attribute [local irreducible] AA grd letL
variable{N n:Nat}{m:MS}{Q:PQ}{args:List AVal}
instance AfK {a0}:CF vE (KM N a0) 106 [Aa a0] (λr=>Da r):=AQ (KM.eq_1 ..) Tryz.func106 rfl Tryz.ntmps106 Tryz.results106
instance AfI {a0}:CF vE (KL N a0) 107 [Aa a0] (λr=>.str r):=AQ (KL.eq_1 ..) Tryz.func107 rfl Tryz.ntmps107 Tryz.results107
instance AAy {a0}:CF vE (Ma N a0) 296 [.int .i64 a0] (λr=>.int .i64 r):=AQ (Ma.eq_1 ..) Tryz.func296 rfl Tryz.ntmps296 Tryz.results296
instance ACW {a0}:CF vE (Cc N a0) 345 [.int .i32 a0] (λr=>.bool r):=AQ (Cc.eq_1 ..) Tryz.func345 rfl Tryz.ntmps345 Tryz.results345 [(1,[],.stop),(3,[],.stop)]
instance Ze {a0}:CF vE (strings_shouldUseASCIISet N a0) 284 [.int .i64 a0] (λr=>.bool r):=AQ (strings_shouldUseASCIISet.eq_1 ..) Tryz.func284 rfl Tryz.ntmps284 Tryz.results284
@[reducible,instance] def ABX {k2 xs bn}:=lq (λxs i (s:(List Bool))=>CS N k2 xs s) xs bn [(3,1),(5,15)] [4] (λi s=>CS.eq_1 ..) (λx xs i s=>CS.eq_2 ..) (Ms:=λi s=>[.s (List.map AVal.bool s)])
instance ANd {a0}:CF vE (strings_makeASCIISet N a0) 285 [.str a0] (λr=>.tuple [.agg (List.map AVal.bool r.1),.bool r.2]):=AQ (strings_makeASCIISet.eq_1 ..) Tryz.func285 rfl Tryz.ntmps285 Tryz.results285
instance Zf {a0 a1}:CB vE (D6 N a0 a1) 286 (λi0=>[.ptr i0 0,.int .u8 a1]) (λi0=>List.map AVal.bool a0) (λr=>.bool r.1) (λi0 r=>List.map AVal.bool r.2):=E8 (D6.eq_1 ..) Tryz.func286 rfl Tryz.ntmps286 Tryz.results286
@[reducible,instance] def AcM {a0 k2 xs s10 bn}:=lr (λxs i (s:(List Int))=>GN N a0 k2 xs i s) xs s10 bn [(4,2),(11,16)] [10] (λi s=>GN.eq_1 ..) (λx xs i s=>GN.eq_2 ..) (Ms:=λi s=>[.s (List.map (AVal.int .u8) s)])
instance AmT {a0}:CF vE (FD N a0) 206 [.str a0] (λr=>.str r):=AQ (FD.eq_1 ..) Tryz.func206 rfl Tryz.ntmps206 Tryz.results206 [(5,[],.stop)]
@[reducible,instance] def Sq {a0 a1 k2 k s5}:=lf (λk (s:Int)=>Ai N a0 a1 k2 k s) k s5 [(4,1),(9,10)] [5] (λs=>[.int .i64 s]) (λs=>Ai.eq_1 ..) (λk s=>Ai.eq_2 ..)
instance TY {a0 a1}:CF vE (Cn N a0 a1) 293 [.str a0,.int .u8 a1] (λr=>.int .i64 r):=AQ (Cn.eq_1 ..) Tryz.func293 rfl Tryz.ntmps293 Tryz.results293
def AVj {a0 r} (h:Rl N a0=some r) (ha:args=[.slice 1 (List.map (AVal.int .u8) a0) false]) (hQ: ∀i n',n<=i->i<n'->Gl (Q (.ptr i 0) ⟨(i,[.slice 1 (List.map (AVal.int .u8) r.l) false])::m,n'⟩)):ACall vE 13 args ⟨m,n⟩ Q:=by rw[Rl]at h;subst ha;refine AhV Tryz.func13 rfl Tryz.ntmps13 Tryz.results13 (.q (.r []) (.q (.r []) .z)) λR hR=>?_;replace h:=ac trivial h;obtain⟨x1,h⟩:=FZ h;obtain⟨H,h⟩:=h;cases h;simp(disch:=omega) only[vm,seval,H];refine⟨(hR _ _ [.ptr n 0] ((n,[.slice 1 (List.map (AVal.int .u8) x1) false])::m) _ (n+1) (by first|(simp(disch:=omega) only[vm,seval,H];done)|(simp(disch:=omega) only[vm,seval,H];rfl)) slr fx (hQ (n) (n+1) fx fx).go).1⟩
instance As0 {a0}:CN vE (Rl N a0) 13 [.slice 1 (List.map (AVal.int .u8) a0) false] (λi=>.ptr i 0) (λr i=>[.slice 1 (List.map (AVal.int .u8) r.l) false]):=⟨λh hQ=>AVj h rfl hQ⟩
@[reducible,instance] def AZO {a0 k2 xs s9 bn}:=lr (λxs i (s:(List Int))=>GY N a0 k2 xs i s) xs s9 bn [(4,1),(10,21)] [9] (λi s=>GY.eq_1 ..) (λx xs i s=>GY.eq_2 ..) (Ms:=λi s=>[.s (List.map (AVal.int .u8) s)])
instance Ama {a0}:CF vE (Ee N a0) 38 [.str a0] (λr=>.str r):=AQ (Ee.eq_1 ..) Tryz.func38 rfl Tryz.ntmps38 Tryz.results38 [(5,[],.stop)]
instance Amg {a0}:CF vE (M7 N a0) 242 [.int .u8 a0] (λr=>.int .u8 r):=AQ (M7.eq_1 ..) Tryz.func242 rfl Tryz.ntmps242 Tryz.results242
instance AjW {a0}:CF vE (Jg N a0) 150 [.int .u8 a0] (λr=>.str r):=AQ (Jg.eq_1 ..) Tryz.func150 rfl Tryz.ntmps150 Tryz.results150 [(1,[],.tk 0 7 (.al 7 [(5,6)] (.al 8 [] .done)))]
@[reducible,instance] def AZb {a0 a1 k2 xs s7 s5 s6}:=lr (λxs i (s:(List B8)×Int)=>Eu N a0 a1 k2 xs i s.1 s.2) xs s7 (s5,s6) [(8,20)] [5,6,7] (λi s=>Eu.eq_1 ..) (λx xs i s=>Eu.eq_2 ..) (V:=λi s=>[.vec 1 (List.map AVal.str s.1),.int .i64 s.2,.int .i64 i]) (X:=Eu N a0 a1 k2 xs s7 s5 s6)
instance ACl {a0 a1}:CF vE (ATw (FQ N a0 a1)) 128 [.str a0,.int .u8 a1] (λr=>.vec 1 (List.map AVal.str r)):=AQ (AE2.trans (FQ.eq_1 ..)) Tryz.func128 rfl Tryz.ntmps128 Tryz.results128 [(0,[4],.done),(1,[5],.done),(7,[5,19],.done),(8,[4,28],.done)]
instance Al4 {a0 a1}:CF vE (FQ N a0 a1) 128 [.str a0,.int .u8 a1] (λr=>.slice 1 (List.map AVal.str r) false):=CF.freeze ACl
instance Alp {a0}:CF vE (Gv N a0) 144 [Aa a0] (λr=>.str r):=AQ (Gv.eq_1 ..) Tryz.func144 rfl Tryz.ntmps144 Tryz.results144
instance Ah7 {a0}:CF vE (Pi N a0) 152 [Aa a0] (λr=>Da r):=AQ (Pi.eq_1 ..) Tryz.func152 rfl Tryz.ntmps152 Tryz.results152
instance AlM {a0 a1}:CF vE (EK N a0 a1) 126 [.str a0,.str a1] (λr=>.bool r):=AQ (EK.eq_1 ..) Tryz.func126 rfl Tryz.ntmps126 Tryz.results126 [(1,[],.stop)]
@[reducible,instance] def AUA {a0 k2 k s3}:=lf (λk (s:Int)=>Ea N a0 k2 k s) k s3 [(2,1),(7,11)] [3] (λs=>[.int .i64 s]) (λs=>Ea.eq_1 ..) (λk s=>Ea.eq_2 ..)
instance Aeo {a0}:CF vE (KE N a0) 302 [.str a0] (λr=>.str r):=AQ (KE.eq_1 ..) Tryz.func302 rfl Tryz.ntmps302 Tryz.results302
instance AYD {a0}:CF vE (Dl N a0) 74 [Cv a0] (λr=>.str r):=AQ (Dl.eq_1 ..) Tryz.func74 rfl Tryz.ntmps74 Tryz.results74
instance Acr {a0 a1}:CB vE (Aj N a0 a1) 48 (λi0=>[.ptr i0 0,.int .i64 a1]) (λi0=>[.slice 1 (List.map (AVal.int .u8) a0.l) false]) (λr=>.int .i64 r.1) (λi0 r=>[.slice 1 (List.map (AVal.int .u8) r.2.l) false]):=E8 (Aj.eq_1 ..) Tryz.func48 rfl Tryz.ntmps48 Tryz.results48 [(1,[],.stop)]
@[reducible,instance] def AaX {rec_ref15_count j1 k10 xs s6}:=lq (λxs i (s:Int)=>LA N rec_ref15_count j1 k10 xs s) xs s6 [(4,1),(8,2),(27,14)] [6,26] (λi s=>LA.eq_1 ..) (λx xs i s=>LA.eq_2 ..) (V:=λi s=>[.int .i64 s,.int .i64 i])
theorem ZH (N:Nat): ∀D:Nat,(∀ {a0:ApiValue}{a1:Int},CF vE (NI N D a0 a1) 231 [AB a0,.int .i64 a1] (λr=>.int .i64 r)):=by intro D;induction D with|zero=>exact⟨λh=>by rw[NI.eq_1]at h;cases h⟩|succ D ih=>exact AQ (NI.eq_2 ..) Tryz.func231 rfl Tryz.ntmps231 Tryz.results231 [(2,[],.stop)] true
instance Al2 {a0 a1}:CF vE (NI N N a0 a1) 231 [AB a0,.int .i64 a1] (λr=>.int .i64 r):=ZH N N
@[reducible,instance] def AYM {k8 k s3 s4 s5}:=lf (λk (s:(List B8)×(List B8)×(List B8))=>Gf N k8 k s.1 s.2.1 s.2.2) k (s3,s4,s5) [(22,31)] [3,4,5] (λs=>[.slice 1 (List.map AVal.str s.1) false,.slice 1 (List.map AVal.str s.2.1) false,.slice 1 (List.map AVal.str s.2.2) true]) (λs=>Gf.eq_1 ..) (λk s=>Gf.eq_2 ..) (X:=Gf N k8 k s3 s4 s5)
theorem YA (N:Nat): ∀D:Nat,(∀ {a0:(List B8)},CF vE (Ii N D a0) 234 [.slice 1 (List.map AVal.str a0) false] (λr=>.slice 1 (List.map AVal.str r) false)):=by intro D;induction D with|zero=>exact⟨λh=>by rw[Ii.eq_1]at h;cases h⟩|succ D ih=>exact AQ (Ii.eq_2 ..) Tryz.func234 rfl Tryz.ntmps234 Tryz.results234 [(3,[],.tk 0 5 (.tk 6 5 (.al 5 [(10,5),(3,4)] (.al 11 [(9,4),(4,5)] (.al 12 [(10,5)] (.al 13 [] .done)))))),(5,[],.stop),(6,[],.tk 0 7 .done),(7,[37],.tk 1 4 (.tk 6 2 (.al 0 [(7,2),(4,4)] (.al 5 [(7,2),(3,3)] (.al 8 [(7,2)] (.al 9 [] .done)))))),(8,[45],.tk 1 4 (.tk 6 2 (.al 0 [(7,2),(4,4)] (.al 5 [(7,2),(3,3)] (.al 8 [(7,2)] (.al 9 [] .done)))))),(9,[53],.done)] true
instance Ahk {a0}:CF vE (Ii N N a0) 234 [.slice 1 (List.map AVal.str a0) false] (λr=>.slice 1 (List.map AVal.str r) false):=YA N N
@[reducible,instance] def Aem {k2 xs s3}:=lq (λxs i (s:Int)=>Lv N k2 xs s) xs s3 [(5,1),(15,8)] [3,14] (λi s=>Lv.eq_1 ..) (λx xs i s=>Lv.eq_2 ..) (V:=λi s=>[.int .i64 s,.int .i64 i])
@[reducible,instance] def AfG {rec_ref15_long k7 xs}:=lq (λxs i (s:Unit)=>MV N rec_ref15_long k7 xs) xs () [(2,1),(7,1),(29,6)] [28] (λi s=>MV.eq_1 ..) (λx xs i s=>MV.eq_2 ..)
theorem ABO (N:Nat): ∀D:Nat,(∀ {a0:ApiValue},CF vE (N9 N D a0) 134 [AB a0] (λr=>.bool r)):=by intro D;induction D with|zero=>exact⟨λh=>by rw[N9.eq_1]at h;cases h⟩|succ D ih=>exact AQ (N9.eq_2 ..) Tryz.func134 rfl Tryz.ntmps134 Tryz.results134 [] true
instance AnS {a0}:CF vE (N9 N N a0) 134 [AB a0] (λr=>.bool r):=ABO N N
instance Apu {a0 a1 a2}:CF vE (Vp N a0 a1 a2) 138 [AB a0,.str a1,AB a2] (λr=>AB r):=AQ (Vp.eq_1 ..) Tryz.func138 rfl Tryz.ntmps138 Tryz.results138 [(1,[],.tk 0 11 (.tk 12 11 (.al 11 [(22,11),(9,1),(7,8)] (.take 24 (.al 23 [(24,1),(21,1),(19,8),(10,11)] (.al 25 [(22,4),(16,1)] (.take 26 (.al 27 [] .done))))))))]
instance ApH {a0}:CF vE (LG N a0) 141 [.str a0] (λr=>.agg [.int .i64 r.kind,.str r.text,.slice 1 (List.map AVal.str r.keys) true,.slice 4 (List.map AB r.items) true]):=AQ (LG.eq_1 ..) Tryz.func141 rfl Tryz.ntmps141 Tryz.results141
instance AlE:CF vE (Ng N) 227 [] (λr=>.agg [.int .i64 r.kind,.str r.text,.slice 1 (List.map AVal.str r.keys) true,.slice 4 (List.map AB r.items) true]):=AQ (Ng.eq_1 ..) Tryz.func227 rfl Tryz.ntmps227 Tryz.results227
@[reducible,instance] def Ahg {k s0 s3}:=lf (λk (s:Int×B8)=>Ig N k s.1 s.2) k (s0,s3) [(2,1),(4,13)] [0,3] (λs=>[.int .i64 s.1,.str s.2]) (λs=>Ig.eq_1 ..) (λk s=>Ig.eq_2 ..) (X:=Ig N k s0 s3)
instance Arf {a0}:CF vE (R4 N a0) 229 [.int .i64 a0] (λr=>.str r):=AQ (R4.eq_1 ..) Tryz.func229 rfl Tryz.ntmps229 Tryz.results229
@[reducible,instance] def AYj {k s0 s3}:=lf (λk (s:Int×B8)=>FE N k s.1 s.2) k (s0,s3) [(2,1),(4,13)] [0,3] (λs=>[.int .i64 s.1,.str s.2]) (λs=>FE.eq_1 ..) (λk s=>FE.eq_2 ..) (X:=FE N k s0 s3)
instance Af9 {a0}:CF vE (D5 N a0) 125 [.int .i64 a0] (λr=>.str r):=AQ (D5.eq_1 ..) Tryz.func125 rfl Tryz.ntmps125 Tryz.results125
instance AmA {a0}:CF vE (LB N a0) 305 [.int .u8 a0] (λr=>.bool r):=AQ (LB.eq_1 ..) Tryz.func305 rfl Tryz.ntmps305 Tryz.results305 [(1,[],.stop)]
instance AXw {a0}:CF vE (Jt N a0) 306 [.int .u8 a0] (λr=>.bool r):=AQ (Jt.eq_1 ..) Tryz.func306 rfl Tryz.ntmps306 Tryz.results306 [(1,[],.stop)]
@[reducible,instance] def AX2 {a0 a1 k6 k s5}:=lf (λk (s:Int)=>FJ N a0 a1 k6 k s) k s5 [(4,1),(20,17)] [5] (λs=>[.int .i64 s]) (λs=>FJ.eq_1 ..) (λk s=>FJ.eq_2 ..)
instance AkT {a0 a1}:CF vE (NS N a0 a1) 309 [Fq a0,Fq a1] (λr=>.str r):=AQ (NS.eq_1 ..) Tryz.func309 rfl Tryz.ntmps309 Tryz.results309 [(1,[],.stop),(7,[],.tk 0 8 (.al 8 [] .done))]
instance Ape {a0}:CF vE (P5 N a0) 239 [Fq a0] (λr=>.str r):=AQ (P5.eq_1 ..) Tryz.func239 rfl Tryz.ntmps239 Tryz.results239
instance An0 {a0}:CF vE (OM N a0) 154 [Aa a0] (λr=>Aa r):=AQ (OM.eq_1 ..) Tryz.func154 rfl Tryz.ntmps154 Tryz.results154
instance Ams {a0 a1 a2 a3}:CF vE (JR N a0 a1 a2 a3) 156 [Je a0,.int .i64 a1,.int .i64 a2,.int .i64 a3] (λr=>Je r):=AQ (JR.eq_1 ..) Tryz.func156 rfl Tryz.ntmps156 Tryz.results156 [(1,[],.tk 0 16 (.al 16 [(12,13)] (.take 17 (.al 18 [(15,4),(10,11)] (.al 19 [(17,1),(15,16)] (.take 20 (.al 21 [] .done)))))))]
@[reducible,instance] def Aea {a0 a1 k2 k s5}:=lf (λk (s:Int)=>I7 N a0 a1 k2 k s) k s5 [(4,1),(6,19)] [5] (λs=>[.int .i64 s]) (λs=>I7.eq_1 ..) (λk s=>I7.eq_2 ..)
instance Ao9 {a0 a1}:CF vE (Gm N a0 a1) 244 [.str a0,.str a1] (λr=>.int .i64 r):=AQ (Gm.eq_1 ..) Tryz.func244 rfl Tryz.ntmps244 Tryz.results244
instance AVm {a0}:CF vE (Fu N a0) 158 [.int .i64 a0] (λr=>.bool r):=AQ (Fu.eq_1 ..) Tryz.func158 rfl Tryz.ntmps158 Tryz.results158 [(1,[],.stop)]
@[reducible,instance] def Aef {a0 a1 k2 k s7}:=lc (λk i (s:Unit)=>Gy N a0 a1 k2 k i) k s7 () [(4,3),(9,30)] [7] (λi s=>Gy.eq_1 ..) (λk i s=>Gy.eq_2 ..)
instance Aqk {a0 a1}:CF vE (Ko N a0 a1) 314 [.str a0,.int .i64 a1] (λr=>.tuple [.str r.1,.int .i64 r.2.1,.int .i64 r.2.2]):=AQ (Ko.eq_1 ..) Tryz.func314 rfl Tryz.ntmps314 Tryz.results314
instance Aex {a0}:CF vE (Ob N a0) 161 [.int .i64 a0] (λr=>.int .i64 r):=AQ (Ob.eq_1 ..) Tryz.func161 rfl Tryz.ntmps161 Tryz.results161
instance ATi {a0 a1}:CB vE (CP N a0 a1) 253 (λi0=>[.ptr i0 0,.int .i64 a1]) (λi0=>[.str a0.d.method,.str a0.d.iD,.int .i64 a0.fail]) (λr=>.tuple []) (λi0 r=>[.str r.d.method,.str r.d.iD,.int .i64 r.fail]):=E8 (CP.eq_1 ..) Tryz.func253 rfl Tryz.ntmps253 Tryz.results253
def OJ {a0 r} (h:DC N a0=some r) (ha:args=[.slice 7 (List.map Aa a0) false]) (hQ: ∀n',n<=n'->Gl (Q (.slice 7 (List.map Aa r) true) ⟨m,n'⟩)):ACall vE 321 args ⟨m,n⟩ Q:=by
 rw[DC]at h;subst ha;refine ent hQ Tryz.func321 rfl Tryz.ntmps321 Tryz.results321 (.q (.r []) (.q (.q (.r []) .z) .z)) λR hR=>?_;replace h:=ac trivial h;obtain⟨c,h⟩:=NE h;try simp only[liE,seval]at c
 replace h:=KO c h;obtain⟨H,h⟩:=h;cases h;simp(disch:=omega) only[vm,seval,H];refine⟨λc hc=>?_⟩;cases c;·refine Cm (.c (.q (.r []) .z) .z) ?_;simp(disch:=omega) only[vm,seval,H];refine⟨Cm (.q (.r []) .z) ?_⟩;simp(disch:=omega) only[vm,seval,H];refine⟨(hR _ _ _ _ _ _ (by simp(disch:=omega) only[vm,seval,H];rfl) slr ?_ fx ?_).1⟩<;>first|(simp(disch:=omega) only[vm,seval,H];done)|rfl
 ·have e:a0=[]:=ef.1 (hc rfl);subst e;refine Cm (.c (.q (.r []) .z) .z) ?_;simp(disch:=omega) only[vm,seval,H];refine⟨(hR _ _ _ _ _ _ (by simp(disch:=omega) only[vm,seval,H];rfl) slr ?_ fx ?_).1⟩<;>first|(simp(disch:=omega) only[vm,seval,H];done)|rfl
instance XY {a0}:CF vE (DC N a0) 321 [.slice 7 (List.map Aa a0) false] (λr=>.slice 7 (List.map Aa r) true):=⟨λh hQ=>OJ h rfl hQ⟩
def KU {a0 r} (h:Bh N a0=some r) (ha:args=[.slice 9 (List.map A7 a0) false]) (hQ: ∀n',n<=n'->Gl (Q (.slice 9 (List.map A7 r) true) ⟨m,n'⟩)):ACall vE 322 args ⟨m,n⟩ Q:=by
 rw[Bh]at h;subst ha;refine ent hQ Tryz.func322 rfl Tryz.ntmps322 Tryz.results322 (.q (.r []) (.q (.q (.r []) .z) .z)) λR hR=>?_;replace h:=ac trivial h;obtain⟨c,h⟩:=NE h;try simp only[liE,seval]at c
 replace h:=KO c h;obtain⟨H,h⟩:=h;cases h;simp(disch:=omega) only[vm,seval,H];refine⟨λc hc=>?_⟩;cases c;·refine Cm (.c (.q (.r []) .z) .z) ?_;simp(disch:=omega) only[vm,seval,H];refine⟨Cm (.q (.r []) .z) ?_⟩;simp(disch:=omega) only[vm,seval,H];refine⟨(hR _ _ _ _ _ _ (by simp(disch:=omega) only[vm,seval,H];rfl) slr ?_ fx ?_).1⟩<;>first|(simp(disch:=omega) only[vm,seval,H];done)|rfl
 ·have e:a0=[]:=ef.1 (hc rfl);subst e;refine Cm (.c (.q (.r []) .z) .z) ?_;simp(disch:=omega) only[vm,seval,H];refine⟨(hR _ _ _ _ _ _ (by simp(disch:=omega) only[vm,seval,H];rfl) slr ?_ fx ?_).1⟩<;>first|(simp(disch:=omega) only[vm,seval,H];done)|rfl
instance Sz {a0}:CF vE (Bh N a0) 322 [.slice 9 (List.map A7 a0) false] (λr=>.slice 9 (List.map A7 r) true):=⟨λh hQ=>KU h rfl hQ⟩
def Ml {a0 r} (h:CZ N a0=some r) (ha:args=[.slice 2 (List.map Ad a0) false]) (hQ: ∀n',n<=n'->Gl (Q (.slice 2 (List.map Ad r) true) ⟨m,n'⟩)):ACall vE 323 args ⟨m,n⟩ Q:=by
 rw[CZ]at h;subst ha;refine ent hQ Tryz.func323 rfl Tryz.ntmps323 Tryz.results323 (.q (.r []) (.q (.q (.r []) .z) .z)) λR hR=>?_;replace h:=ac trivial h;obtain⟨c,h⟩:=NE h;try simp only[liE,seval]at c
 replace h:=KO c h;obtain⟨H,h⟩:=h;cases h;simp(disch:=omega) only[vm,seval,H];refine⟨λc hc=>?_⟩;cases c;·refine Cm (.c (.q (.r []) .z) .z) ?_;simp(disch:=omega) only[vm,seval,H];refine⟨Cm (.q (.r []) .z) ?_⟩;simp(disch:=omega) only[vm,seval,H];refine⟨(hR _ _ _ _ _ _ (by simp(disch:=omega) only[vm,seval,H];rfl) slr ?_ fx ?_).1⟩<;>first|(simp(disch:=omega) only[vm,seval,H];done)|rfl
 ·have e:a0=[]:=ef.1 (hc rfl);subst e;refine Cm (.c (.q (.r []) .z) .z) ?_;simp(disch:=omega) only[vm,seval,H];refine⟨(hR _ _ _ _ _ _ (by simp(disch:=omega) only[vm,seval,H];rfl) slr ?_ fx ?_).1⟩<;>first|(simp(disch:=omega) only[vm,seval,H];done)|rfl
instance VS {a0}:CF vE (CZ N a0) 323 [.slice 2 (List.map Ad a0) false] (λr=>.slice 2 (List.map Ad r) true):=⟨λh hQ=>Ml h rfl hQ⟩
end Go.Proofs.YtfbofngnmfcomaaGreatDoor
