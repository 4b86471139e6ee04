import Derived.Test.YtfbofngnmfcomaaGreatDoorW13
set_option linter.unusedVariables false
set_option linter.unusedSimpArgs false
set_option maxHeartbeats 4000000
set_option maxRecDepth 100000
set_option linter.defProp false
namespace Go.Proofs.YtfbofngnmfcomaaGreatDoor
open Go.VM
attribute [local irreducible] AA grd letL
variable{N n:Nat}{m:MS}{Q:PQ}{args:List AVal}
@[reducible,instance] def AYP {k29 k s7}:=lf (λk (s:B8)=>J3 N k29 k s) k s7 [(54,10)] [7] (λs=>[.str s]) (λs=>J3.eq_1 ..) (λk s=>J3.eq_2 ..)
@[reducible,instance] def AXj {k40 k s6 s7}:=lf (λk (s:Int×B8)=>IJ N k40 k s.1 s.2) k (s6,s7) [(66,13)] [6,7] (λs=>[.int .i64 s.1,.str s.2]) (λs=>IJ.eq_1 ..) (λk s=>IJ.eq_2 ..) (X:=IJ N k40 k s6 s7)
instance Ahh {a0}:CF vE (Pb N a0) 85 [.str a0] (λr=>.tuple [.str r.1,.int .i64 r.2]):=AQ (Pb.eq_1 ..) Tryz.func85 rfl Tryz.ntmps85 Tryz.results85 [(1,[],.stop),(5,[],.tk 0 2 (.al 2 [(1,2)] (.al 3 [] .done))),(7,[],.tk 0 3 (.tk 5 3 (.al 3 [(7,3),(1,1)] (.al 4 [(7,3),(2,3)] (.al 8 [(7,3)] (.al 9 [] .done)))))),(10,[],.tk 0 15 (.al 15 [(14,8)] (.al 16 [] .done))),(11,[],.stop),(17,[],.stop)]
instance ArM {a0 a1}:CF vE (Ps N a0 a1) 352 [.str a0,.int .u64 a1] (λr=>.tuple [.int .u64 r.1,.int .i64 r.2]):=AQ (Ps.eq_1 ..) Tryz.func352 rfl Tryz.ntmps352 Tryz.results352
@[reducible,instance] def Aeq {a0 k2 k s7 s8}:=lf (λk (s:B8×Int)=>KI N a0 k2 k s.1 s.2) k (s7,s8) [(4,3),(9,6),(17,53)] [7,8] (λs=>[.str s.1,.int .i64 s.2]) (λs=>KI.eq_1 ..) (λk s=>KI.eq_2 ..) (X:=KI N a0 k2 k s7 s8)
instance AoL {a0 a1}:CF vE (Vj N a0 a1) 198 [.str a0,.int .i64 a1] (λr=>.tuple [.str r.1,.int .i64 r.2.1,.int .i64 r.2.2]):=AQ (Vj.eq_1 ..) Tryz.func198 rfl Tryz.ntmps198 Tryz.results198
@[reducible,instance] def ATa {a0 k2 k s4 s5}:=lf (λk (s:(List Int)×Int)=>Gd N a0 k2 k s.1 s.2) k (s4,s5) [(2,2),(6,3),(12,26)] [4,5] (λs=>[.slice 1 (List.map (AVal.int .u8) s.1) true,.int .i64 s.2]) (λs=>Gd.eq_1 ..) (λk s=>Gd.eq_2 ..) (X:=Gd N a0 k2 k s4 s5)
instance YL {a0}:CF vE (Ew N a0) 36 [.str a0] (λr=>.tuple [.str r.1,.int .i64 r.2]):=AQ (Ew.eq_1 ..) Tryz.func36 rfl Tryz.ntmps36 Tryz.results36 [(14,[34],.done)]
def X7 {a0 r} (h:Ew N a0=some r) (ha:args=[.str a0]) (hQ: ∀n',n<=n'->Gl (Q (.tuple [.str r.1,.int .i64 r.2]) ⟨m,n'⟩)):ACall vE 36 args ⟨m,n⟩ Q:=ha▸YL.go h hQ
instance AR7 {a0}:CF vE (Dj N a0) 175 [.int .u8 a0] (λr=>.bool r):=AQ (Dj.eq_1 ..) Tryz.func175 rfl Tryz.ntmps175 Tryz.results175 [(1,[],.stop)]
@[reducible,instance] def APO {a0 a1 a2 k18 k s11 bn8_addr bn8_buf}:=lu (λk i (s:Int×Bool×B8)=>F3 N a0 a1 a2 k18 k s.1 s.2.1 s.2.2) k (s11,bn8_addr,bn8_buf) [(12,1),(54,20)] [11,53] (λi s=>F3.eq_1 ..) (λk i s=>F3.eq_2 ..) (V:=λi s=>[.int .i64 s.1,.int .i64 i]) (Ms:=λi s=>[.t (λq=>[GR q 263 2 s.2.1,.buf 5 s.2.2 true])]) (X:=F3 N a0 a1 a2 k18 k s11 bn8_addr bn8_buf)
@[reducible,instance] def APM {a0 a2 k18 k s11 bn8}:=lu (λk i (s:Int×StringsBuilder)=>Fz N a0 a2 k18 k s.1 s.2) k (s11,bn8) [(13,3),(79,20)] [11,78] (λi s=>Fz.eq_1 ..) (λk i s=>Fz.eq_2 ..) (V:=λi s=>[.int .i64 s.1,.int .i64 i]) (Ms:=λi s=>[.t (λq=>[GR q 263 2 s.2.addr,.buf 5 s.2.buf true])]) (X:=Fz N a0 a2 k18 k s11 bn8)
instance AYX {a0 a1 a2 a3}:CF vE (strings_Replace N a0 a1 a2 a3) 318 [.str a0,.str a1,.str a2,.int .i64 a3] (λr=>.str r):=AQ (strings_Replace.eq_1 ..) Tryz.func318 rfl Tryz.ntmps318 Tryz.results318 [(1,[],.stop),(6,[],.stop),(8,[10],.done)]
@[reducible,instance] def ANy {k17 xs s8 bn15}:=lr (λxs i (s:(List Bool))=>DK N k17 xs i s) xs s8 bn15 [(4,1),(33,11)] [8] (λi s=>DK.eq_1 ..) (λx xs i s=>DK.eq_2 ..) (Ms:=λi s=>[.s (List.map AVal.bool s)])
@[reducible,instance] def ANs {a0 a1 k24 k s45}:=lf (λk (s:Nat)=>BZ N a0 a1 k24 k s) k s45 [(4,1),(9,2),(46,9)] [45] (λs=>[.iter a0 s]) (λs=>BZ.eq_1 ..) (λk s=>BZ.eq_2 ..)
instance AWg {a0 a1}:CF vE (strings_IndexAny N a0 a1) 204 [.str a0,.str a1] (λr=>.int .i64 r):=AQ (strings_IndexAny.eq_1 ..) Tryz.func204 rfl Tryz.ntmps204 Tryz.results204
def VN {a0 a1 a2 a3 r} (h:strings_genSplit N a0 a1 a2 a3=some r) (ha:args=[.str a0,.str a1,.int .i64 a2,.int .i64 a3]) (hQ: ∀n',n<=n'->Gl (Q (.slice 1 (List.map AVal.str r) false) ⟨m,n'⟩)):ACall vE 262 args ⟨m,n⟩ Q:=by
 rw[strings_genSplit]at h;subst ha;refine ACall.give (AhV Tryz.func262 rfl Tryz.ntmps262 Tryz.results262 (.q (.r []) (.q (.q (.r []) (.c (.q (.r []) .z) .z)) (.q (.q (.r []) (.c (.q (.r []) .z) .z)) .z))) (λR hR=>?_));replace h:=ac trivial h;rcases KX h with h|h;cases h.2;rcases KX h with h|h;obtain⟨y1,h⟩:=FZ h;simp(disch:=omega) only[vm,seval,h.1];refine⟨Wx h.1.1 tD λn2 hn2=>?_⟩;cases h.2;simp(disch:=omega) only[vm,seval,h.1];refine⟨TJ (γ:=Unit) h [19,20,21,22,23,24] [3] (λj3 g=>[.int .i64 j3]) (λj3 g=>m) (.q (.r []) (.c (.r []) .z)) ?_ ?_⟩<;>clear h;rintro j3 _ n6 hnn6 _ _ h;refine Cm (.q (.r []) (.q (.r []) (.q (.r []) (.q (.r []) .z)))) ?_;obtain⟨c,h⟩:=NE h;try simp only[liE,seval]at c
 replace h:=KO c h;simp(disch:=omega) only[vm,seval,h.1];refine⟨TJ (γ:=Unit) h [11,34,35,36,37,38,39,40,41,42,43,44,45,46,47,48,49,50,51,52,53,54,55,56,57] [0,10] (λj9 g=>[.str j9.1,.int .i64 j9.2.1]) (λj9 g=>(n6,List.map AVal.str j9.2.2)::m) .z ?_ ?_⟩<;>clear h;rintro j9 _ n12 hnn12 _ _ h;refine Cm (.q (.r []) (.q (.r []) .z)) ?_;obtain⟨c,h⟩:=NE h;try simp only[liE,seval]at c
 replace h:=KO c h;obtain⟨c,h⟩:=NE h;try simp only[liE,seval]at c
 replace h:=KO c h;obtain⟨c,h⟩:=NE h;try simp only[liE,seval]at c
 replace h:=KO c h;obtain⟨cg,h⟩:=NE h;obtain⟨H,h⟩:=h;cases h;simp(disch:=omega) only[vm,seval,H];refine⟨(hR _ _ _ _ _ _ (by simp(disch:=omega) only[vm,seval,H];rfl) slr fx ⟨[_],_,_,rfl,AdT (l:=(j9.2.2.set j9.2.1.toNat j9.1)) (by simpa only[bX]using cg),rfl,(hQ _ (by first|omega|(dsimp only;omega))).go⟩).1⟩;intro k10 Jk10 hk10 h;obtain⟨hfk13,h⟩:=NE h;simp(disch:=omega) only[vm,seval,h.1];refine⟨AhQ (σ:=(B8)×(List B8)) (γ:=Unit) 0 (wr .i64 ((if(wr .i64 ((a0.length:Int)+1))<j3 then(wr .i64 ((a0.length:Int)+1))else j3)-1)) hfk13 (λxs i s=>CU N a0 a1 a2 j3 k10 xs i s.1 s.2) (λi s g=>[.str s.1,.int .i64 i]) (λi s g=>(n6,List.map AVal.str s.2)::m) [11,34,35,36,37,38,39,40,41,42,43,44,45,46,47,48,49,50,51,52,53,54,55,56,57] [0,10] (a0,(List.replicate (if(wr .i64 ((a0.length:Int)+1))<j3 then(wr .i64 ((a0.length:Int)+1))else j3).toNat ([]:B8))) () h tD tD ?_ ?_⟩<;>clear h;rintro s10 ⟨s0,bn6⟩ _ nL0_1 hnL0_1 _ h;change _/\CU N a0 a1 a2 j3 k10 0 s10 s0 bn6=_ at h;rw[CU]at h;refine Cm (.q (.q (.r []) (.c .z .z)) (.q (.r []) (.q (.q (.r []) (.c .z .z)) (.q (.r []) (.q (.r []) (.r [])))))) ?_;exact tJ (hk10 (s0,s10,bn6) ());rintro xsk13 s10 ⟨s0,bn6⟩ _ nL0_1 hnL0_1 _ h Jk13 hk13;change _/\CU N a0 a1 a2 j3 k10 (xsk13+1) s10 s0 bn6=_ at h;rw[CU]at h;refine Cm (.q (.q (.r []) (.c .z .z)) (.q (.r []) (.q (.q (.r []) (.c .z .z)) (.q (.r []) (.q (.r []) (.r [])))))) ?_;obtain⟨y14,h⟩:=FZ h;simp(disch:=omega) only[vm,seval,h.1];refine⟨Y5 h.1.1 tD λn15 hn15=>?_⟩;rcases KX h with h|h;exact tJ (hk10 (s0,s10,bn6) ());obtain⟨x16,h⟩:=FZ h;obtain⟨c,h⟩:=NE h;try simp only[liE,seval]at c
 replace h:=KO c h;obtain⟨c,h⟩:=NE h;try simp only[liE,seval]at c
 replace h:=KO c h;obtain⟨x17,h⟩:=FZ h;exact tJ (hk13 (x17,(bn6.set s10.toNat x16)) ());intro k4 Jk4 hk4 h;rcases KX h with h|h;obtain⟨y7,h⟩:=FZ h;simp(disch:=omega) only[vm,seval,h.1];refine⟨Y9 h.1.1 tD λn8 hn8=>?_⟩;exact tJ (hk4 (wr .i64 (y7+1)) ());exact tJ (hk4 a3 ())
instance AU6 {a0 a1 a2 a3}:CF vE (strings_genSplit N a0 a1 a2 a3) 262 [.str a0,.str a1,.int .i64 a2,.int .i64 a3] (λr=>.slice 1 (List.map AVal.str r) false):=⟨λh hQ=>VN h rfl hQ⟩
instance AgY {a0 a1}:CF vE (IU N a0 a1) 348 [.str a0,.int .u64 a1] (λr=>.tuple [.int .u64 r.1,.int .i64 r.2]):=AQ (IU.eq_1 ..) Tryz.func348 rfl Tryz.ntmps348 Tryz.results348
@[reducible,instance] def Afz {k s0}:=lf (λk (s:B8)=>Jq N k s) k s0 [(2,19)] [0] (λs=>[.str s]) (λs=>Jq.eq_1 ..) (λk s=>Jq.eq_2 ..)
instance Aq9 {a0}:CF vE (UX N a0) 289 [.str a0] (λr=>.bool r):=AQ (UX.eq_1 ..) Tryz.func289 rfl Tryz.ntmps289 Tryz.results289
def YH {a0 r} (h:C8 N a0=some r) (ha:args=[.str a0]) (hQ: ∀n',n<=n'->Gl (Q (.str r) ⟨m,n'⟩)):ACall vE 101 args ⟨m,n⟩ Q:=by
 rw[C8]at h
 subst ha
 refine ent hQ Tryz.func101 rfl Tryz.ntmps101 Tryz.results101 (.q (.r []) (.q (.r [7]) (.q .z (.q (.r []) .z)))) λR hR=>?_
 replace h:=ac trivial h
 obtain⟨c,h⟩:=NE h
 try simp only[liE,seval]at c
 replace h:=KO c h
 simp(disch:=omega) only[vm,seval,h.1,Bu,Bo,Gn,Ap,A9,Ao]
 refine⟨AkY (σ:=(B8)×Nat×(List Int)) (γ:=Nat) (λk s=>Al N k s.1 s.2.1 s.2.2) (λs g=>[.str s.1,.gsl 1 g s.2.1]) (λs g=>(g,List.map (AVal.int .u8) s.2.2)::m) [4,8,9,10,11,12,13,14,15,16,17,18,19,20,21,22,23,24,25,26,27,28,29,30,31,32,33,34,35,36,37,38,39,40,41,42,43,44,45,46,47,48,49,50,51,52,53,54,55,56,57,58,59,60,61,62,63,64,65,66,67] [0,3] (a0,(0:Int).toNat,(List.replicate (0:Int).toNat 0)) n h (λ_=>rfl) (by first|(simp(disch:=omega) only[vm,seval,h.1,Bu,Bo,Gn,Ap,A9,Ao];done)|rfl) (by first|(simp(disch:=omega) only[vm,seval,h.1,Bu,Bo,Gn,Ap,A9,Ao];done)|rfl) ?_⟩
 clear h
 rintro k1 ⟨s0,s3_len,bq3⟩ q3 nL0_1 hnL0_1 _ h Jk1 hk1
 change _/\Al N (k1+1) s0 s3_len bq3=_ at h
 rw[Al]at h
 refine Cm (.q (.q (.r []) (.c .z .z)) (.q (.r []) (.c (.r []) (.q (.r []) (.c (.r []) (.q (.r []) (.c (.r []) (.q (.r []) (.c (.r []) .z))))))))) ?_
 rcases KX h with h|h
 obtain⟨c,h⟩:=NE h
 try simp only[liE,seval]at c
 replace h:=KO c h
 obtain⟨H,h⟩:=h
 cases h
 simp(disch:=omega) only[vm,seval,H,Bu,Bo,Gn,Ap,A9,Ao]
 refine⟨(hR _ _ _ _ _ _ (by simp(disch:=omega) only[vm,seval,H,Bu,Bo,Gn,Ap,A9,Ao];rfl) (.cons _ slr) ?_ fx ?_).1⟩<;>first|(simp(disch:=omega) only[vm,seval,H,Bu,Bo,Gn,Ap,A9,Ao];done)|rfl
 obtain⟨y2,h⟩:=FZ h
 simp(disch:=omega) only[vm,seval,h.1,Bu,Bo,Gn,Ap,A9,Ao]
 refine⟨JC h.1.1 (by first|(simp(disch:=omega) only[vm,seval,h.1,Bu,Bo,Gn,Ap,A9,Ao];done)|rfl) λn3 hn3=>?_⟩
 rcases KX h with h|h
 obtain⟨x4,h⟩:=FZ h
 simp(disch:=omega) only[vm,seval,h.1,Bu,Bo,Gn,Ap,A9,Ao]
 refine⟨hk1 (x4,s3_len,bq3) q3 _ _ _ _ h.2 slr ?_ ?_ ?_ fx⟩<;>first|(simp(disch:=omega) only[vm,seval,h.1,Bu,Bo,Gn,Ap,A9,Ao];done)|rfl
 obtain⟨y5,h⟩:=FZ h
 simp(disch:=omega) only[vm,seval,h.1,Bu,Bo,Gn,Ap,A9,Ao]
 refine⟨JC h.1.1 (by first|(simp(disch:=omega) only[vm,seval,h.1,Bu,Bo,Gn,Ap,A9,Ao];done)|rfl) λn6 hn6=>?_⟩
 rcases KX h with h|h
 obtain⟨x7,h⟩:=FZ h
 simp(disch:=omega) only[vm,seval,h.1,Bu,Bo,Gn,Ap,A9,Ao]
 refine⟨hk1 (x7,s3_len,bq3) q3 _ _ _ _ h.2 slr ?_ ?_ ?_ fx⟩<;>first|(simp(disch:=omega) only[vm,seval,h.1,Bu,Bo,Gn,Ap,A9,Ao];done)|rfl
 obtain⟨y8,h⟩:=FZ h
 simp(disch:=omega) only[vm,seval,h.1,Bu,Bo,Gn,Ap,A9,Ao]
 refine⟨JC h.1.1 (by first|(simp(disch:=omega) only[vm,seval,h.1,Bu,Bo,Gn,Ap,A9,Ao];done)|rfl) λn9 hn9=>?_⟩
 rcases KX h with h|h
 obtain⟨x10,h⟩:=FZ h
 simp(disch:=omega) only[vm,seval,h.1,Bu,Bo,Gn,Ap,A9,Ao]
 refine⟨hk1 (x10,s3_len,bq3) q3 _ _ _ _ h.2 slr ?_ ?_ ?_ fx⟩<;>first|(simp(disch:=omega) only[vm,seval,h.1,Bu,Bo,Gn,Ap,A9,Ao];done)|rfl
 rcases KX h with h|h
 simp(disch:=omega) only[vm,seval,h.1,Bu,Bo,Gn,Ap,A9,Ao]
 refine⟨hk1 (([47]:B8),s3_len,bq3) q3 _ _ _ _ h.2 slr ?_ ?_ ?_ fx⟩<;>first|(simp(disch:=omega) only[vm,seval,h.1,Bu,Bo,Gn,Ap,A9,Ao];done)|rfl
 simp(disch:=omega) only[vm,seval,h.1,Bu,Bo,Gn,Ap,A9,Ao]
 refine⟨TJ (γ:=Unit) h [45,46,47,48,49,50] [44] (λj11 g=>[.bool j11]) (λj11 g=>(q3,List.map (AVal.int .u8) bq3)::m) (.r []) ?_ ?_⟩<;>clear h
 rintro j11 _ n14 hnn14 _ _ h
 refine Cm (.c (.q (.r []) (.r [])) .z) ?_
 rcases KX h with h|h
 obtain⟨x17,h⟩:=FZ h
 obtain⟨y18,h⟩:=FZ h
 simp(disch:=omega) only[vm,seval,h.1,Bu,Bo,Gn,Ap,A9,Ao]
 refine⟨TS h.1.1 (by first|(simp(disch:=omega) only[vm,seval,h.1,Bu,Bo,Gn,Ap,A9,Ao];done)|rfl) λn19 hn19=>?_⟩
 obtain⟨c,h⟩:=NE h
 try simp only[liE,seval]at c
 replace h:=KO c h
 obtain⟨c,h⟩:=NE h
 try simp only[liE,seval]at c
 replace h:=KO c h
 obtain⟨y20,h⟩:=FZ h
 simp(disch:=omega) only[vm,seval,h.1,Bu,Bo,Gn,Ap,A9,Ao]
 refine⟨Rs h.1.1 (by first|(simp(disch:=omega) only[vm,seval,h.1,Bu,Bo,Gn,Ap,A9,Ao];done)|rfl) λn21 hn21=>?_⟩
 obtain⟨c,h⟩:=NE h
 try simp only[liE,seval]at c
 replace h:=KO c h
 simp(disch:=omega) only[vm,seval,h.1,Bu,Bo,Gn,Ap,A9,Ao]
 refine⟨hk1 ((([47]:B8)++y18),(if y20>0 then y20 else 0).toNat,bq3) q3 _ _ _ _ h.2 slr ?_ ?_ ?_ fx⟩<;>first|(simp(disch:=omega) only[vm,seval,h.1,Bu,Bo,Gn,Ap,A9,Ao];done)|rfl
 simp(disch:=omega) only[vm,seval,h.1,Bu,Bo,Gn,Ap,A9,Ao]
 refine⟨TJ (γ:=Unit) h [62,63,64,65,66,67] [61] (λj22 g=>[.bool j22]) (λj22 g=>(q3,List.map (AVal.int .u8) bq3)::m) (.r []) ?_ ?_⟩<;>clear h
 rintro j22 _ n25 hnn25 _ _ h
 refine Cm (.c (.r []) (.q (.r []) .z)) ?_
 rcases KX h with h|h
 simp(disch:=omega) only[vm,seval,h.1,Bu,Bo,Gn,Ap,A9,Ao]
 refine⟨hk1 ([],s3_len,bq3) q3 _ _ _ _ h.2 slr ?_ ?_ ?_ fx⟩<;>first|(simp(disch:=omega) only[vm,seval,h.1,Bu,Bo,Gn,Ap,A9,Ao];done)|rfl
 obtain⟨x26,h⟩:=FZ h
 obtain⟨y27,h⟩:=FZ h
 simp(disch:=omega) only[vm,seval,h.1,Bu,Bo,Gn,Ap,A9,Ao]
 refine⟨Um h.1.1 (by first|(simp(disch:=omega) only[vm,seval,h.1,Bu,Bo,Gn,Ap,A9,Ao];done)|rfl) λn28 hn28=>?_⟩
 simp(disch:=omega) only[vm,seval,h.1,Bu,Bo,Gn,Ap,A9,Ao]
 refine⟨TJ (γ:=Unit) h [14,15,16,17] [4] (λj29 g=>[.int .i64 j29]) (λj29 g=>(q3,List.map (AVal.int .u8) bq3)::m) (.q (.r []) (.c (.r []) .z)) ?_ ?_⟩<;>clear h
 rintro j29 _ n32 hnn32 _ _ h
 refine Cm (.q (.r [18]) (.r [])) ?_
 obtain⟨x33,h⟩:=FZ h
 obtain⟨c,h⟩:=NE h
 try simp only[liE,seval]at c
 replace h:=KO c h
 simp(disch:=omega) only[vm,seval,h.1,Bu,Bo,Gn,Ap,A9,Ao]
 refine⟨ApF λi34 hi34=>Gl.go ?_⟩
 obtain⟨x35,h⟩:=FZ h
 simp(disch:=omega) only[vm,seval,h.1,Bu,Bo,Gn,Ap,A9,Ao]
 refine⟨hk1 (x35,(s3_len+x33.length),(List.take s3_len bq3++List.map AJ x33)) i34 _ _ _ _ h.2 slr ?_ ?_ ?_ fx⟩<;>first|(simp(disch:=omega) only[vm,seval,h.1,Bu,Bo,Gn,Ap,A9,Ao];done)|rfl
 intro k30 Jk30 hk30 h
 rcases KX h with h|h
 simp(disch:=omega) only[vm,seval,h.1,Bu,Bo,Gn,Ap,A9,Ao]
 refine⟨hk30 (s0.length:Int) () _ _ _ _ h.2 slr ?_ ?_ ?_ fx⟩<;>first|(simp(disch:=omega) only[vm,seval,h.1,Bu,Bo,Gn,Ap,A9,Ao];done)|rfl
 simp(disch:=omega) only[vm,seval,h.1,Bu,Bo,Gn,Ap,A9,Ao]
 refine⟨hk30 (wr .i64 (1+y27)) () _ _ _ _ h.2 slr ?_ ?_ ?_ fx⟩<;>first|(simp(disch:=omega) only[vm,seval,h.1,Bu,Bo,Gn,Ap,A9,Ao];done)|rfl
 intro k23 Jk23 hk23 h
 rcases KX h with h|h
 simp(disch:=omega) only[vm,seval,h.1,Bu,Bo,Gn,Ap,A9,Ao]
 refine⟨hk23 true () _ _ _ _ h.2 slr ?_ ?_ ?_ fx⟩<;>first|(simp(disch:=omega) only[vm,seval,h.1,Bu,Bo,Gn,Ap,A9,Ao];done)|rfl
 simp(disch:=omega) only[vm,seval,h.1,Bu,Bo,Gn,Ap,A9,Ao]
 refine⟨hk23 (s0==([46,46]:B8)) () _ _ _ _ h.2 slr ?_ ?_ ?_ fx⟩<;>first|(simp(disch:=omega) only[vm,seval,h.1,Bu,Bo,Gn,Ap,A9,Ao];done)|rfl
 intro k12 Jk12 hk12 h
 obtain⟨y15,h⟩:=FZ h
 simp(disch:=omega) only[vm,seval,h.1,Bu,Bo,Gn,Ap,A9,Ao]
 refine⟨JC h.1.1 (by first|(simp(disch:=omega) only[vm,seval,h.1,Bu,Bo,Gn,Ap,A9,Ao];done)|rfl) λn16 hn16=>?_⟩
 rcases KX h with h|h
 simp(disch:=omega) only[vm,seval,h.1,Bu,Bo,Gn,Ap,A9,Ao]
 refine⟨hk12 true () _ _ _ _ h.2 slr ?_ ?_ ?_ fx⟩<;>first|(simp(disch:=omega) only[vm,seval,h.1,Bu,Bo,Gn,Ap,A9,Ao];done)|rfl
 simp(disch:=omega) only[vm,seval,h.1,Bu,Bo,Gn,Ap,A9,Ao]
 refine⟨hk12 (s0==([47,46,46]:B8)) () _ _ _ _ h.2 slr ?_ ?_ ?_ fx⟩<;>first|(simp(disch:=omega) only[vm,seval,h.1,Bu,Bo,Gn,Ap,A9,Ao];done)|rfl
instance Aad {a0}:CF vE (C8 N a0) 101 [.str a0] (λr=>.str r):=⟨λh hQ=>YH h rfl hQ⟩
instance As1 {a0}:CF vE (TN N a0) 104 [Fq a0] (λr=>.str r):=AQ (TN.eq_1 ..) Tryz.func104 rfl Tryz.ntmps104 Tryz.results104
@[reducible,instance] def AN9 {a0 a1 k2 k s6 s7}:=lf (λk (s:(List Int)×Int)=>Ch N a0 a1 k2 k s.1 s.2) k (s6,s7) [(4,2),(8,2),(13,49)] [6,7] (λs=>[.slice 1 (List.map (AVal.int .u8) s.1) true,.int .i64 s.2]) (λs=>Ch.eq_1 ..) (λk s=>Ch.eq_2 ..) (X:=Ch N a0 a1 k2 k s6 s7)
instance AYU {a0 a1}:CF vE (Dn N a0 a1) 113 [.str a0,.str a1] (λr=>.tuple [.str r.1,.int .i64 r.2]):=AQ (Dn.eq_1 ..) Tryz.func113 rfl Tryz.ntmps113 Tryz.results113 [(8,[],.stop),(10,[36],.done),(15,[52],.done),(16,[56],.done)]
instance Aj1 {a0 a1}:CF vE (Ld N a0 a1) 222 [.str a0,.int .u64 a1] (λr=>.tuple [.int .u64 r.1,.int .i64 r.2]):=AQ (Ld.eq_1 ..) Tryz.func222 rfl Tryz.ntmps222 Tryz.results222 [(2,[],.stop)]
end Go.Proofs.YtfbofngnmfcomaaGreatDoor
