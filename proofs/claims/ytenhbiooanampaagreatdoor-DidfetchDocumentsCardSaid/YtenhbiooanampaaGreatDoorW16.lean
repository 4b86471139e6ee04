import Derived.Test.YtenhbiooanampaaGreatDoorW12
set_option linter.unusedVariables false
set_option linter.unusedSimpArgs false
set_option maxHeartbeats 4000000
set_option maxRecDepth 100000
set_option linter.defProp false
namespace Go.Proofs.YtenhbiooanampaaGreatDoor
open Go.VM Tryz
attribute [local irreducible] AA grd letL
variable{N n:Nat}{m:MS}{Q:PQ}{args:List AVal}
abbrev Ako {a0 k2 xs}:=lq (λxs i (s:Unit)=>OH N a0 k2 xs) xs () [(4,1),(6,1),(10,14)] [9] (λi s=>OH.eq_1 ..) (λx xs i s=>OH.eq_2 ..)
abbrev AJi {k2 k bn_addr bn_buf bi0_s bi0_at_}:=lf (λk (s:Bool×B8×B8×Int)=>Ex N k2 k s.1 s.2.1 s.2.2.1 s.2.2.2) k (bn_addr,bn_buf,bi0_s,bi0_at_) [(2,2),(5,4),(16,50)] [] (λs=>[]) (λs=>Ex.eq_1 ..) (λk s=>Ex.eq_2 ..) (Ms:=λs=>[.t (λq=>[Gs q 234 2 s.1,.buf 5 s.2.1 true]),.s ([.str s.2.2.1,.int .i64 s.2.2.2])]) (X:=Ex N k2 k bn_addr bn_buf bi0_s bi0_at_)
abbrev AVS {a0 k2 k s4 s5}:=lf (λk (s:(List Int)×Int)=>Dn N a0 k2 k s.1 s.2) k (s4,s5) [(2,2),(6,3),(12,26)] [4,5] (λs=>[.slice 1 (List.map (AVal.int .u8) s.1) true,.int .i64 s.2]) (λs=>Dn.eq_1 ..) (λk s=>Dn.eq_2 ..) (X:=Dn N a0 k2 k s4 s5)
abbrev AQU {a0 a1 a2 k18 k s11 bn8_addr bn8_buf}:=lu (λk i (s:Int×Bool×B8)=>DU N a0 a1 a2 k18 k s.1 s.2.1 s.2.2) k (s11,bn8_addr,bn8_buf) [(12,1),(54,20)] [11,53] (λi s=>DU.eq_1 ..) (λk i s=>DU.eq_2 ..) (V:=λi s=>[.int .i64 s.1,.int .i64 i]) (Ms:=λi s=>[.t (λq=>[Gs q 234 2 s.2.1,.buf 5 s.2.2 true])]) (X:=DU N a0 a1 a2 k18 k s11 bn8_addr bn8_buf)
abbrev AR4 {a0 a2 k18 k s11 bn8}:=lu (λk i (s:Int×StringsBuilder)=>GV N a0 a2 k18 k s.1 s.2) k (s11,bn8) [(13,3),(79,20)] [11,78] (λi s=>GV.eq_1 ..) (λk i s=>GV.eq_2 ..) (V:=λi s=>[.int .i64 s.1,.int .i64 i]) (Ms:=λi s=>[.t (λq=>[Gs q 234 2 s.2.addr,.buf 5 s.2.buf true])]) (X:=GV N a0 a2 k18 k s11 bn8)
abbrev Ang {k s0}:=lf (λk (s:B8)=>KD N k s) k s0 [(2,19)] [0] (λs=>[.str s]) (λs=>KD.eq_1 ..) (λk s=>KD.eq_2 ..)
abbrev APX {k17 xs s8 bn15}:=lr (λxs i (s:(List Bool))=>Dj N k17 xs i s) xs s8 bn15 [(4,1),(33,11)] [8] (λi s=>Dj.eq_1 ..) (λx xs i s=>Dj.eq_2 ..) (Ms:=λi s=>[.s (List.map AVal.bool s)])
abbrev APR {a0 a1 k24 k s45}:=lf (λk (s:Nat)=>Bh N a0 a1 k24 k s) k s45 [(4,1),(9,2),(46,9)] [45] (λs=>[.iter a0 s]) (λs=>Bh.eq_1 ..) (λk s=>Bh.eq_2 ..)
attribute [instance] Ako AJi AVS AQU AR4 Ang APX APR
instance Av6 {a0 a1}:CF vE (RL N a0 a1) 39 [FX a0,.str a1] (λr=>.tuple [.str r.1,.bool r.2]):=AQ (RL.eq_1 ..) func39 rfl ntmps39 results39
instance Agn {a0}:CF vE (Ki N a0) 197 [.int .u8 a0] (λr=>.bool r):=AQ (Ki.eq_1 ..) func197 rfl ntmps197 results197 [(1,[],.stop)]
instance AuA {a0 a1}:CF vE (Y2 N a0 a1) 114 [I6 a0,.slice 1 (List.map AVal.str a1) false] (λr=>.bool r):=AQ (Y2.eq_1 ..) func114 rfl ntmps114 results114
instance AqY {a0 a1}:CF vE (PN N a0 a1) 404 [.str a0,.int .u64 a1] (λr=>.tuple [.int .u64 r.1,.int .i64 r.2]):=AQ (PN.eq_1 ..) func404 rfl ntmps404 results404
instance AVX {a0}:CB vE (Oi N a0) 277 (λi0=>[.ptr i0 0]) (λi0=>[.str a0.s,.int .i64 a0.at_]) (λr=>.tuple [.str r.1,.int .i64 r.2.1]) (λi0 r=>[.str r.2.2.s,.int .i64 r.2.2.at_]):=Fb (Oi.eq_1 ..) func277 rfl ntmps277 results277 [(3,[],.tk 0 10 .done),(5,[],.tk 0 9 (.al 9 [] .done))]
instance APV {a0}:CB vE (Jc N a0) 279 (λi0=>[.ptr i0 0]) (λi0=>[.str a0.s,.int .i64 a0.at_]) (λr=>.tuple [.str r.1,.bool r.2.1]) (λi0 r=>[.str r.2.2.s,.int .i64 r.2.2.at_]):=Fb (Jc.eq_1 ..) func279 rfl ntmps279 results279 [(3,[],.stop),(12,[],.tk 0 10 (.al 10 [] (.al 11 [] .done)))]
instance Aip {a0 a1}:CF vE (JP N a0 a1) 361 [.str a0,.int .u64 a1] (λr=>.tuple [.int .u64 r.1,.int .i64 r.2]):=AQ (JP.eq_1 ..) func361 rfl ntmps361 results361
instance AdB {a0}:CF vE (Gy N a0) 162 [.str a0] (λr=>.tuple [.str r.1,.int .i64 r.2]):=AQ (Gy.eq_1 ..) func162 rfl ntmps162 results162 [(14,[34],.done)]
instance AUY {a0}:CF vE (Dx N a0) 243 [.int .u8 a0] (λr=>.bool r):=AQ (Dx.eq_1 ..) func243 rfl ntmps243 results243 [(1,[],.stop)]
instance AZX {a0 a1 a2 a3}:CF vE (strings_Replace N a0 a1 a2 a3) 348 [.str a0,.str a1,.str a2,.int .i64 a3] (λr=>.str r):=AQ (strings_Replace.eq_1 ..) func348 rfl ntmps348 results348 [(1,[],.stop),(6,[],.stop),(8,[10],.done)]
def WL {a0 a1 a2 a3 r} (h:strings_genSplit N a0 a1 a2 a3=some r) (ha:args=[.str a0,.str a1,.int .i64 a2,.int .i64 a3]) (hQ: ∀n',n<=n'->Gl (Q (.slice 1 (List.map AVal.str r) false) ⟨m,n'⟩)):ACall vE 164 args ⟨m,n⟩ Q:=by
 rw[strings_genSplit]at h;subst ha;refine ACall.give (Aji func164 rfl ntmps164 results164 (.q (.r []) (.q (.q (.r []) (.c (.q (.r []) .z) .z)) (.q (.q (.r []) (.c (.q (.r []) .z) .z)) .z))) (λR hR=>?_));replace h:=ac trivial h;rcases K4 h with h|h;cases h.2;rcases K4 h with h|h;obtain⟨y1,h⟩:=GI h;simp(disch:=omega) only[vm,seval,h.1];refine⟨Xg h.1.1 tD λn2 hn2=>?_⟩;cases h.2;simp(disch:=omega) only[vm,seval,h.1];refine⟨UM (γ:=Unit) h [19,20,21,22,23,24] [3] (λj3 g=>[.int .i64 j3]) (λj3 g=>m) (.q (.r []) (.c (.r []) .z)) ?_ ?_⟩<;>clear h;rintro j3 _ n6 hnn6 _ _ h;refine Cx (.q (.r []) (.q (.r []) (.q (.r []) (.q (.r []) .z)))) ?_;obtain⟨c,h⟩:=Nk h;try simp only[liE,seval]at c
 replace h:=Kv c h;simp(disch:=omega) only[vm,seval,h.1];refine⟨UM (γ:=Unit) h [11,34,35,36,37,38,39,40,41,42,43,44,45,46,47,48,49,50,51,52,53,54,55,56,57] [0,10] (λj9 g=>[.str j9.1,.int .i64 j9.2.1]) (λj9 g=>(n6,List.map AVal.str j9.2.2)::m) .z ?_ ?_⟩<;>clear h;rintro j9 _ n12 hnn12 _ _ h;refine Cx (.q (.r []) (.q (.r []) .z)) ?_;obtain⟨c,h⟩:=Nk h;try simp only[liE,seval]at c
 replace h:=Kv c h;obtain⟨c,h⟩:=Nk h;try simp only[liE,seval]at c
 replace h:=Kv c h;obtain⟨c,h⟩:=Nk h;try simp only[liE,seval]at c
 replace h:=Kv c h;obtain⟨cg,h⟩:=Nk h;obtain⟨H,h⟩:=h;cases h;simp(disch:=omega) only[vm,seval,H];refine⟨(hR _ _ _ _ _ _ (by simp(disch:=omega) only[vm,seval,H];rfl) slr fH ⟨[_],_,_,rfl,Aea (l:=(j9.2.2.set j9.2.1.toNat j9.1)) (by simpa only[bZ]using cg),rfl,(hQ _ (by first|omega|(dsimp only;omega))).go⟩).1⟩;intro k10 Jk10 hk10 h;obtain⟨hfk13,h⟩:=Nk h;simp(disch:=omega) only[vm,seval,h.1];refine⟨Alm (σ:=(B8)×(List B8)) (γ:=Unit) 0 (wr .i64 ((if(wr .i64 ((a0.length:Int)+1))<j3 then(wr .i64 ((a0.length:Int)+1))else j3)-1)) hfk13 (λxs i s=>Cc N a0 a1 a2 j3 k10 xs i s.1 s.2) (λi s g=>[.str s.1,.int .i64 i]) (λi s g=>(n6,List.map AVal.str s.2)::m) [11,34,35,36,37,38,39,40,41,42,43,44,45,46,47,48,49,50,51,52,53,54,55,56,57] [0,10] (a0,(List.replicate (if(wr .i64 ((a0.length:Int)+1))<j3 then(wr .i64 ((a0.length:Int)+1))else j3).toNat ([]:B8))) () h tD tD ?_ ?_⟩<;>clear h;rintro s10 ⟨s0,bn6⟩ _ nL0_1 hnL0_1 _ h;change _/\Cc N a0 a1 a2 j3 k10 0 s10 s0 bn6=_ at h;rw[Cc]at h;refine Cx (.q (.q (.r []) (.c .z .z)) (.q (.r []) (.q (.q (.r []) (.c .z .z)) (.q (.r []) (.q (.r []) (.r [])))))) ?_;exact tJ (hk10 (s0,s10,bn6) ());rintro xsk13 s10 ⟨s0,bn6⟩ _ nL0_1 hnL0_1 _ h Jk13 hk13;change _/\Cc N a0 a1 a2 j3 k10 (xsk13+1) s10 s0 bn6=_ at h;rw[Cc]at h;refine Cx (.q (.q (.r []) (.c .z .z)) (.q (.r []) (.q (.q (.r []) (.c .z .z)) (.q (.r []) (.q (.r []) (.r [])))))) ?_;obtain⟨y14,h⟩:=GI h;simp(disch:=omega) only[vm,seval,h.1];refine⟨AAn h.1.1 tD λn15 hn15=>?_⟩;rcases K4 h with h|h;exact tJ (hk10 (s0,s10,bn6) ());obtain⟨x16,h⟩:=GI h;obtain⟨c,h⟩:=Nk h;try simp only[liE,seval]at c
 replace h:=Kv c h;obtain⟨c,h⟩:=Nk h;try simp only[liE,seval]at c
 replace h:=Kv c h;obtain⟨x17,h⟩:=GI h;exact tJ (hk13 (x17,(bn6.set s10.toNat x16)) ());intro k4 Jk4 hk4 h;rcases K4 h with h|h;obtain⟨y7,h⟩:=GI h;simp(disch:=omega) only[vm,seval,h.1];refine⟨AAV h.1.1 tD λn8 hn8=>?_⟩;exact tJ (hk4 (wr .i64 (y7+1)) ());exact tJ (hk4 a3 ())
instance AXu {a0 a1 a2 a3}:CF vE (strings_genSplit N a0 a1 a2 a3) 164 [.str a0,.str a1,.int .i64 a2,.int .i64 a3] (λr=>.slice 1 (List.map AVal.str r) false):=⟨λh hQ=>WL h rfl hQ⟩
instance Atg {a0}:CF vE (VT N a0) 308 [.str a0] (λr=>.bool r):=AQ (VT.eq_1 ..) func308 rfl ntmps308 results308
instance AWq {a0 a1}:CF vE (strings_IndexAny N a0 a1) 364 [.str a0,.str a1] (λr=>.int .i64 r):=AQ (strings_IndexAny.eq_1 ..) func364 rfl ntmps364 results364
def Yu {a0 r} (h:De N a0=some r) (ha:args=[.str a0]) (hQ: ∀n',n<=n'->Gl (Q (.str r) ⟨m,n'⟩)):ACall vE 316 args ⟨m,n⟩ Q:=by
 rw[De]at h
 subst ha
 refine ent hQ func316 rfl ntmps316 results316 (.q (.r []) (.q (.r [7]) (.q .z (.q (.r []) .z)))) λR hR=>?_
 replace h:=ac trivial h
 obtain⟨c,h⟩:=Nk h
 try simp only[liE,seval]at c
 replace h:=Kv c h
 simp(disch:=omega) only[vm,seval,h.1,CE,Br,Hl,Ay,BH,Aw]
 refine⟨Akf (σ:=(B8)×Nat×(List Int)) (γ:=Nat) (λk s=>Av N k s.1 s.2.1 s.2.2) (λs g=>[.str s.1,.gsl 1 g s.2.1]) (λs g=>(g,List.map (AVal.int .u8) s.2.2)::m) [4,8,9,10,11,12,13,14,15,16,17,18,19,20,21,22,23,24,25,26,27,28,29,30,31,32,33,34,35,36,37,38,39,40,41,42,43,44,45,46,47,48,49,50,51,52,53,54,55,56,57,58,59,60,61,62,63,64,65,66,67] [0,3] (a0,(0:Int).toNat,(List.replicate (0:Int).toNat 0)) n h (λ_=>rfl) (by first|(simp(disch:=omega) only[vm,seval,h.1,CE,Br,Hl,Ay,BH,Aw];done)|rfl) (by first|(simp(disch:=omega) only[vm,seval,h.1,CE,Br,Hl,Ay,BH,Aw];done)|rfl) ?_⟩
 clear h
 rintro k1 ⟨s0,s3_len,bq3⟩ q3 nL0_1 hnL0_1 _ h Jk1 hk1
 change _/\Av N (k1+1) s0 s3_len bq3=_ at h
 rw[Av]at h
 refine Cx (.q (.q (.r []) (.c .z .z)) (.q (.r []) (.c (.r []) (.q (.r []) (.c (.r []) (.q (.r []) (.c (.r []) (.q (.r []) (.c (.r []) .z))))))))) ?_
 rcases K4 h with h|h
 obtain⟨c,h⟩:=Nk h
 try simp only[liE,seval]at c
 replace h:=Kv c h
 obtain⟨H,h⟩:=h
 cases h
 simp(disch:=omega) only[vm,seval,H,CE,Br,Hl,Ay,BH,Aw]
 refine⟨(hR _ _ _ _ _ _ (by simp(disch:=omega) only[vm,seval,H,CE,Br,Hl,Ay,BH,Aw];rfl) (.cons _ slr) ?_ fH ?_).1⟩<;>first|(simp(disch:=omega) only[vm,seval,H,CE,Br,Hl,Ay,BH,Aw];done)|rfl
 obtain⟨y2,h⟩:=GI h
 simp(disch:=omega) only[vm,seval,h.1,CE,Br,Hl,Ay,BH,Aw]
 refine⟨Jf h.1.1 (by first|(simp(disch:=omega) only[vm,seval,h.1,CE,Br,Hl,Ay,BH,Aw];done)|rfl) λn3 hn3=>?_⟩
 rcases K4 h with h|h
 obtain⟨x4,h⟩:=GI h
 simp(disch:=omega) only[vm,seval,h.1,CE,Br,Hl,Ay,BH,Aw]
 refine⟨hk1 (x4,s3_len,bq3) q3 _ _ _ _ h.2 slr ?_ ?_ ?_ fH⟩<;>first|(simp(disch:=omega) only[vm,seval,h.1,CE,Br,Hl,Ay,BH,Aw];done)|rfl
 obtain⟨y5,h⟩:=GI h
 simp(disch:=omega) only[vm,seval,h.1,CE,Br,Hl,Ay,BH,Aw]
 refine⟨Jf h.1.1 (by first|(simp(disch:=omega) only[vm,seval,h.1,CE,Br,Hl,Ay,BH,Aw];done)|rfl) λn6 hn6=>?_⟩
 rcases K4 h with h|h
 obtain⟨x7,h⟩:=GI h
 simp(disch:=omega) only[vm,seval,h.1,CE,Br,Hl,Ay,BH,Aw]
 refine⟨hk1 (x7,s3_len,bq3) q3 _ _ _ _ h.2 slr ?_ ?_ ?_ fH⟩<;>first|(simp(disch:=omega) only[vm,seval,h.1,CE,Br,Hl,Ay,BH,Aw];done)|rfl
 obtain⟨y8,h⟩:=GI h
 simp(disch:=omega) only[vm,seval,h.1,CE,Br,Hl,Ay,BH,Aw]
 refine⟨Jf h.1.1 (by first|(simp(disch:=omega) only[vm,seval,h.1,CE,Br,Hl,Ay,BH,Aw];done)|rfl) λn9 hn9=>?_⟩
 rcases K4 h with h|h
 obtain⟨x10,h⟩:=GI h
 simp(disch:=omega) only[vm,seval,h.1,CE,Br,Hl,Ay,BH,Aw]
 refine⟨hk1 (x10,s3_len,bq3) q3 _ _ _ _ h.2 slr ?_ ?_ ?_ fH⟩<;>first|(simp(disch:=omega) only[vm,seval,h.1,CE,Br,Hl,Ay,BH,Aw];done)|rfl
 rcases K4 h with h|h
 simp(disch:=omega) only[vm,seval,h.1,CE,Br,Hl,Ay,BH,Aw]
 refine⟨hk1 (([47]:B8),s3_len,bq3) q3 _ _ _ _ h.2 slr ?_ ?_ ?_ fH⟩<;>first|(simp(disch:=omega) only[vm,seval,h.1,CE,Br,Hl,Ay,BH,Aw];done)|rfl
 simp(disch:=omega) only[vm,seval,h.1,CE,Br,Hl,Ay,BH,Aw]
 refine⟨UM (γ:=Unit) h [45,46,47,48,49,50] [44] (λj11 g=>[.bool j11]) (λj11 g=>(q3,List.map (AVal.int .u8) bq3)::m) (.r []) ?_ ?_⟩<;>clear h
 rintro j11 _ n14 hnn14 _ _ h
 refine Cx (.c (.q (.r []) (.r [])) .z) ?_
 rcases K4 h with h|h
 obtain⟨x17,h⟩:=GI h
 obtain⟨y18,h⟩:=GI h
 simp(disch:=omega) only[vm,seval,h.1,CE,Br,Hl,Ay,BH,Aw]
 refine⟨Ua h.1.1 (by first|(simp(disch:=omega) only[vm,seval,h.1,CE,Br,Hl,Ay,BH,Aw];done)|rfl) λn19 hn19=>?_⟩
 obtain⟨c,h⟩:=Nk h
 try simp only[liE,seval]at c
 replace h:=Kv c h
 obtain⟨c,h⟩:=Nk h
 try simp only[liE,seval]at c
 replace h:=Kv c h
 obtain⟨y20,h⟩:=GI h
 simp(disch:=omega) only[vm,seval,h.1,CE,Br,Hl,Ay,BH,Aw]
 refine⟨SN h.1.1 (by first|(simp(disch:=omega) only[vm,seval,h.1,CE,Br,Hl,Ay,BH,Aw];done)|rfl) λn21 hn21=>?_⟩
 obtain⟨c,h⟩:=Nk h
 try simp only[liE,seval]at c
 replace h:=Kv c h
 simp(disch:=omega) only[vm,seval,h.1,CE,Br,Hl,Ay,BH,Aw]
 refine⟨hk1 ((([47]:B8)++y18),(if y20>0 then y20 else 0).toNat,bq3) q3 _ _ _ _ h.2 slr ?_ ?_ ?_ fH⟩<;>first|(simp(disch:=omega) only[vm,seval,h.1,CE,Br,Hl,Ay,BH,Aw];done)|rfl
 simp(disch:=omega) only[vm,seval,h.1,CE,Br,Hl,Ay,BH,Aw]
 refine⟨UM (γ:=Unit) h [62,63,64,65,66,67] [61] (λj22 g=>[.bool j22]) (λj22 g=>(q3,List.map (AVal.int .u8) bq3)::m) (.r []) ?_ ?_⟩<;>clear h
 rintro j22 _ n25 hnn25 _ _ h
 refine Cx (.c (.r []) (.q (.r []) .z)) ?_
 rcases K4 h with h|h
 simp(disch:=omega) only[vm,seval,h.1,CE,Br,Hl,Ay,BH,Aw]
 refine⟨hk1 ([],s3_len,bq3) q3 _ _ _ _ h.2 slr ?_ ?_ ?_ fH⟩<;>first|(simp(disch:=omega) only[vm,seval,h.1,CE,Br,Hl,Ay,BH,Aw];done)|rfl
 obtain⟨x26,h⟩:=GI h
 obtain⟨y27,h⟩:=GI h
 simp(disch:=omega) only[vm,seval,h.1,CE,Br,Hl,Ay,BH,Aw]
 refine⟨Ve h.1.1 (by first|(simp(disch:=omega) only[vm,seval,h.1,CE,Br,Hl,Ay,BH,Aw];done)|rfl) λn28 hn28=>?_⟩
 simp(disch:=omega) only[vm,seval,h.1,CE,Br,Hl,Ay,BH,Aw]
 refine⟨UM (γ:=Unit) h [14,15,16,17] [4] (λj29 g=>[.int .i64 j29]) (λj29 g=>(q3,List.map (AVal.int .u8) bq3)::m) (.q (.r []) (.c (.r []) .z)) ?_ ?_⟩<;>clear h
 rintro j29 _ n32 hnn32 _ _ h
 refine Cx (.q (.r [18]) (.r [])) ?_
 obtain⟨x33,h⟩:=GI h
 obtain⟨c,h⟩:=Nk h
 try simp only[liE,seval]at c
 replace h:=Kv c h
 simp(disch:=omega) only[vm,seval,h.1,CE,Br,Hl,Ay,BH,Aw]
 refine⟨Arc λi34 hi34=>Gl.go ?_⟩
 obtain⟨x35,h⟩:=GI h
 simp(disch:=omega) only[vm,seval,h.1,CE,Br,Hl,Ay,BH,Aw]
 refine⟨hk1 (x35,(s3_len+x33.length),(List.take s3_len bq3++List.map AJ x33)) i34 _ _ _ _ h.2 slr ?_ ?_ ?_ fH⟩<;>first|(simp(disch:=omega) only[vm,seval,h.1,CE,Br,Hl,Ay,BH,Aw];done)|rfl
 intro k30 Jk30 hk30 h
 rcases K4 h with h|h
 simp(disch:=omega) only[vm,seval,h.1,CE,Br,Hl,Ay,BH,Aw]
 refine⟨hk30 (s0.length:Int) () _ _ _ _ h.2 slr ?_ ?_ ?_ fH⟩<;>first|(simp(disch:=omega) only[vm,seval,h.1,CE,Br,Hl,Ay,BH,Aw];done)|rfl
 simp(disch:=omega) only[vm,seval,h.1,CE,Br,Hl,Ay,BH,Aw]
 refine⟨hk30 (wr .i64 (1+y27)) () _ _ _ _ h.2 slr ?_ ?_ ?_ fH⟩<;>first|(simp(disch:=omega) only[vm,seval,h.1,CE,Br,Hl,Ay,BH,Aw];done)|rfl
 intro k23 Jk23 hk23 h
 rcases K4 h with h|h
 simp(disch:=omega) only[vm,seval,h.1,CE,Br,Hl,Ay,BH,Aw]
 refine⟨hk23 true () _ _ _ _ h.2 slr ?_ ?_ ?_ fH⟩<;>first|(simp(disch:=omega) only[vm,seval,h.1,CE,Br,Hl,Ay,BH,Aw];done)|rfl
 simp(disch:=omega) only[vm,seval,h.1,CE,Br,Hl,Ay,BH,Aw]
 refine⟨hk23 (s0==([46,46]:B8)) () _ _ _ _ h.2 slr ?_ ?_ ?_ fH⟩<;>first|(simp(disch:=omega) only[vm,seval,h.1,CE,Br,Hl,Ay,BH,Aw];done)|rfl
 intro k12 Jk12 hk12 h
 obtain⟨y15,h⟩:=GI h
 simp(disch:=omega) only[vm,seval,h.1,CE,Br,Hl,Ay,BH,Aw]
 refine⟨Jf h.1.1 (by first|(simp(disch:=omega) only[vm,seval,h.1,CE,Br,Hl,Ay,BH,Aw];done)|rfl) λn16 hn16=>?_⟩
 rcases K4 h with h|h
 simp(disch:=omega) only[vm,seval,h.1,CE,Br,Hl,Ay,BH,Aw]
 refine⟨hk12 true () _ _ _ _ h.2 slr ?_ ?_ ?_ fH⟩<;>first|(simp(disch:=omega) only[vm,seval,h.1,CE,Br,Hl,Ay,BH,Aw];done)|rfl
 simp(disch:=omega) only[vm,seval,h.1,CE,Br,Hl,Ay,BH,Aw]
 refine⟨hk12 (s0==([47,46,46]:B8)) () _ _ _ _ h.2 slr ?_ ?_ ?_ fH⟩<;>first|(simp(disch:=omega) only[vm,seval,h.1,CE,Br,Hl,Ay,BH,Aw];done)|rfl
instance Ab2 {a0}:CF vE (De N a0) 316 [.str a0] (λr=>.str r):=⟨λh hQ=>Yu h rfl hQ⟩
end Go.Proofs.YtenhbiooanampaaGreatDoor
