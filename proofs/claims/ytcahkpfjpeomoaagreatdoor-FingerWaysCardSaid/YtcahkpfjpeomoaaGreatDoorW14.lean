import Derived.Test.YtcahkpfjpeomoaaGreatDoorW9
import Derived.Test.YtcahkpfjpeomoaaGreatDoorW11
set_option linter.unusedVariables false
set_option linter.unusedSimpArgs false
set_option maxHeartbeats 4000000
set_option maxRecDepth 100000
set_option linter.defProp false
namespace Go.Proofs.YtcahkpfjpeomoaaGreatDoor
open Go.VM
attribute [local irreducible] AA grd letL
variable{N n:Nat}{m:MS}{Q:PQ}{args:List AVal}
instance AJf {a0}:CF vE (Dl N a0) 64 [.int .u8 a0] (fun r=>.bool r):=AP (Dl.eq_1 ..) Tryz.func64 rfl Tryz.ntmps64 Tryz.results64 [(1,[],.stop)]
theorem RO {a0 a1 a2 a3 r} (h:strings_genSplit N a0 a1 a2 a3=some r) (ha:args=[.str a0,.str a1,.int .i64 a2,.int .i64 a3]) (hQ: ∀n',n≤n'→Gl (Q (.slice 1 (List.map AVal.str r) false) ⟨m,n'⟩)):ACall vE 261 args ⟨m,n⟩ Q:=by
 rw[strings_genSplit]at h
 subst ha
 refine ACall.give (AWD Tryz.func261 rfl Tryz.ntmps261 Tryz.results261 (.q (.r []) (.q (.q (.r []) (.c (.q (.r []) .z) .z)) (.q (.q (.r []) (.c (.q (.r []) .z) .z)) .z))) (fun R hR=>?_))
 replace h:=And.intro trivial h
 rcases Ec h with h|h
 cases h.2
 rcases Ec h with h|h
 obtain⟨y1,h⟩:=Cu h
 simp(disch:=omega) only[vm,seval,h.1]
 refine⟨R3 h.1.1 tD fun n2 hn2=>?_⟩
 cases h.2
 simp(disch:=omega) only[vm,seval,h.1]
 refine⟨MQ (γ:=Unit) h [19,20,21,22,23,24] [3] (fun j3 g=>[.int .i64 j3]) (fun j3 g=>m) (.q (.r []) (.c (.r []) .z)) ?_ ?_⟩<;>clear h
 rintro j3 _ n6 hnn6 _ _ h
 refine BM (.q (.r []) (.q (.r []) (.q (.r []) (.q (.r []) .z)))) ?_
 obtain⟨c,h⟩:=Ho h
 try simp only[liE,seval]at c
 replace h:=EY c h
 simp(disch:=omega) only[vm,seval,h.1]
 refine⟨MQ (γ:=Unit) h [11,34,35,36,37,38,39,40,41,42,43,44,45,46,47,48,49,50,51,52,53,54,55,56,57] [0,10] (fun j9 g=>[.str j9.1,.int .i64 j9.2.1]) (fun j9 g=>(n6,List.map AVal.str j9.2.2)::m) .z ?_ ?_⟩<;>clear h
 rintro j9 _ n12 hnn12 _ _ h
 refine BM (.q (.r []) (.q (.r []) .z)) ?_
 obtain⟨c,h⟩:=Ho h
 try simp only[liE,seval]at c
 replace h:=EY c h
 obtain⟨c,h⟩:=Ho h
 try simp only[liE,seval]at c
 replace h:=EY c h
 obtain⟨c,h⟩:=Ho h
 try simp only[liE,seval]at c
 replace h:=EY c h
 obtain⟨cg,h⟩:=Ho h
 obtain⟨H,h⟩:=h
 cases h
 simp(disch:=omega) only[vm,seval,H]
 refine⟨(hR _ _ _ _ _ _ (by simp(disch:=omega) only[vm,seval,H];rfl) slr (by omega) ⟨[_],_,_,rfl,AQh (l:=(j9.2.2.set j9.2.1.toNat j9.1)) (by simpa only[List.length_set]using cg),rfl,(hQ _ (by first|omega|(dsimp only;omega))).go⟩).1⟩
 intro k10 Jk10 hk10 h
 obtain⟨hfk13,h⟩:=Ho h
 simp(disch:=omega) only[vm,seval,h.1]
 refine⟨AVd (σ:=(List UInt8)×(List (List UInt8))) (γ:=Unit) 0 (wr .i64 ((if(wr .i64 ((a0.length:Int)+1))<j3 then(wr .i64 ((a0.length:Int)+1))else j3)-1)) hfk13 (fun xs i s=>DR N a0 a1 a2 j3 k10 xs i s.1 s.2) (fun i s g=>[.str s.1,.int .i64 i]) (fun i s g=>(n6,List.map AVal.str s.2)::m) [11,34,35,36,37,38,39,40,41,42,43,44,45,46,47,48,49,50,51,52,53,54,55,56,57] [0,10] (a0,(List.replicate (if(wr .i64 ((a0.length:Int)+1))<j3 then(wr .i64 ((a0.length:Int)+1))else j3).toNat ([]:List UInt8))) () h tD tD ?_ ?_⟩<;>clear h
 rintro s10 ⟨s0,bn6⟩ _ nL0_1 hnL0_1 _ h
 change _∧DR N a0 a1 a2 j3 k10 0 s10 s0 bn6=_ at h
 rw[DR]at h
 refine BM (.q (.q (.r []) (.c .z .z)) (.q (.r []) (.q (.q (.r []) (.c .z .z)) (.q (.r []) (.q (.r []) (.r [])))))) ?_
 exact tJ (hk10 (s0,s10,bn6) ())
 rintro xsk13 s10 ⟨s0,bn6⟩ _ nL0_1 hnL0_1 _ h Jk13 hk13
 change _∧DR N a0 a1 a2 j3 k10 (xsk13+1) s10 s0 bn6=_ at h
 rw[DR]at h
 refine BM (.q (.q (.r []) (.c .z .z)) (.q (.r []) (.q (.q (.r []) (.c .z .z)) (.q (.r []) (.q (.r []) (.r [])))))) ?_
 obtain⟨y14,h⟩:=Cu h
 simp(disch:=omega) only[vm,seval,h.1]
 refine⟨Ue h.1.1 tD fun n15 hn15=>?_⟩
 rcases Ec h with h|h
 exact tJ (hk10 (s0,s10,bn6) ())
 obtain⟨x16,h⟩:=Cu h
 obtain⟨c,h⟩:=Ho h
 try simp only[liE,seval]at c
 replace h:=EY c h
 obtain⟨c,h⟩:=Ho h
 try simp only[liE,seval]at c
 replace h:=EY c h
 obtain⟨x17,h⟩:=Cu h
 exact tJ (hk13 (x17,(bn6.set s10.toNat x16)) ())
 intro k4 Jk4 hk4 h
 rcases Ec h with h|h
 obtain⟨y7,h⟩:=Cu h
 simp(disch:=omega) only[vm,seval,h.1]
 refine⟨Um h.1.1 tD fun n8 hn8=>?_⟩
 exact tJ (hk4 (wr .i64 (y7+1)) ())
 exact tJ (hk4 a3 ())
instance ALK {a0 a1 a2 a3}:CF vE (strings_genSplit N a0 a1 a2 a3) 261 [.str a0,.str a1,.int .i64 a2,.int .i64 a3] (fun r=>.slice 1 (List.map AVal.str r) false):=⟨fun h hQ=>RO h rfl hQ⟩
instance AY1 {a0 a1}:CF vE (I4 N a0 a1) 199 [.str a0,.int .u64 a1] (fun r=>.tuple [.int .u64 r.1,.int .i64 r.2]):=AP (I4.eq_1 ..) Tryz.func199 rfl Tryz.ntmps199 Tryz.results199
@[reducible, instance] def AVY {k s0} := LF.mk (X := I5 N k s0) (G := fun k (s : (List UInt8)) => I5 N k s) (s := s0) (js := [(2, 19)]) (cs := [0]) (V := fun s => [.str s]) (Ms := fun s => []) rfl (fun s => I5.eq_1 ..) (fun k s => I5.eq_2 ..)
instance AdE {a0}:CF vE (Tv N a0) 263 [.str a0] (fun r=>.bool r):=AP (Tv.eq_1 ..) Tryz.func263 rfl Tryz.ntmps263 Tryz.results263
instance AfQ {a0}:CF vE (V8 N a0) 236 [.str a0] (fun r=>.tuple [.str r.1,.str r.2.1,.int .i64 r.2.2]):=AP (V8.eq_1 ..) Tryz.func236 rfl Tryz.ntmps236 Tryz.results236 [(3,[],.stop)]
@[reducible, instance] def AFp {k17 xs s8 bn15} := LR.mk (X := EA N k17 xs s8 bn15) (G := fun xs i (s : (List Bool)) => EA N k17 xs i s) (i := s8) (s := bn15) (js := [(4, 1), (33, 11)]) (cs := [8]) (V := fun i s => [.int .i64 i]) (Ms := fun i s => [.s (List.map AVal.bool s)]) rfl (fun i s => EA.eq_1 ..) (fun x xs i s => EA.eq_2 ..)
@[reducible, instance] def AFs {a0 a1 k24 k s45} := LF.mk (X := EC N a0 a1 k24 k s45) (G := fun k (s : Nat) => EC N a0 a1 k24 k s) (s := s45) (js := [(4, 1), (9, 2), (46, 9)]) (cs := [45]) (V := fun s => [.iter a0 s]) (Ms := fun s => []) rfl (fun s => EC.eq_1 ..) (fun k s => EC.eq_2 ..)
instance AKj {a0 a1}:CF vE (strings_IndexAny N a0 a1) 168 [.str a0,.str a1] (fun r=>.int .i64 r):=AP (strings_IndexAny.eq_1 ..) Tryz.func168 rfl Tryz.ntmps168 Tryz.results168
@[reducible, instance] def AKU {a0 k2 k s4 s5} := LF.mk (X := Ef N a0 k2 k s4 s5) (G := fun k (s : (List Int) × Int) => Ef N a0 k2 k s.1 s.2) (s := (s4, s5)) (js := [(2, 2), (6, 3), (12, 26)]) (cs := [4, 5]) (V := fun s => [.slice 1 (List.map (AVal.int .u8) s.1) true, .int .i64 s.2]) (Ms := fun s => []) rfl (fun s => Ef.eq_1 ..) (fun k s => Ef.eq_2 ..)
instance APn {a0}:CF vE (FL N a0) 237 [.str a0] (fun r=>.tuple [.str r.1,.int .i64 r.2]):=AP (FL.eq_1 ..) Tryz.func237 rfl Tryz.ntmps237 Tryz.results237 [(14,[34],.done)]
@[reducible, instance] def AUA {k2 xs s3} := LQ.mk (X := H9 N k2 xs s3) (G := fun xs i (s : Bool) => H9 N k2 xs s) (s := s3) (js := [(2, 1), (4, 1), (8, 27)]) (cs := [3, 7]) (V := fun i s => [.bool s, .int .i64 i]) (Ms := fun i s => []) (fun _ => rfl) (fun i s => H9.eq_1 ..) (fun x xs i s => H9.eq_2 ..)
instance AcL {a0}:CF vE (Qj N a0) 238 [.str a0] (fun r=>.bool r):=AP (Qj.eq_1 ..) Tryz.func238 rfl Tryz.ntmps238 Tryz.results238 [(5,[],.stop),(9,[],.stop)]
theorem Tf {a0 r} (h:FR N a0=some r) (ha:args=[.str a0]) (hQ: ∀n',n≤n'→Gl (Q (.str r) ⟨m,n'⟩)):ACall vE 161 args ⟨m,n⟩ Q:=by
 rw[FR]at h
 subst ha
 refine ent hQ Tryz.func161 rfl Tryz.ntmps161 Tryz.results161 (.q (.r []) (.q (.r [7]) (.q .z (.q (.r []) .z)))) fun R hR=>?_
 replace h:=And.intro trivial h
 obtain⟨c,h⟩:=Ho h
 try simp only[liE,seval]at c
 replace h:=EY c h
 simp(disch:=omega) only[vm,seval,h.1,Ba,BS,Ep,Ak,Av,Am]
 refine⟨AGl (σ:=(List UInt8)×Nat×(List Int)) (γ:=Nat) (fun k s=>CE N k s.1 s.2.1 s.2.2) (fun s g=>[.str s.1,.gsl 1 g s.2.1]) (fun s g=>(g,List.map (AVal.int .u8) s.2.2)::m) [4,8,9,10,11,12,13,14,15,16,17,18,19,20,21,22,23,24,25,26,27,28,29,30,31,32,33,34,35,36,37,38,39,40,41,42,43,44,45,46,47,48,49,50,51,52,53,54,55,56,57,58,59,60,61,62,63,64,65,66,67] [0,3] (a0,(0:Int).toNat,(List.replicate (0:Int).toNat 0)) n h (fun _=>rfl) (by first|(simp(disch:=omega) only[vm,seval,h.1,Ba,BS,Ep,Ak,Av,Am];done)|rfl) (by first|(simp(disch:=omega) only[vm,seval,h.1,Ba,BS,Ep,Ak,Av,Am];done)|rfl) ?_⟩
 clear h
 rintro k1 ⟨s0,s3_len,bq3⟩ q3 nL0_1 hnL0_1 _ h Jk1 hk1
 change _∧CE N (k1+1) s0 s3_len bq3=_ at h
 rw[CE]at h
 refine BM (.q (.q (.r []) (.c .z .z)) (.q (.r []) (.c (.r []) (.q (.r []) (.c (.r []) (.q (.r []) (.c (.r []) (.q (.r []) (.c (.r []) .z))))))))) ?_
 rcases Ec h with h|h
 obtain⟨c,h⟩:=Ho h
 try simp only[liE,seval]at c
 replace h:=EY c h
 obtain⟨H,h⟩:=h
 cases h
 simp(disch:=omega) only[vm,seval,H,Ba,BS,Ep,Ak,Av,Am]
 refine⟨(hR _ _ _ _ _ _ (by simp(disch:=omega) only[vm,seval,H,Ba,BS,Ep,Ak,Av,Am];rfl) (.cons _ slr) ?_ (by omega) ?_).1⟩<;>first|(simp(disch:=omega) only[vm,seval,H,Ba,BS,Ep,Ak,Av,Am];done)|rfl
 obtain⟨y2,h⟩:=Cu h
 simp(disch:=omega) only[vm,seval,h.1,Ba,BS,Ep,Ak,Av,Am]
 refine⟨Gh h.1.1 (by first|(simp(disch:=omega) only[vm,seval,h.1,Ba,BS,Ep,Ak,Av,Am];done)|rfl) fun n3 hn3=>?_⟩
 rcases Ec h with h|h
 obtain⟨x4,h⟩:=Cu h
 simp(disch:=omega) only[vm,seval,h.1,Ba,BS,Ep,Ak,Av,Am]
 refine⟨hk1 (x4,s3_len,bq3) q3 _ _ _ _ h.2 slr ?_ ?_ ?_ (by omega)⟩<;>first|(simp(disch:=omega) only[vm,seval,h.1,Ba,BS,Ep,Ak,Av,Am];done)|rfl
 obtain⟨y5,h⟩:=Cu h
 simp(disch:=omega) only[vm,seval,h.1,Ba,BS,Ep,Ak,Av,Am]
 refine⟨Gh h.1.1 (by first|(simp(disch:=omega) only[vm,seval,h.1,Ba,BS,Ep,Ak,Av,Am];done)|rfl) fun n6 hn6=>?_⟩
 rcases Ec h with h|h
 obtain⟨x7,h⟩:=Cu h
 simp(disch:=omega) only[vm,seval,h.1,Ba,BS,Ep,Ak,Av,Am]
 refine⟨hk1 (x7,s3_len,bq3) q3 _ _ _ _ h.2 slr ?_ ?_ ?_ (by omega)⟩<;>first|(simp(disch:=omega) only[vm,seval,h.1,Ba,BS,Ep,Ak,Av,Am];done)|rfl
 obtain⟨y8,h⟩:=Cu h
 simp(disch:=omega) only[vm,seval,h.1,Ba,BS,Ep,Ak,Av,Am]
 refine⟨Gh h.1.1 (by first|(simp(disch:=omega) only[vm,seval,h.1,Ba,BS,Ep,Ak,Av,Am];done)|rfl) fun n9 hn9=>?_⟩
 rcases Ec h with h|h
 obtain⟨x10,h⟩:=Cu h
 simp(disch:=omega) only[vm,seval,h.1,Ba,BS,Ep,Ak,Av,Am]
 refine⟨hk1 (x10,s3_len,bq3) q3 _ _ _ _ h.2 slr ?_ ?_ ?_ (by omega)⟩<;>first|(simp(disch:=omega) only[vm,seval,h.1,Ba,BS,Ep,Ak,Av,Am];done)|rfl
 rcases Ec h with h|h
 simp(disch:=omega) only[vm,seval,h.1,Ba,BS,Ep,Ak,Av,Am]
 refine⟨hk1 (([47]:List UInt8),s3_len,bq3) q3 _ _ _ _ h.2 slr ?_ ?_ ?_ (by omega)⟩<;>first|(simp(disch:=omega) only[vm,seval,h.1,Ba,BS,Ep,Ak,Av,Am];done)|rfl
 simp(disch:=omega) only[vm,seval,h.1,Ba,BS,Ep,Ak,Av,Am]
 refine⟨MQ (γ:=Unit) h [45,46,47,48,49,50] [44] (fun j11 g=>[.bool j11]) (fun j11 g=>(q3,List.map (AVal.int .u8) bq3)::m) (.r []) ?_ ?_⟩<;>clear h
 rintro j11 _ n14 hnn14 _ _ h
 refine BM (.c (.q (.r []) (.r [])) .z) ?_
 rcases Ec h with h|h
 obtain⟨x17,h⟩:=Cu h
 obtain⟨y18,h⟩:=Cu h
 simp(disch:=omega) only[vm,seval,h.1,Ba,BS,Ep,Ak,Av,Am]
 refine⟨PT h.1.1 (by first|(simp(disch:=omega) only[vm,seval,h.1,Ba,BS,Ep,Ak,Av,Am];done)|rfl) fun n19 hn19=>?_⟩
 obtain⟨c,h⟩:=Ho h
 try simp only[liE,seval]at c
 replace h:=EY c h
 obtain⟨c,h⟩:=Ho h
 try simp only[liE,seval]at c
 replace h:=EY c h
 obtain⟨y20,h⟩:=Cu h
 simp(disch:=omega) only[vm,seval,h.1,Ba,BS,Ep,Ak,Av,Am]
 refine⟨NT h.1.1 (by first|(simp(disch:=omega) only[vm,seval,h.1,Ba,BS,Ep,Ak,Av,Am];done)|rfl) fun n21 hn21=>?_⟩
 obtain⟨c,h⟩:=Ho h
 try simp only[liE,seval]at c
 replace h:=EY c h
 simp(disch:=omega) only[vm,seval,h.1,Ba,BS,Ep,Ak,Av,Am]
 refine⟨hk1 ((([47]:List UInt8)++y18),(if y20>0 then y20 else 0).toNat,bq3) q3 _ _ _ _ h.2 slr ?_ ?_ ?_ (by omega)⟩<;>first|(simp(disch:=omega) only[vm,seval,h.1,Ba,BS,Ep,Ak,Av,Am];done)|rfl
 simp(disch:=omega) only[vm,seval,h.1,Ba,BS,Ep,Ak,Av,Am]
 refine⟨MQ (γ:=Unit) h [62,63,64,65,66,67] [61] (fun j22 g=>[.bool j22]) (fun j22 g=>(q3,List.map (AVal.int .u8) bq3)::m) (.r []) ?_ ?_⟩<;>clear h
 rintro j22 _ n25 hnn25 _ _ h
 refine BM (.c (.r []) (.q (.r []) .z)) ?_
 rcases Ec h with h|h
 simp(disch:=omega) only[vm,seval,h.1,Ba,BS,Ep,Ak,Av,Am]
 refine⟨hk1 ([],s3_len,bq3) q3 _ _ _ _ h.2 slr ?_ ?_ ?_ (by omega)⟩<;>first|(simp(disch:=omega) only[vm,seval,h.1,Ba,BS,Ep,Ak,Av,Am];done)|rfl
 obtain⟨x26,h⟩:=Cu h
 obtain⟨y27,h⟩:=Cu h
 simp(disch:=omega) only[vm,seval,h.1,Ba,BS,Ep,Ak,Av,Am]
 refine⟨QJ h.1.1 (by first|(simp(disch:=omega) only[vm,seval,h.1,Ba,BS,Ep,Ak,Av,Am];done)|rfl) fun n28 hn28=>?_⟩
 simp(disch:=omega) only[vm,seval,h.1,Ba,BS,Ep,Ak,Av,Am]
 refine⟨MQ (γ:=Unit) h [14,15,16,17] [4] (fun j29 g=>[.int .i64 j29]) (fun j29 g=>(q3,List.map (AVal.int .u8) bq3)::m) (.q (.r []) (.c (.r []) .z)) ?_ ?_⟩<;>clear h
 rintro j29 _ n32 hnn32 _ _ h
 refine BM (.q (.r [18]) (.r [])) ?_
 obtain⟨x33,h⟩:=Cu h
 obtain⟨c,h⟩:=Ho h
 try simp only[liE,seval]at c
 replace h:=EY c h
 simp(disch:=omega) only[vm,seval,h.1,Ba,BS,Ep,Ak,Av,Am]
 refine⟨AcR fun i34 hi34=>Gl.go ?_⟩
 obtain⟨x35,h⟩:=Cu h
 simp(disch:=omega) only[vm,seval,h.1,Ba,BS,Ep,Ak,Av,Am]
 refine⟨hk1 (x35,(s3_len+x33.length),(List.take s3_len bq3++List.map AY x33)) i34 _ _ _ _ h.2 slr ?_ ?_ ?_ (by omega)⟩<;>first|(simp(disch:=omega) only[vm,seval,h.1,Ba,BS,Ep,Ak,Av,Am];done)|rfl
 intro k30 Jk30 hk30 h
 rcases Ec h with h|h
 simp(disch:=omega) only[vm,seval,h.1,Ba,BS,Ep,Ak,Av,Am]
 refine⟨hk30 (s0.length:Int) () _ _ _ _ h.2 slr ?_ ?_ ?_ (by omega)⟩<;>first|(simp(disch:=omega) only[vm,seval,h.1,Ba,BS,Ep,Ak,Av,Am];done)|rfl
 simp(disch:=omega) only[vm,seval,h.1,Ba,BS,Ep,Ak,Av,Am]
 refine⟨hk30 (wr .i64 (1+y27)) () _ _ _ _ h.2 slr ?_ ?_ ?_ (by omega)⟩<;>first|(simp(disch:=omega) only[vm,seval,h.1,Ba,BS,Ep,Ak,Av,Am];done)|rfl
 intro k23 Jk23 hk23 h
 rcases Ec h with h|h
 simp(disch:=omega) only[vm,seval,h.1,Ba,BS,Ep,Ak,Av,Am]
 refine⟨hk23 true () _ _ _ _ h.2 slr ?_ ?_ ?_ (by omega)⟩<;>first|(simp(disch:=omega) only[vm,seval,h.1,Ba,BS,Ep,Ak,Av,Am];done)|rfl
 simp(disch:=omega) only[vm,seval,h.1,Ba,BS,Ep,Ak,Av,Am]
 refine⟨hk23 (s0==([46,46]:List UInt8)) () _ _ _ _ h.2 slr ?_ ?_ ?_ (by omega)⟩<;>first|(simp(disch:=omega) only[vm,seval,h.1,Ba,BS,Ep,Ak,Av,Am];done)|rfl
 intro k12 Jk12 hk12 h
 obtain⟨y15,h⟩:=Cu h
 simp(disch:=omega) only[vm,seval,h.1,Ba,BS,Ep,Ak,Av,Am]
 refine⟨Gh h.1.1 (by first|(simp(disch:=omega) only[vm,seval,h.1,Ba,BS,Ep,Ak,Av,Am];done)|rfl) fun n16 hn16=>?_⟩
 rcases Ec h with h|h
 simp(disch:=omega) only[vm,seval,h.1,Ba,BS,Ep,Ak,Av,Am]
 refine⟨hk12 true () _ _ _ _ h.2 slr ?_ ?_ ?_ (by omega)⟩<;>first|(simp(disch:=omega) only[vm,seval,h.1,Ba,BS,Ep,Ak,Av,Am];done)|rfl
 simp(disch:=omega) only[vm,seval,h.1,Ba,BS,Ep,Ak,Av,Am]
 refine⟨hk12 (s0==([47,46,46]:List UInt8)) () _ _ _ _ h.2 slr ?_ ?_ ?_ (by omega)⟩<;>first|(simp(disch:=omega) only[vm,seval,h.1,Ba,BS,Ep,Ak,Av,Am];done)|rfl
instance APJ {a0}:CF vE (FR N a0) 161 [.str a0] (fun r=>.str r):=⟨fun h hQ=>Tf h rfl hQ⟩
@[reducible, instance] def AGQ {a0 a1 a2 k18 k s11 bn8_addr bn8_buf} := LU.mk (X := EL N a0 a1 a2 k18 k s11 bn8_addr bn8_buf) (G := fun k i (s : Int × Bool × (List UInt8)) => EL N a0 a1 a2 k18 k s.1 s.2.1 s.2.2) (k := k) (s := (s11, bn8_addr, bn8_buf)) (js := [(12, 1), (54, 20)]) (cs := [11, 53]) (V := fun i s => [.int .i64 s.1, .int .i64 i]) (Ms := fun i s => [.t (fun q => [EE q 222 2 s.2.1, .buf 5 s.2.2 true])]) (fun _ => rfl) (fun i s => EL.eq_1 ..) (fun k i s => EL.eq_2 ..)
@[reducible, instance] def AHW {a0 a2 k18 k s11 bn8} := LU.mk (X := ES N a0 a2 k18 k s11 bn8) (G := fun k i (s : Int × StringsBuilder) => ES N a0 a2 k18 k s.1 s.2) (k := k) (s := (s11, bn8)) (js := [(13, 3), (79, 20)]) (cs := [11, 78]) (V := fun i s => [.int .i64 s.1, .int .i64 i]) (Ms := fun i s => [.t (fun q => [EE q 222 2 s.2.addr, .buf 5 s.2.buf true])]) (fun _ => rfl) (fun i s => ES.eq_1 ..) (fun k i s => ES.eq_2 ..)
instance AN6 {a0 a1 a2 a3}:CF vE (strings_Replace N a0 a1 a2 a3) 301 [.str a0,.str a1,.str a2,.int .i64 a3] (fun r=>.str r):=AP (strings_Replace.eq_1 ..) Tryz.func301 rfl Tryz.ntmps301 Tryz.results301 [(1,[],.stop),(6,[],.stop),(8,[10],.done)]
instance AV0 {a0}:CF vE (GD N a0) 15 [Aa a0] (fun r=>.str r):=AP (GD.eq_1 ..) Tryz.func15 rfl Tryz.ntmps15 Tryz.results15 [(1,[],.take 0 (.take 4 (.alt 1 [4] (.alt 2 [4,0] (.take 3 (.alt 5 [3,0] (.take 6 (.alt 7 [] (.done) (.stop))) (.stop))) (.stop)) (.stop))))]
@[reducible, instance] def AI1 {a0 a1 k2 k s6 s7} := LF.mk (X := EW N a0 a1 k2 k s6 s7) (G := fun k (s : (List Int) × Int) => EW N a0 a1 k2 k s.1 s.2) (s := (s6, s7)) (js := [(4, 2), (8, 2), (13, 49)]) (cs := [6, 7]) (V := fun s => [.slice 1 (List.map (AVal.int .u8) s.1) true, .int .i64 s.2]) (Ms := fun s => []) rfl (fun s => EW.eq_1 ..) (fun k s => EW.eq_2 ..)
instance AOK {a0 a1}:CF vE (Fx N a0 a1) 71 [.str a0,.str a1] (fun r=>.tuple [.str r.1,.int .i64 r.2]):=AP (Fx.eq_1 ..) Tryz.func71 rfl Tryz.ntmps71 Tryz.results71 [(8,[],.stop),(10,[36],.done),(15,[52],.done),(16,[56],.done)]
instance AUa {a0 a1}:CF vE (Le N a0 a1) 119 [.str a0,.int .u64 a1] (fun r=>.tuple [.int .u64 r.1,.int .i64 r.2]):=AP (Le.eq_1 ..) Tryz.func119 rfl Tryz.ntmps119 Tryz.results119 [(2,[],.stop)]
@[reducible, instance] def AOL {a0 k2 k s4 s5} := LF.mk (X := F6 N a0 k2 k s4 s5) (G := fun k (s : (List Int) × Int) => F6 N a0 k2 k s.1 s.2) (s := (s4, s5)) (js := [(2, 2), (6, 3), (12, 26)]) (cs := [4, 5]) (V := fun s => [.slice 1 (List.map (AVal.int .u8) s.1) true, .int .i64 s.2]) (Ms := fun s => []) rfl (fun s => F6.eq_1 ..) (fun k s => F6.eq_2 ..)
instance AWY {a0}:CF vE (GM N a0) 73 [.str a0] (fun r=>.tuple [.str r.1,.int .i64 r.2]):=AP (GM.eq_1 ..) Tryz.func73 rfl Tryz.ntmps73 Tryz.results73 [(13,[34],.done)]
end Go.Proofs.YtcahkpfjpeomoaaGreatDoor
