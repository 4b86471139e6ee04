import Derived.Test.YtfcejbjjeaaleaaGreatDoorW9
import Derived.Test.YtfcejbjjeaaleaaGreatDoorW11
set_option linter.unusedVariables false
set_option linter.unusedSimpArgs false
set_option maxHeartbeats 4000000
set_option maxRecDepth 100000
set_option linter.defProp false
namespace Go.Proofs.YtfcejbjjeaaleaaGreatDoor
open Go.VM
attribute [local irreducible] AB grd letL
variable{N n:Nat}{m:MS}{Q:PQ}{args:List AVal}
instance ArV {a0}:CF vE (Xp N a0) 241 [.str a0] (λr=>.tuple [.str r.1,.str r.2.1,.int .i64 r.2.2]):=AX (Xp.eq_1 ..) Tryz.func241 rfl Tryz.ntmps241 Tryz.results241 [(3,[],.stop)]
instance ASa {a0}:CF vE (EF N a0) 74 [.int .u8 a0] (λr=>.bool r):=AX (EF.eq_1 ..) Tryz.func74 rfl Tryz.ntmps74 Tryz.results74 [(1,[],.stop)]
def WZ {a0 a1 a2 a3 r} (h:strings_genSplit N a0 a1 a2 a3=some r) (ha:args=[.str a0,.str a1,.int .i64 a2,.int .i64 a3]) (hQ: ∀n',n<=n'->Gl (Q (.slice 1 (List.map AVal.str r) false) ⟨m,n'⟩)):ACall vE 308 args ⟨m,n⟩ Q:=by
 rw[strings_genSplit]at h;subst ha;refine ACall.give (AeV Tryz.func308 rfl Tryz.ntmps308 Tryz.results308 (.q (.r []) (.q (.q (.r []) (.c (.q (.r []) .z) .z)) (.q (.q (.r []) (.c (.q (.r []) .z) .z)) .z))) (λR hR=>?_));replace h:=ac trivial h;rcases KA h with h|h;cases h.2;rcases KA h with h|h;obtain⟨y1,h⟩:=Fx h;simp(disch:= omega) only[vm,seval,h.1];refine⟨Yf h.1.1 tD λn2 hn2=>?_⟩;cases h.2;simp(disch:= omega) only[vm,seval,h.1];refine⟨Ra (γ:=Unit) h [19,20,21,22,23,24] [3] (λj3 g=>[.int .i64 j3]) (λj3 g=>m) (.q (.r []) (.c (.r []) .z)) ?_ ?_⟩<;>clear h;rintro j3 _ n6 hnn6 _ _ h;refine EZ (.q (.r []) (.q (.r []) (.q (.r []) (.q (.r []) .z)))) ?_;obtain⟨c,h⟩:=Ll h;try simp only[liE,seval]at c
 replace h:=JK c h;simp(disch:= omega) only[vm,seval,h.1];refine⟨Ra (γ:=Unit) h [11,34,35,36,37,38,39,40,41,42,43,44,45,46,47,48,49,50,51,52,53,54,55,56,57] [0,10] (λj9 g=>[.str j9.1,.int .i64 j9.2.1]) (λj9 g=>(n6,List.map AVal.str j9.2.2)::m) .z ?_ ?_⟩<;>clear h;rintro j9 _ n12 hnn12 _ _ h;refine EZ (.q (.r []) (.q (.r []) .z)) ?_;obtain⟨c,h⟩:=Ll h;try simp only[liE,seval]at c
 replace h:=JK c h;obtain⟨c,h⟩:=Ll h;try simp only[liE,seval]at c
 replace h:=JK c h;obtain⟨c,h⟩:=Ll h;try simp only[liE,seval]at c
 replace h:=JK c h;obtain⟨cg,h⟩:=Ll h;obtain⟨H,h⟩:=h;cases h;simp(disch:= omega) only[vm,seval,H];refine⟨(hR _ _ _ _ _ _ (by simp(disch:= omega) only[vm,seval,H];rfl) slr fG ⟨[_],_,_,rfl,Abs (l:=(j9.2.2.set j9.2.1.toNat j9.1)) (by simpa only[cp]using cg),rfl,(hQ _ (by first| omega| (dsimp only;omega))).go⟩).1⟩;intro k10 Jk10 hk10 h;obtain⟨hfk13,h⟩:=Ll h;simp(disch:= omega) only[vm,seval,h.1];refine⟨Ahq (σ:=(B8)×(List B8)) (γ:=Unit) 0 (wr .i64 ((if(wr .i64 ((a0.length:Int)+1))<j3 then(wr .i64 ((a0.length:Int)+1))else j3)-1)) hfk13 (λxs i s=>Cv N a0 a1 a2 j3 k10 xs i s.1 s.2) (λi s g=>[.str s.1,.int .i64 i]) (λi s g=>(n6,List.map AVal.str s.2)::m) [11,34,35,36,37,38,39,40,41,42,43,44,45,46,47,48,49,50,51,52,53,54,55,56,57] [0,10] (a0,(List.replicate (if(wr .i64 ((a0.length:Int)+1))<j3 then(wr .i64 ((a0.length:Int)+1))else j3).toNat ([]:B8))) () h tD tD ?_ ?_⟩<;>clear h;rintro s10 ⟨s0,bn6⟩ _ nL0_1 hnL0_1 _ h;change _/\Cv N a0 a1 a2 j3 k10 0 s10 s0 bn6=_ at h;rw[Cv]at h;refine EZ (.q (.q (.r []) (.c .z .z)) (.q (.r []) (.q (.q (.r []) (.c .z .z)) (.q (.r []) (.q (.r []) (.r [])))))) ?_;exact tJ (hk10 (s0,s10,bn6) ());rintro xsk13 s10 ⟨s0,bn6⟩ _ nL0_1 hnL0_1 _ h Jk13 hk13;change _/\Cv N a0 a1 a2 j3 k10 (xsk13+1) s10 s0 bn6=_ at h;rw[Cv]at h;refine EZ (.q (.q (.r []) (.c .z .z)) (.q (.r []) (.q (.q (.r []) (.c .z .z)) (.q (.r []) (.q (.r []) (.r [])))))) ?_;obtain⟨y14,h⟩:=Fx h;simp(disch:= omega) only[vm,seval,h.1];refine⟨AA7 h.1.1 tD λn15 hn15=>?_⟩;rcases KA h with h|h;exact tJ (hk10 (s0,s10,bn6) ());obtain⟨x16,h⟩:=Fx h;obtain⟨c,h⟩:=Ll h;try simp only[liE,seval]at c
 replace h:=JK c h;obtain⟨c,h⟩:=Ll h;try simp only[liE,seval]at c
 replace h:=JK c h;obtain⟨x17,h⟩:=Fx h;exact tJ (hk13 (x17,(bn6.set s10.toNat x16)) ());intro k4 Jk4 hk4 h;rcases KA h with h|h;obtain⟨y7,h⟩:=Fx h;simp(disch:= omega) only[vm,seval,h.1];refine⟨AA5 h.1.1 tD λn8 hn8=>?_⟩;exact tJ (hk4 (wr .i64 (y7+1)) ());exact tJ (hk4 a3 ())
instance AV4 {a0 a1 a2 a3}:CF vE (strings_genSplit N a0 a1 a2 a3) 308 [.str a0,.str a1,.int .i64 a2,.int .i64 a3] (λr=>.slice 1 (List.map AVal.str r) false):=⟨λh hQ=>WZ h rfl hQ⟩
instance Ah0 {a0 a1}:CF vE (Kv N a0 a1) 115 [.str a0,.int .u64 a1] (λr=>.tuple [.int .u64 r.1,.int .i64 r.2]):=AX (Kv.eq_1 ..) Tryz.func115 rfl Tryz.ntmps115 Tryz.results115
@[reducible,instance] def Ahc {k s0} := LF.mk (X := Jt N k s0) (G := λk (s : B8) => Jt N k s) (s := s0) (js := [(2, 19)]) (cs := [0]) (V := λs => [.str s]) (Ms := λs => []) rfl (λs => Jt.eq_1 ..) (λk s => Jt.eq_2 ..)
instance Aov {a0}:CF vE (VL N a0) 275 [.str a0] (λr=>.bool r):=AX (VL.eq_1 ..) Tryz.func275 rfl Tryz.ntmps275 Tryz.results275
@[reducible,instance] def ANt {k17 xs s8 AOw} := LR.mk (X := Dh N k17 xs s8 AOw) (G := λxs i (s : (List Bool)) => Dh N k17 xs i s) (i := s8) (s := AOw) (js := [(4, 1), (33, 11)]) (cs := [8]) (V := λi s => [.int .i64 i]) (Ms := λi s => [.s (List.map AVal.bool s)]) rfl (λi s => Dh.eq_1 ..) (λx xs i s => Dh.eq_2 ..)
@[reducible,instance] def ANq {a0 a1 k24 k s45} := LF.mk (X := CY N a0 a1 k24 k s45) (G := λk (s : Nat) => CY N a0 a1 k24 k s) (s := s45) (js := [(4, 1), (9, 2), (46, 9)]) (cs := [45]) (V := λs => [.iter a0 s]) (Ms := λs => []) rfl (λs => CY.eq_1 ..) (λk s => CY.eq_2 ..)
instance AUe {a0 a1}:CF vE (strings_IndexAny N a0 a1) 276 [.str a0,.str a1] (λr=>.int .i64 r):=AX (strings_IndexAny.eq_1 ..) Tryz.func276 rfl Tryz.ntmps276 Tryz.results276
@[reducible,instance] def ATC {a0 k2 k s4 s5} := LF.mk (X := Ef N a0 k2 k s4 s5) (G := λk (s : (List Int) × Int) => Ef N a0 k2 k s.1 s.2) (s := (s4, s5)) (js := [(2, 2), (6, 3), (12, 26)]) (cs := [4, 5]) (V := λs => [.slice 1 (List.map (AVal.int .u8) s.1) true, .int .i64 s.2]) (Ms := λs => []) rfl (λs => Ef.eq_1 ..) (λk s => Ef.eq_2 ..)
instance Aax {a0}:CF vE (GM N a0) 245 [.str a0] (λr=>.tuple [.str r.1,.int .i64 r.2]):=AX (GM.eq_1 ..) Tryz.func245 rfl Tryz.ntmps245 Tryz.results245 [(14,[34],.done)]
@[reducible,instance] def AdG {k2 xs s3} := LQ.mk (X := Ht N k2 xs s3) (G := λxs i (s : Bool) => Ht N k2 xs s) (s := s3) (js := [(2, 1), (4, 1), (8, 27)]) (cs := [3, 7]) (V := λi s => [.bool s, .int .i64 i]) (Ms := λi s => []) (λ_ => rfl) (λi s => Ht.eq_1 ..) (λx xs i s => Ht.eq_2 ..)
instance Ant {a0}:CF vE (Qe N a0) 246 [.str a0] (λr=>.bool r):=AX (Qe.eq_1 ..) Tryz.func246 rfl Tryz.ntmps246 Tryz.results246 [(5,[],.stop),(9,[],.stop)]
def ZF {a0 r} (h:JJ N a0=some r) (ha:args=[.str a0]) (hQ: ∀n',n<=n'->Gl (Q (.str r) ⟨m,n'⟩)):ACall vE 251 args ⟨m,n⟩ Q:=by
 rw[JJ]at h
 subst ha
 refine ent hQ Tryz.func251 rfl Tryz.ntmps251 Tryz.results251 (.q (.r []) (.q (.r [7]) (.q .z (.q (.r []) .z)))) λR hR=>?_
 replace h:=ac trivial h
 obtain⟨c,h⟩:=Ll h
 try simp only[liE,seval]at c
 replace h:=JK c h
 simp(disch:=omega) only[vm,seval,h.1,CZ,CL,Ij,Au,BU,Av]
 refine⟨ARo (σ:=(B8)×Nat×(List Int)) (γ:=Nat) (λk s=>Ar N k s.1 s.2.1 s.2.2) (λs g=>[.str s.1,.gsl 1 g s.2.1]) (λs g=>(g,List.map (AVal.int .u8) s.2.2)::m) [4,8,9,10,11,12,13,14,15,16,17,18,19,20,21,22,23,24,25,26,27,28,29,30,31,32,33,34,35,36,37,38,39,40,41,42,43,44,45,46,47,48,49,50,51,52,53,54,55,56,57,58,59,60,61,62,63,64,65,66,67] [0,3] (a0,(0:Int).toNat,(List.replicate (0:Int).toNat 0)) n h (λ_=>rfl) (by first|(simp(disch:=omega) only[vm,seval,h.1,CZ,CL,Ij,Au,BU,Av];done)|rfl) (by first|(simp(disch:=omega) only[vm,seval,h.1,CZ,CL,Ij,Au,BU,Av];done)|rfl) ?_⟩
 clear h
 rintro k1 ⟨s0,s3_len,bq3⟩ q3 nL0_1 hnL0_1 _ h Jk1 hk1
 change _/\Ar N (k1+1) s0 s3_len bq3=_ at h
 rw[Ar]at h
 refine EZ (.q (.q (.r []) (.c .z .z)) (.q (.r []) (.c (.r []) (.q (.r []) (.c (.r []) (.q (.r []) (.c (.r []) (.q (.r []) (.c (.r []) .z))))))))) ?_
 rcases KA h with h|h
 obtain⟨c,h⟩:=Ll h
 try simp only[liE,seval]at c
 replace h:=JK c h
 obtain⟨H,h⟩:=h
 cases h
 simp(disch:=omega) only[vm,seval,H,CZ,CL,Ij,Au,BU,Av]
 refine⟨(hR _ _ _ _ _ _ (by simp(disch:=omega) only[vm,seval,H,CZ,CL,Ij,Au,BU,Av];rfl) (.cons _ slr) ?_ fG ?_).1⟩<;>first|(simp(disch:=omega) only[vm,seval,H,CZ,CL,Ij,Au,BU,Av];done)|rfl
 obtain⟨y2,h⟩:=Fx h
 simp(disch:=omega) only[vm,seval,h.1,CZ,CL,Ij,Au,BU,Av]
 refine⟨KD h.1.1 (by first|(simp(disch:=omega) only[vm,seval,h.1,CZ,CL,Ij,Au,BU,Av];done)|rfl) λn3 hn3=>?_⟩
 rcases KA h with h|h
 obtain⟨x4,h⟩:=Fx h
 simp(disch:=omega) only[vm,seval,h.1,CZ,CL,Ij,Au,BU,Av]
 refine⟨hk1 (x4,s3_len,bq3) q3 _ _ _ _ h.2 slr ?_ ?_ ?_ fG⟩<;>first|(simp(disch:=omega) only[vm,seval,h.1,CZ,CL,Ij,Au,BU,Av];done)|rfl
 obtain⟨y5,h⟩:=Fx h
 simp(disch:=omega) only[vm,seval,h.1,CZ,CL,Ij,Au,BU,Av]
 refine⟨KD h.1.1 (by first|(simp(disch:=omega) only[vm,seval,h.1,CZ,CL,Ij,Au,BU,Av];done)|rfl) λn6 hn6=>?_⟩
 rcases KA h with h|h
 obtain⟨x7,h⟩:=Fx h
 simp(disch:=omega) only[vm,seval,h.1,CZ,CL,Ij,Au,BU,Av]
 refine⟨hk1 (x7,s3_len,bq3) q3 _ _ _ _ h.2 slr ?_ ?_ ?_ fG⟩<;>first|(simp(disch:=omega) only[vm,seval,h.1,CZ,CL,Ij,Au,BU,Av];done)|rfl
 obtain⟨y8,h⟩:=Fx h
 simp(disch:=omega) only[vm,seval,h.1,CZ,CL,Ij,Au,BU,Av]
 refine⟨KD h.1.1 (by first|(simp(disch:=omega) only[vm,seval,h.1,CZ,CL,Ij,Au,BU,Av];done)|rfl) λn9 hn9=>?_⟩
 rcases KA h with h|h
 obtain⟨x10,h⟩:=Fx h
 simp(disch:=omega) only[vm,seval,h.1,CZ,CL,Ij,Au,BU,Av]
 refine⟨hk1 (x10,s3_len,bq3) q3 _ _ _ _ h.2 slr ?_ ?_ ?_ fG⟩<;>first|(simp(disch:=omega) only[vm,seval,h.1,CZ,CL,Ij,Au,BU,Av];done)|rfl
 rcases KA h with h|h
 simp(disch:=omega) only[vm,seval,h.1,CZ,CL,Ij,Au,BU,Av]
 refine⟨hk1 (([47]:B8),s3_len,bq3) q3 _ _ _ _ h.2 slr ?_ ?_ ?_ fG⟩<;>first|(simp(disch:=omega) only[vm,seval,h.1,CZ,CL,Ij,Au,BU,Av];done)|rfl
 simp(disch:=omega) only[vm,seval,h.1,CZ,CL,Ij,Au,BU,Av]
 refine⟨Ra (γ:=Unit) h [45,46,47,48,49,50] [44] (λj11 g=>[.bool j11]) (λj11 g=>(q3,List.map (AVal.int .u8) bq3)::m) (.r []) ?_ ?_⟩<;>clear h
 rintro j11 _ n14 hnn14 _ _ h
 refine EZ (.c (.q (.r []) (.r [])) .z) ?_
 rcases KA h with h|h
 obtain⟨x17,h⟩:=Fx h
 obtain⟨y18,h⟩:=Fx h
 simp(disch:=omega) only[vm,seval,h.1,CZ,CL,Ij,Au,BU,Av]
 refine⟨UG h.1.1 (by first|(simp(disch:=omega) only[vm,seval,h.1,CZ,CL,Ij,Au,BU,Av];done)|rfl) λn19 hn19=>?_⟩
 obtain⟨c,h⟩:=Ll h
 try simp only[liE,seval]at c
 replace h:=JK c h
 obtain⟨c,h⟩:=Ll h
 try simp only[liE,seval]at c
 replace h:=JK c h
 obtain⟨y20,h⟩:=Fx h
 simp(disch:=omega) only[vm,seval,h.1,CZ,CL,Ij,Au,BU,Av]
 refine⟨Sg h.1.1 (by first|(simp(disch:=omega) only[vm,seval,h.1,CZ,CL,Ij,Au,BU,Av];done)|rfl) λn21 hn21=>?_⟩
 obtain⟨c,h⟩:=Ll h
 try simp only[liE,seval]at c
 replace h:=JK c h
 simp(disch:=omega) only[vm,seval,h.1,CZ,CL,Ij,Au,BU,Av]
 refine⟨hk1 ((([47]:B8)++y18),(if y20>0 then y20 else 0).toNat,bq3) q3 _ _ _ _ h.2 slr ?_ ?_ ?_ fG⟩<;>first|(simp(disch:=omega) only[vm,seval,h.1,CZ,CL,Ij,Au,BU,Av];done)|rfl
 simp(disch:=omega) only[vm,seval,h.1,CZ,CL,Ij,Au,BU,Av]
 refine⟨Ra (γ:=Unit) h [62,63,64,65,66,67] [61] (λj22 g=>[.bool j22]) (λj22 g=>(q3,List.map (AVal.int .u8) bq3)::m) (.r []) ?_ ?_⟩<;>clear h
 rintro j22 _ n25 hnn25 _ _ h
 refine EZ (.c (.r []) (.q (.r []) .z)) ?_
 rcases KA h with h|h
 simp(disch:=omega) only[vm,seval,h.1,CZ,CL,Ij,Au,BU,Av]
 refine⟨hk1 ([],s3_len,bq3) q3 _ _ _ _ h.2 slr ?_ ?_ ?_ fG⟩<;>first|(simp(disch:=omega) only[vm,seval,h.1,CZ,CL,Ij,Au,BU,Av];done)|rfl
 obtain⟨x26,h⟩:=Fx h
 obtain⟨y27,h⟩:=Fx h
 simp(disch:=omega) only[vm,seval,h.1,CZ,CL,Ij,Au,BU,Av]
 refine⟨Vq h.1.1 (by first|(simp(disch:=omega) only[vm,seval,h.1,CZ,CL,Ij,Au,BU,Av];done)|rfl) λn28 hn28=>?_⟩
 simp(disch:=omega) only[vm,seval,h.1,CZ,CL,Ij,Au,BU,Av]
 refine⟨Ra (γ:=Unit) h [14,15,16,17] [4] (λj29 g=>[.int .i64 j29]) (λj29 g=>(q3,List.map (AVal.int .u8) bq3)::m) (.q (.r []) (.c (.r []) .z)) ?_ ?_⟩<;>clear h
 rintro j29 _ n32 hnn32 _ _ h
 refine EZ (.q (.r [18]) (.r [])) ?_
 obtain⟨x33,h⟩:=Fx h
 obtain⟨c,h⟩:=Ll h
 try simp only[liE,seval]at c
 replace h:=JK c h
 simp(disch:=omega) only[vm,seval,h.1,CZ,CL,Ij,Au,BU,Av]
 refine⟨AmW λi34 hi34=>Gl.go ?_⟩
 obtain⟨x35,h⟩:=Fx h
 simp(disch:=omega) only[vm,seval,h.1,CZ,CL,Ij,Au,BU,Av]
 refine⟨hk1 (x35,(s3_len+x33.length),(List.take s3_len bq3++List.map AC x33)) i34 _ _ _ _ h.2 slr ?_ ?_ ?_ fG⟩<;>first|(simp(disch:=omega) only[vm,seval,h.1,CZ,CL,Ij,Au,BU,Av];done)|rfl
 intro k30 Jk30 hk30 h
 rcases KA h with h|h
 simp(disch:=omega) only[vm,seval,h.1,CZ,CL,Ij,Au,BU,Av]
 refine⟨hk30 (s0.length:Int) () _ _ _ _ h.2 slr ?_ ?_ ?_ fG⟩<;>first|(simp(disch:=omega) only[vm,seval,h.1,CZ,CL,Ij,Au,BU,Av];done)|rfl
 simp(disch:=omega) only[vm,seval,h.1,CZ,CL,Ij,Au,BU,Av]
 refine⟨hk30 (wr .i64 (1+y27)) () _ _ _ _ h.2 slr ?_ ?_ ?_ fG⟩<;>first|(simp(disch:=omega) only[vm,seval,h.1,CZ,CL,Ij,Au,BU,Av];done)|rfl
 intro k23 Jk23 hk23 h
 rcases KA h with h|h
 simp(disch:=omega) only[vm,seval,h.1,CZ,CL,Ij,Au,BU,Av]
 refine⟨hk23 true () _ _ _ _ h.2 slr ?_ ?_ ?_ fG⟩<;>first|(simp(disch:=omega) only[vm,seval,h.1,CZ,CL,Ij,Au,BU,Av];done)|rfl
 simp(disch:=omega) only[vm,seval,h.1,CZ,CL,Ij,Au,BU,Av]
 refine⟨hk23 (s0==([46,46]:B8)) () _ _ _ _ h.2 slr ?_ ?_ ?_ fG⟩<;>first|(simp(disch:=omega) only[vm,seval,h.1,CZ,CL,Ij,Au,BU,Av];done)|rfl
 intro k12 Jk12 hk12 h
 obtain⟨y15,h⟩:=Fx h
 simp(disch:=omega) only[vm,seval,h.1,CZ,CL,Ij,Au,BU,Av]
 refine⟨KD h.1.1 (by first|(simp(disch:=omega) only[vm,seval,h.1,CZ,CL,Ij,Au,BU,Av];done)|rfl) λn16 hn16=>?_⟩
 rcases KA h with h|h
 simp(disch:=omega) only[vm,seval,h.1,CZ,CL,Ij,Au,BU,Av]
 refine⟨hk12 true () _ _ _ _ h.2 slr ?_ ?_ ?_ fG⟩<;>first|(simp(disch:=omega) only[vm,seval,h.1,CZ,CL,Ij,Au,BU,Av];done)|rfl
 simp(disch:=omega) only[vm,seval,h.1,CZ,CL,Ij,Au,BU,Av]
 refine⟨hk12 (s0==([47,46,46]:B8)) () _ _ _ _ h.2 slr ?_ ?_ ?_ fG⟩<;>first|(simp(disch:=omega) only[vm,seval,h.1,CZ,CL,Ij,Au,BU,Av];done)|rfl
instance AZF {a0}:CF vE (JJ N a0) 251 [.str a0] (λr=>.str r):=⟨λh hQ=>ZF h rfl hQ⟩
@[reducible,instance] def AO9 {a0 a1 a2 k18 k s11 bn8_addr bn8_buf} := LU.mk (X := EH N a0 a1 a2 k18 k s11 bn8_addr bn8_buf) (G := λk i (s : Int × Bool × B8) => EH N a0 a1 a2 k18 k s.1 s.2.1 s.2.2) (k := k) (s := (s11, bn8_addr, bn8_buf)) (js := [(12, 1), (54, 20)]) (cs := [11, 53]) (V := λi s => [.int .i64 s.1, .int .i64 i]) (Ms := λi s => [.t (λq => [Kh q 210 2 s.2.1, .buf 5 s.2.2 true])]) (λ_ => rfl) (λi s => EH.eq_1 ..) (λk i s => EH.eq_2 ..)
@[reducible,instance] def AOe {a0 a2 k18 k s11 bn8} := LU.mk (X := Hm N a0 a2 k18 k s11 bn8) (G := λk i (s : Int × StringsBuilder) => Hm N a0 a2 k18 k s.1 s.2) (k := k) (s := (s11, bn8)) (js := [(13, 3), (79, 20)]) (cs := [11, 78]) (V := λi s => [.int .i64 s.1, .int .i64 i]) (Ms := λi s => [.t (λq => [Kh q 210 2 s.2.addr, .buf 5 s.2.buf true])]) (λ_ => rfl) (λi s => Hm.eq_1 ..) (λk i s => Hm.eq_2 ..)
instance AYA {a0 a1 a2 a3}:CF vE (strings_Replace N a0 a1 a2 a3) 311 [.str a0,.str a1,.str a2,.int .i64 a3] (λr=>.str r):=AX (strings_Replace.eq_1 ..) Tryz.func311 rfl Tryz.ntmps311 Tryz.results311 [(1,[],.stop),(6,[],.stop),(8,[10],.done)]
instance Ai6 {a0}:CF vE (Fh N a0) 14 [FK a0] (λr=>.str r):=AX (Fh.eq_1 ..) Tryz.func14 rfl Tryz.ntmps14 Tryz.results14 [(1,[],.take 0 (.take 4 (.alt 1 [4] (.alt 2 [4,0] (.take 3 (.alt 5 [3,0] (.take 6 (.alt 7 [] (.done) (.stop))) (.stop))) (.stop)) (.stop))))]
@[reducible,instance] def ASR {a0 a1 k2 k s6 s7} := LF.mk (X := DY N a0 a1 k2 k s6 s7) (G := λk (s : (List Int) × Int) => DY N a0 a1 k2 k s.1 s.2) (s := (s6, s7)) (js := [(4, 2), (8, 2), (13, 49)]) (cs := [6, 7]) (V := λs => [.slice 1 (List.map (AVal.int .u8) s.1) true, .int .i64 s.2]) (Ms := λs => []) rfl (λs => DY.eq_1 ..) (λk s => DY.eq_2 ..)
instance AYF {a0 a1}:CF vE (Gx N a0 a1) 83 [.str a0,.str a1] (λr=>.tuple [.str r.1,.int .i64 r.2]):=AX (Gx.eq_1 ..) Tryz.func83 rfl Tryz.ntmps83 Tryz.results83 [(8,[],.stop),(10,[36],.done),(15,[52],.done),(16,[56],.done)]
instance Aee {a0 a1}:CF vE (MP N a0 a1) 143 [.str a0,.int .u64 a1] (λr=>.tuple [.int .u64 r.1,.int .i64 r.2]):=AX (MP.eq_1 ..) Tryz.func143 rfl Tryz.ntmps143 Tryz.results143 [(2,[],.stop)]
@[reducible,instance] def AXK {a0 k2 k s4 s5} := LF.mk (X := Fq N a0 k2 k s4 s5) (G := λk (s : (List Int) × Int) => Fq N a0 k2 k s.1 s.2) (s := (s4, s5)) (js := [(2, 2), (6, 3), (12, 26)]) (cs := [4, 5]) (V := λs => [.slice 1 (List.map (AVal.int .u8) s.1) true, .int .i64 s.2]) (Ms := λs => []) rfl (λs => Fq.eq_1 ..) (λk s => Fq.eq_2 ..)
instance Afx {a0}:CF vE (Hq N a0) 86 [.str a0] (λr=>.tuple [.str r.1,.int .i64 r.2]):=AX (Hq.eq_1 ..) Tryz.func86 rfl Tryz.ntmps86 Tryz.results86 [(13,[34],.done)]
end Go.Proofs.YtfcejbjjeaaleaaGreatDoor
