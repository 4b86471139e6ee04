import Derived.Test.YtmalodjbhonipaaGreatDoorVmFacts
import Derived.Test.YtmalodjbhonipaaGreatDoorDefs
import Derived.Test.YtmalodjbhonipaaGreatDoorVM7
import Derived.Test.YtmalodjbhonipaaGreatDoorW0
import Derived.Test.YtmalodjbhonipaaGreatDoorW1
import Derived.Test.YtmalodjbhonipaaGreatDoorW2
import Derived.Test.YtmalodjbhonipaaGreatDoorW3
import Derived.Test.YtmalodjbhonipaaGreatDoorW4
import Derived.Test.YtmalodjbhonipaaGreatDoorW5
import Derived.Test.YtmalodjbhonipaaGreatDoorW6
import Derived.Test.YtmalodjbhonipaaGreatDoorW7
import Derived.Test.YtmalodjbhonipaaGreatDoorW8
import Derived.Test.YtmalodjbhonipaaGreatDoorVM5
set_option linter.unusedVariables false
set_option linter.unusedSimpArgs false
set_option maxHeartbeats 4000000
set_option maxRecDepth 100000
set_option linter.defProp false
namespace Go.Proofs.YtmalodjbhonipaaGreatDoor
open Go.VM
attribute [local irreducible] AA grd letL
variable{N n:Nat}{m:MS}{Q:PQ}{args:List AVal}
@[reducible, instance] def AHF {k29 k s7} := LF.mk (X := EQ N k29 k s7) (G := fun k (s : (List UInt8)) => EQ N k29 k s) (s := s7) (js := [(54, 10)]) (cs := [7]) (V := fun s => [.str s]) (Ms := fun s => []) rfl (fun s => EQ.eq_1 ..) (fun k s => EQ.eq_2 ..)
@[reducible, instance] def AHQ {k40 k s6 s7} := LF.mk (X := EL N k40 k s6 s7) (G := fun k (s : Int × (List UInt8)) => EL N k40 k s.1 s.2) (s := (s6, s7)) (js := [(66, 13)]) (cs := [6, 7]) (V := fun s => [.int .i64 s.1, .str s.2]) (Ms := fun s => []) rfl (fun s => EL.eq_1 ..) (fun k s => EL.eq_2 ..)
instance AQp {a0}:CF vE (JG N a0) 29 [.str a0] (fun r=>.tuple [.str r.1,.int .i64 r.2]):=Ae (JG.eq_1 ..) Tryz.func29 rfl Tryz.ntmps29 Tryz.results29 [(1,[],.stop),(5,[],.take 0 (.take 1 (.alt 2 [1,0] (.alt 3 [] (.done) (.stop)) (.stop)))),(7,[],.take 0 (.take 1 (.take 2 (.take 5 (.take 6 (.take 7 (.alt 3 [7,6,5,1] (.alt 4 [7,6,5,2,1,0] (.alt 8 [7,6,5] (.alt 9 [] (.done) (.stop)) (.stop)) (.stop)) (.stop)))))))),(10,[],.take 0 (.take 1 (.take 2 (.take 3 (.take 4 (.take 5 (.take 6 (.take 7 (.take 8 (.take 9 (.take 10 (.take 11 (.take 12 (.take 13 (.take 14 (.alt 15 [14,13,12,11,10,9,8,7] (.alt 16 [] (.done) (.stop)) (.stop))))))))))))))))),(11,[],.stop),(17,[],.stop)]
instance AU2 {a0 a1}:CF vE (MM N a0 a1) 182 [.str a0,.int .u64 a1] (fun r=>.tuple [.int .u64 r.1,.int .i64 r.2]):=Ae (MM.eq_1 ..) Tryz.func182 rfl Tryz.ntmps182 Tryz.results182
@[reducible, instance] def AEt {a0 k2 k s4 s5} := LF.mk (X := Co N a0 k2 k s4 s5) (G := fun k (s : (List Int) × Int) => Co N a0 k2 k s.1 s.2) (s := (s4, s5)) (js := [(2, 2), (6, 3), (12, 26)]) (cs := [4, 5]) (V := fun s => [.slice 1 (List.map (AVal.int .u8) s.1) true, .int .i64 s.2]) (Ms := fun s => []) rfl (fun s => Co.eq_1 ..) (fun k s => Co.eq_2 ..)
instance Qp {a0}:CF vE (Et N a0) 27 [.str a0] (fun r=>.tuple [.str r.1,.int .i64 r.2]):=Ae (Et.eq_1 ..) Tryz.func27 rfl Tryz.ntmps27 Tryz.results27 [(14,[34],.done)]
theorem Qk {a0 r} (h:Et N a0=some r) (ha:args=[.str a0]) (hQ: ∀n',n≤n'→Gl (Q (.tuple [.str r.1,.int .i64 r.2]) ⟨m,n'⟩)):ACall vE 27 args ⟨m,n⟩ Q:=ha▸Qp.go h hQ
instance ACa {a0}:CF vE (Ea N a0) 93 [.int .u8 a0] (fun r=>.bool r):=Ae (Ea.eq_1 ..) Tryz.func93 rfl Tryz.ntmps93 Tryz.results93 [(1,[],.stop)]
@[reducible, instance] def AER {a0 a1 a2 k18 k s11 bn8_addr bn8_buf} := LU.mk (X := CK N a0 a1 a2 k18 k s11 bn8_addr bn8_buf) (G := fun k i (s : Int × Bool × (List UInt8)) => CK N a0 a1 a2 k18 k s.1 s.2.1 s.2.2) (k := k) (s := (s11, bn8_addr, bn8_buf)) (js := [(12, 1), (54, 20)]) (cs := [11, 53]) (V := fun i s => [.int .i64 s.1, .int .i64 i]) (Ms := fun i s => [.t (fun q => [H5 q 144 2 s.2.1, .buf 5 s.2.2 true])]) (fun _ => rfl) (fun i s => CK.eq_1 ..) (fun k i s => CK.eq_2 ..)
@[reducible, instance] def ADx {a0 a2 k18 k s11 bn8} := LU.mk (X := EW N a0 a2 k18 k s11 bn8) (G := fun k i (s : Int × StringsBuilder) => EW N a0 a2 k18 k s.1 s.2) (k := k) (s := (s11, bn8)) (js := [(13, 3), (79, 20)]) (cs := [11, 78]) (V := fun i s => [.int .i64 s.1, .int .i64 i]) (Ms := fun i s => [.t (fun q => [H5 q 144 2 s.2.addr, .buf 5 s.2.buf true])]) (fun _ => rfl) (fun i s => EW.eq_1 ..) (fun k i s => EW.eq_2 ..)
instance AHX {a0 a1 a2 a3}:CF vE (strings_Replace N a0 a1 a2 a3) 167 [.str a0,.str a1,.str a2,.int .i64 a3] (fun r=>.str r):=Ae (strings_Replace.eq_1 ..) Tryz.func167 rfl Tryz.ntmps167 Tryz.results167 [(1,[],.stop),(6,[],.stop),(8,[10],.done)]
@[reducible, instance] def AAD {k17 xs s8 AGO} := LR.mk (X := Bu N k17 xs s8 AGO) (G := fun xs i (s : (List Bool)) => Bu N k17 xs i s) (i := s8) (s := AGO) (js := [(4, 1), (33, 11)]) (cs := [8]) (V := fun i s => [.int .i64 i]) (Ms := fun i s => [.s (List.map AVal.bool s)]) rfl (fun i s => Bu.eq_1 ..) (fun x xs i s => Bu.eq_2 ..)
@[reducible, instance] def AAK {a0 a1 k24 k s45} := LF.mk (X := BJ N a0 a1 k24 k s45) (G := fun k (s : Nat) => BJ N a0 a1 k24 k s) (s := s45) (js := [(4, 1), (9, 2), (46, 9)]) (cs := [45]) (V := fun s => [.iter a0 s]) (Ms := fun s => []) rfl (fun s => BJ.eq_1 ..) (fun k s => BJ.eq_2 ..)
instance AFv {a0 a1}:CF vE (strings_IndexAny N a0 a1) 86 [.str a0,.str a1] (fun r=>.int .i64 r):=Ae (strings_IndexAny.eq_1 ..) Tryz.func86 rfl Tryz.ntmps86 Tryz.results86
instance APP {a0 a1}:CF vE (Jg N a0 a1) 173 [.str a0,.int .u64 a1] (fun r=>.tuple [.int .u64 r.1,.int .i64 r.2]):=Ae (Jg.eq_1 ..) Tryz.func173 rfl Tryz.ntmps173 Tryz.results173
theorem Oo {a0 a1 a2 a3 r} (h:strings_genSplit N a0 a1 a2 a3=some r) (ha:args=[.str a0,.str a1,.int .i64 a2,.int .i64 a3]) (hQ: ∀n',n≤n'→Gl (Q (.slice 1 (List.map AVal.str r) false) ⟨m,n'⟩)):ACall vE 187 args ⟨m,n⟩ Q:=by
 rw[strings_genSplit]at h;subst ha;refine ACall.give (AVG Tryz.func187 rfl Tryz.ntmps187 Tryz.results187 (.q (.r []) (.q (.q (.r []) (.c (.q (.r []) .z) .z)) (.q (.q (.r []) (.c (.q (.r []) .z) .z)) .z))) (fun R hR=>?_));replace h:=ab trivial h;rcases H6 h with h|h;cases h.2;rcases H6 h with h|h;obtain⟨y1,h⟩:=D7 h;simp(disch:= omega) only[vm,seval,h.1];refine⟨PT h.1.1 tD fun n2 hn2=>?_⟩;cases h.2;simp(disch:= omega) only[vm,seval,h.1];refine⟨Vf (γ:=Unit) h [19,20,21,22,23,24] [3] (fun j3 g=>[.int .i64 j3]) (fun j3 g=>m) (.q (.r []) (.c (.r []) .z)) ?_ ?_⟩<;>clear h;rintro j3 _ n6 hnn6 _ _ h;refine KX (.q (.r []) (.q (.r []) (.q (.r []) (.q (.r []) .z)))) ?_;obtain⟨c,h⟩:=KS h;try simp only[liE,seval]at c
 replace h:=JO c h;simp(disch:= omega) only[vm,seval,h.1];refine⟨Vf (γ:=Unit) h [11,34,35,36,37,38,39,40,41,42,43,44,45,46,47,48,49,50,51,52,53,54,55,56,57] [0,10] (fun j9 g=>[.str j9.1,.int .i64 j9.2.1]) (fun j9 g=>(n6,List.map AVal.str j9.2.2)::m) .z ?_ ?_⟩<;>clear h;rintro j9 _ n12 hnn12 _ _ h;refine KX (.q (.r []) (.q (.r []) .z)) ?_;obtain⟨c,h⟩:=KS h;try simp only[liE,seval]at c
 replace h:=JO c h;obtain⟨c,h⟩:=KS h;try simp only[liE,seval]at c
 replace h:=JO c h;obtain⟨c,h⟩:=KS h;try simp only[liE,seval]at c
 replace h:=JO c h;obtain⟨cg,h⟩:=KS h;obtain⟨H,h⟩:=h;cases h;simp(disch:= omega) only[vm,seval,H];refine⟨(hR _ _ _ _ _ _ (by simp(disch:= omega) only[vm,seval,H];rfl) slr eT ⟨[_],_,_,rfl,AKV (l:=(j9.2.2.set j9.2.1.toNat j9.1)) (by simpa only[cw]using cg),rfl,(hQ _ (by first| omega| (dsimp only;omega))).go⟩).1⟩;intro k10 Jk10 hk10 h;obtain⟨hfk13,h⟩:=KS h;simp(disch:= omega) only[vm,seval,h.1];refine⟨AVw (σ:=(List UInt8)×(List (List UInt8))) (γ:=Unit) 0 (wr .i64 ((if(wr .i64 ((a0.length:Int)+1))<j3 then(wr .i64 ((a0.length:Int)+1))else j3)-1)) hfk13 (fun xs i s=>Ba N a0 a1 a2 j3 k10 xs i s.1 s.2) (fun i s g=>[.str s.1,.int .i64 i]) (fun i s g=>(n6,List.map AVal.str s.2)::m) [11,34,35,36,37,38,39,40,41,42,43,44,45,46,47,48,49,50,51,52,53,54,55,56,57] [0,10] (a0,(List.replicate (if(wr .i64 ((a0.length:Int)+1))<j3 then(wr .i64 ((a0.length:Int)+1))else j3).toNat ([]:List UInt8))) () h tD tD ?_ ?_⟩<;>clear h;rintro s10 ⟨s0,bn6⟩ _ nL0_1 hnL0_1 _ h;change _∧Ba N a0 a1 a2 j3 k10 0 s10 s0 bn6=_ at h;rw[Ba]at h;refine KX (.q (.q (.r []) (.c .z .z)) (.q (.r []) (.q (.q (.r []) (.c .z .z)) (.q (.r []) (.q (.r []) (.r [])))))) ?_;exact tJ (hk10 (s0,s10,bn6) ());rintro xsk13 s10 ⟨s0,bn6⟩ _ nL0_1 hnL0_1 _ h Jk13 hk13;change _∧Ba N a0 a1 a2 j3 k10 (xsk13+1) s10 s0 bn6=_ at h;rw[Ba]at h;refine KX (.q (.q (.r []) (.c .z .z)) (.q (.r []) (.q (.q (.r []) (.c .z .z)) (.q (.r []) (.q (.r []) (.r [])))))) ?_;obtain⟨y14,h⟩:=D7 h;simp(disch:= omega) only[vm,seval,h.1];refine⟨R7 h.1.1 tD fun n15 hn15=>?_⟩;rcases H6 h with h|h;exact tJ (hk10 (s0,s10,bn6) ());obtain⟨x16,h⟩:=D7 h;obtain⟨c,h⟩:=KS h;try simp only[liE,seval]at c
 replace h:=JO c h;obtain⟨c,h⟩:=KS h;try simp only[liE,seval]at c
 replace h:=JO c h;obtain⟨x17,h⟩:=D7 h;exact tJ (hk13 (x17,(bn6.set s10.toNat x16)) ());intro k4 Jk4 hk4 h;rcases H6 h with h|h;obtain⟨y7,h⟩:=D7 h;simp(disch:= omega) only[vm,seval,h.1];refine⟨R8 h.1.1 tD fun n8 hn8=>?_⟩;exact tJ (hk4 (wr .i64 (y7+1)) ());exact tJ (hk4 a3 ())
instance AFr {a0 a1 a2 a3}:CF vE (strings_genSplit N a0 a1 a2 a3) 187 [.str a0,.str a1,.int .i64 a2,.int .i64 a3] (fun r=>.slice 1 (List.map AVal.str r) false):=⟨fun h hQ=>Oo h rfl hQ⟩
@[reducible, instance] def AM0 {k s0} := LF.mk (X := Fg N k s0) (G := fun k (s : (List UInt8)) => Fg N k s) (s := s0) (js := [(2, 19)]) (cs := [0]) (V := fun s => [.str s]) (Ms := fun s => []) rfl (fun s => Fg.eq_1 ..) (fun k s => Fg.eq_2 ..)
instance AU0 {a0}:CF vE (Ni N a0) 141 [.str a0] (fun r=>.bool r):=Ae (Ni.eq_1 ..) Tryz.func141 rfl Tryz.ntmps141 Tryz.results141
theorem Qg {a0 r} (h:Dh N a0=some r) (ha:args=[.str a0]) (hQ: ∀n',n≤n'→Gl (Q (.str r) ⟨m,n'⟩)):ACall vE 47 args ⟨m,n⟩ Q:=by
 rw[Dh]at h
 subst ha
 refine ent hQ Tryz.func47 rfl Tryz.ntmps47 Tryz.results47 (.q (.r []) (.q (.r [7]) (.q .z (.q (.r []) .z)))) fun R hR=>?_
 replace h:=ab trivial h
 obtain⟨c,h⟩:=KS h
 try simp only[liE,seval]at c
 replace h:=JO c h
 simp(disch:=omega) only[vm,seval,h.1,BI,BK,E9,Ag,Ap,Af]
 refine⟨AXg (σ:=(List UInt8)×Nat×(List Int)) (γ:=Nat) (fun k s=>Ad N k s.1 s.2.1 s.2.2) (fun s g=>[.str s.1,.gsl 1 g s.2.1]) (fun s g=>(g,List.map (AVal.int .u8) s.2.2)::m) [4,8,9,10,11,12,13,14,15,16,17,18,19,20,21,22,23,24,25,26,27,28,29,30,31,32,33,34,35,36,37,38,39,40,41,42,43,44,45,46,47,48,49,50,51,52,53,54,55,56,57,58,59,60,61,62,63,64,65,66,67] [0,3] (a0,(0:Int).toNat,(List.replicate (0:Int).toNat 0)) n h (fun _=>rfl) (by first|(simp(disch:=omega) only[vm,seval,h.1,BI,BK,E9,Ag,Ap,Af];done)|rfl) (by first|(simp(disch:=omega) only[vm,seval,h.1,BI,BK,E9,Ag,Ap,Af];done)|rfl) ?_⟩
 clear h
 rintro k1 ⟨s0,s3_len,bq3⟩ q3 nL0_1 hnL0_1 _ h Jk1 hk1
 change _∧Ad N (k1+1) s0 s3_len bq3=_ at h
 rw[Ad]at h
 refine KX (.q (.q (.r []) (.c .z .z)) (.q (.r []) (.c (.r []) (.q (.r []) (.c (.r []) (.q (.r []) (.c (.r []) (.q (.r []) (.c (.r []) .z))))))))) ?_
 rcases H6 h with h|h
 obtain⟨c,h⟩:=KS h
 try simp only[liE,seval]at c
 replace h:=JO c h
 obtain⟨H,h⟩:=h
 cases h
 simp(disch:=omega) only[vm,seval,H,BI,BK,E9,Ag,Ap,Af]
 refine⟨(hR _ _ _ _ _ _ (by simp(disch:=omega) only[vm,seval,H,BI,BK,E9,Ag,Ap,Af];rfl) (.cons _ slr) ?_ eT ?_).1⟩<;>first|(simp(disch:=omega) only[vm,seval,H,BI,BK,E9,Ag,Ap,Af];done)|rfl
 obtain⟨y2,h⟩:=D7 h
 simp(disch:=omega) only[vm,seval,h.1,BI,BK,E9,Ag,Ap,Af]
 refine⟨Fz h.1.1 (by first|(simp(disch:=omega) only[vm,seval,h.1,BI,BK,E9,Ag,Ap,Af];done)|rfl) fun n3 hn3=>?_⟩
 rcases H6 h with h|h
 obtain⟨x4,h⟩:=D7 h
 simp(disch:=omega) only[vm,seval,h.1,BI,BK,E9,Ag,Ap,Af]
 refine⟨hk1 (x4,s3_len,bq3) q3 _ _ _ _ h.2 slr ?_ ?_ ?_ eT⟩<;>first|(simp(disch:=omega) only[vm,seval,h.1,BI,BK,E9,Ag,Ap,Af];done)|rfl
 obtain⟨y5,h⟩:=D7 h
 simp(disch:=omega) only[vm,seval,h.1,BI,BK,E9,Ag,Ap,Af]
 refine⟨Fz h.1.1 (by first|(simp(disch:=omega) only[vm,seval,h.1,BI,BK,E9,Ag,Ap,Af];done)|rfl) fun n6 hn6=>?_⟩
 rcases H6 h with h|h
 obtain⟨x7,h⟩:=D7 h
 simp(disch:=omega) only[vm,seval,h.1,BI,BK,E9,Ag,Ap,Af]
 refine⟨hk1 (x7,s3_len,bq3) q3 _ _ _ _ h.2 slr ?_ ?_ ?_ eT⟩<;>first|(simp(disch:=omega) only[vm,seval,h.1,BI,BK,E9,Ag,Ap,Af];done)|rfl
 obtain⟨y8,h⟩:=D7 h
 simp(disch:=omega) only[vm,seval,h.1,BI,BK,E9,Ag,Ap,Af]
 refine⟨Fz h.1.1 (by first|(simp(disch:=omega) only[vm,seval,h.1,BI,BK,E9,Ag,Ap,Af];done)|rfl) fun n9 hn9=>?_⟩
 rcases H6 h with h|h
 obtain⟨x10,h⟩:=D7 h
 simp(disch:=omega) only[vm,seval,h.1,BI,BK,E9,Ag,Ap,Af]
 refine⟨hk1 (x10,s3_len,bq3) q3 _ _ _ _ h.2 slr ?_ ?_ ?_ eT⟩<;>first|(simp(disch:=omega) only[vm,seval,h.1,BI,BK,E9,Ag,Ap,Af];done)|rfl
 rcases H6 h with h|h
 simp(disch:=omega) only[vm,seval,h.1,BI,BK,E9,Ag,Ap,Af]
 refine⟨hk1 (([47]:List UInt8),s3_len,bq3) q3 _ _ _ _ h.2 slr ?_ ?_ ?_ eT⟩<;>first|(simp(disch:=omega) only[vm,seval,h.1,BI,BK,E9,Ag,Ap,Af];done)|rfl
 simp(disch:=omega) only[vm,seval,h.1,BI,BK,E9,Ag,Ap,Af]
 refine⟨Vf (γ:=Unit) h [45,46,47,48,49,50] [44] (fun j11 g=>[.bool j11]) (fun j11 g=>(q3,List.map (AVal.int .u8) bq3)::m) (.r []) ?_ ?_⟩<;>clear h
 rintro j11 _ n14 hnn14 _ _ h
 refine KX (.c (.q (.r []) (.r [])) .z) ?_
 rcases H6 h with h|h
 obtain⟨x17,h⟩:=D7 h
 obtain⟨y18,h⟩:=D7 h
 simp(disch:=omega) only[vm,seval,h.1,BI,BK,E9,Ag,Ap,Af]
 refine⟨Ng h.1.1 (by first|(simp(disch:=omega) only[vm,seval,h.1,BI,BK,E9,Ag,Ap,Af];done)|rfl) fun n19 hn19=>?_⟩
 obtain⟨c,h⟩:=KS h
 try simp only[liE,seval]at c
 replace h:=JO c h
 obtain⟨c,h⟩:=KS h
 try simp only[liE,seval]at c
 replace h:=JO c h
 obtain⟨y20,h⟩:=D7 h
 simp(disch:=omega) only[vm,seval,h.1,BI,BK,E9,Ag,Ap,Af]
 refine⟨MU h.1.1 (by first|(simp(disch:=omega) only[vm,seval,h.1,BI,BK,E9,Ag,Ap,Af];done)|rfl) fun n21 hn21=>?_⟩
 obtain⟨c,h⟩:=KS h
 try simp only[liE,seval]at c
 replace h:=JO c h
 simp(disch:=omega) only[vm,seval,h.1,BI,BK,E9,Ag,Ap,Af]
 refine⟨hk1 ((([47]:List UInt8)++y18),(if y20>0 then y20 else 0).toNat,bq3) q3 _ _ _ _ h.2 slr ?_ ?_ ?_ eT⟩<;>first|(simp(disch:=omega) only[vm,seval,h.1,BI,BK,E9,Ag,Ap,Af];done)|rfl
 simp(disch:=omega) only[vm,seval,h.1,BI,BK,E9,Ag,Ap,Af]
 refine⟨Vf (γ:=Unit) h [62,63,64,65,66,67] [61] (fun j22 g=>[.bool j22]) (fun j22 g=>(q3,List.map (AVal.int .u8) bq3)::m) (.r []) ?_ ?_⟩<;>clear h
 rintro j22 _ n25 hnn25 _ _ h
 refine KX (.c (.r []) (.q (.r []) .z)) ?_
 rcases H6 h with h|h
 simp(disch:=omega) only[vm,seval,h.1,BI,BK,E9,Ag,Ap,Af]
 refine⟨hk1 ([],s3_len,bq3) q3 _ _ _ _ h.2 slr ?_ ?_ ?_ eT⟩<;>first|(simp(disch:=omega) only[vm,seval,h.1,BI,BK,E9,Ag,Ap,Af];done)|rfl
 obtain⟨x26,h⟩:=D7 h
 obtain⟨y27,h⟩:=D7 h
 simp(disch:=omega) only[vm,seval,h.1,BI,BK,E9,Ag,Ap,Af]
 refine⟨OJ h.1.1 (by first|(simp(disch:=omega) only[vm,seval,h.1,BI,BK,E9,Ag,Ap,Af];done)|rfl) fun n28 hn28=>?_⟩
 simp(disch:=omega) only[vm,seval,h.1,BI,BK,E9,Ag,Ap,Af]
 refine⟨Vf (γ:=Unit) h [14,15,16,17] [4] (fun j29 g=>[.int .i64 j29]) (fun j29 g=>(q3,List.map (AVal.int .u8) bq3)::m) (.q (.r []) (.c (.r []) .z)) ?_ ?_⟩<;>clear h
 rintro j29 _ n32 hnn32 _ _ h
 refine KX (.q (.r [18]) (.r [])) ?_
 obtain⟨x33,h⟩:=D7 h
 obtain⟨c,h⟩:=KS h
 try simp only[liE,seval]at c
 replace h:=JO c h
 simp(disch:=omega) only[vm,seval,h.1,BI,BK,E9,Ag,Ap,Af]
 refine⟨ASD fun i34 hi34=>Gl.go ?_⟩
 obtain⟨x35,h⟩:=D7 h
 simp(disch:=omega) only[vm,seval,h.1,BI,BK,E9,Ag,Ap,Af]
 refine⟨hk1 (x35,(s3_len+x33.length),(List.take s3_len bq3++List.map AC x33)) i34 _ _ _ _ h.2 slr ?_ ?_ ?_ eT⟩<;>first|(simp(disch:=omega) only[vm,seval,h.1,BI,BK,E9,Ag,Ap,Af];done)|rfl
 intro k30 Jk30 hk30 h
 rcases H6 h with h|h
 simp(disch:=omega) only[vm,seval,h.1,BI,BK,E9,Ag,Ap,Af]
 refine⟨hk30 (s0.length:Int) () _ _ _ _ h.2 slr ?_ ?_ ?_ eT⟩<;>first|(simp(disch:=omega) only[vm,seval,h.1,BI,BK,E9,Ag,Ap,Af];done)|rfl
 simp(disch:=omega) only[vm,seval,h.1,BI,BK,E9,Ag,Ap,Af]
 refine⟨hk30 (wr .i64 (1+y27)) () _ _ _ _ h.2 slr ?_ ?_ ?_ eT⟩<;>first|(simp(disch:=omega) only[vm,seval,h.1,BI,BK,E9,Ag,Ap,Af];done)|rfl
 intro k23 Jk23 hk23 h
 rcases H6 h with h|h
 simp(disch:=omega) only[vm,seval,h.1,BI,BK,E9,Ag,Ap,Af]
 refine⟨hk23 true () _ _ _ _ h.2 slr ?_ ?_ ?_ eT⟩<;>first|(simp(disch:=omega) only[vm,seval,h.1,BI,BK,E9,Ag,Ap,Af];done)|rfl
 simp(disch:=omega) only[vm,seval,h.1,BI,BK,E9,Ag,Ap,Af]
 refine⟨hk23 (s0==([46,46]:List UInt8)) () _ _ _ _ h.2 slr ?_ ?_ ?_ eT⟩<;>first|(simp(disch:=omega) only[vm,seval,h.1,BI,BK,E9,Ag,Ap,Af];done)|rfl
 intro k12 Jk12 hk12 h
 obtain⟨y15,h⟩:=D7 h
 simp(disch:=omega) only[vm,seval,h.1,BI,BK,E9,Ag,Ap,Af]
 refine⟨Fz h.1.1 (by first|(simp(disch:=omega) only[vm,seval,h.1,BI,BK,E9,Ag,Ap,Af];done)|rfl) fun n16 hn16=>?_⟩
 rcases H6 h with h|h
 simp(disch:=omega) only[vm,seval,h.1,BI,BK,E9,Ag,Ap,Af]
 refine⟨hk12 true () _ _ _ _ h.2 slr ?_ ?_ ?_ eT⟩<;>first|(simp(disch:=omega) only[vm,seval,h.1,BI,BK,E9,Ag,Ap,Af];done)|rfl
 simp(disch:=omega) only[vm,seval,h.1,BI,BK,E9,Ag,Ap,Af]
 refine⟨hk12 (s0==([47,46,46]:List UInt8)) () _ _ _ _ h.2 slr ?_ ?_ ?_ eT⟩<;>first|(simp(disch:=omega) only[vm,seval,h.1,BI,BK,E9,Ag,Ap,Af];done)|rfl
instance AK8 {a0}:CF vE (Dh N a0) 47 [.str a0] (fun r=>.str r):=⟨fun h hQ=>Qg h rfl hQ⟩
instance AVW {a0}:CF vE (Na N a0) 50 [Ed a0] (fun r=>.str r):=Ae (Na.eq_1 ..) Tryz.func50 rfl Tryz.ntmps50 Tryz.results50
@[reducible, instance] def AHi {a0 k2 k s4 s5} := LF.mk (X := Dp N a0 k2 k s4 s5) (G := fun k (s : (List Int) × Int) => Dp N a0 k2 k s.1 s.2) (s := (s4, s5)) (js := [(2, 2), (6, 3), (12, 26)]) (cs := [4, 5]) (V := fun s => [.slice 1 (List.map (AVal.int .u8) s.1) true, .int .i64 s.2]) (Ms := fun s => []) rfl (fun s => Dp.eq_1 ..) (fun k s => Dp.eq_2 ..)
instance AN6 {a0}:CF vE (GR N a0) 106 [.str a0] (fun r=>.tuple [.str r.1,.int .i64 r.2]):=Ae (GR.eq_1 ..) Tryz.func106 rfl Tryz.ntmps106 Tryz.results106 [(13,[34],.done)]
@[reducible, instance] def ADR {a0 a1 k2 k s6 s7} := LF.mk (X := Bl N a0 a1 k2 k s6 s7) (G := fun k (s : (List Int) × Int) => Bl N a0 a1 k2 k s.1 s.2) (s := (s6, s7)) (js := [(4, 2), (8, 2), (13, 49)]) (cs := [6, 7]) (V := fun s => [.slice 1 (List.map (AVal.int .u8) s.1) true, .int .i64 s.2]) (Ms := fun s => []) rfl (fun s => Bl.eq_1 ..) (fun k s => Bl.eq_2 ..)
instance AHH {a0 a1}:CF vE (Cx N a0 a1) 115 [.str a0,.str a1] (fun r=>.tuple [.str r.1,.int .i64 r.2]):=Ae (Cx.eq_1 ..) Tryz.func115 rfl Tryz.ntmps115 Tryz.results115 [(8,[],.stop),(10,[36],.done),(15,[52],.done),(16,[56],.done)]
instance APC {a0}:CF vE (Eo N a0) 63 [Eb a0] (fun r=>.str r):=Ae (Eo.eq_1 ..) Tryz.func63 rfl Tryz.ntmps63 Tryz.results63 [(1,[],.take 0 (.take 4 (.alt 1 [4] (.alt 2 [4,0] (.take 3 (.alt 5 [3,0] (.take 6 (.alt 7 [] (.done) (.stop))) (.stop))) (.stop)) (.stop))))]
end Go.Proofs.YtmalodjbhonipaaGreatDoor
