import Derived.Test.YtfknikagmmfakaaGreatDoorW6
import Derived.Test.YtfknikagmmfakaaGreatDoorW8
import Derived.Test.YtfknikagmmfakaaGreatDoorW9
set_option linter.unusedVariables false
set_option linter.unusedSimpArgs false
set_option maxHeartbeats 4000000
set_option maxRecDepth 100000
set_option linter.defProp false
namespace Go.Proofs.YtfknikagmmfakaaGreatDoor
open Go.VM
attribute [local irreducible] AA grd letL
variable{N n:Nat}{m:MS}{Q:PQ}{args:List AVal}
@[reducible, instance] def AZE {k2 xs s6} := LR.mk (X := II N k2 xs s6) (G := fun xs i (s : Unit) => II N k2 xs i) (i := s6) (s := ()) (js := [(2, 2), (7, 26)]) (cs := [6]) (V := fun i s => [.int .i64 i]) (Ms := fun i s => []) rfl (fun i s => II.eq_1 ..) (fun x xs i s => II.eq_2 ..)
instance Agf {a0}:CF vE (RU N a0) 366 [.str a0] (fun r=>.bool r):=AR (RU.eq_1 ..) Tryz.func366 rfl Tryz.ntmps366 Tryz.results366 [(4,[],.stop)]
instance ASC {a0 a1}:CF vE (strings_Contains N a0 a1) 277 [.str a0,.str a1] (fun r=>.bool r):=AR (strings_Contains.eq_1 ..) Tryz.func277 rfl Tryz.ntmps277 Tryz.results277
theorem Tw {a0 r} (h:GH N a0=some r) (ha:args=[.str a0]) (hQ: ∀n',n≤n'→Gl (Q (.str r) ⟨m,n'⟩)):ACall vE 280 args ⟨m,n⟩ Q:=by
 rw[GH]at h
 subst ha
 refine ent hQ Tryz.func280 rfl Tryz.ntmps280 Tryz.results280 (.q (.r []) (.q (.r [7]) (.q .z (.q (.r []) .z)))) fun R hR=>?_
 replace h:=And.intro trivial h
 obtain⟨c,h⟩:=Mj h
 try simp only[liE,seval]at c
 replace h:=Ke c h
 simp(disch:=omega) only[vm,seval,h.1,Bv,Bi,Fq,Am,BF,Ao]
 refine⟨Aet (σ:=(List UInt8)×Nat×(List Int)) (γ:=Nat) (fun k s=>CL N k s.1 s.2.1 s.2.2) (fun s g=>[.str s.1,.gsl 1 g s.2.1]) (fun s g=>(g,List.map (AVal.int .u8) s.2.2)::m) [4,8,9,10,11,12,13,14,15,16,17,18,19,20,21,22,23,24,25,26,27,28,29,30,31,32,33,34,35,36,37,38,39,40,41,42,43,44,45,46,47,48,49,50,51,52,53,54,55,56,57,58,59,60,61,62,63,64,65,66,67] [0,3] (a0,(0:Int).toNat,(List.replicate (0:Int).toNat 0)) n h (fun _=>rfl) (by first|(simp(disch:=omega) only[vm,seval,h.1,Bv,Bi,Fq,Am,BF,Ao];done)|rfl) (by first|(simp(disch:=omega) only[vm,seval,h.1,Bv,Bi,Fq,Am,BF,Ao];done)|rfl) ?_⟩
 clear h
 rintro k1 ⟨s0,s3_len,bq3⟩ q3 nL0_1 hnL0_1 _ h Jk1 hk1
 change _∧CL N (k1+1) s0 s3_len bq3=_ at h
 rw[CL]at h
 refine Cv (.q (.q (.r []) (.c .z .z)) (.q (.r []) (.c (.r []) (.q (.r []) (.c (.r []) (.q (.r []) (.c (.r []) (.q (.r []) (.c (.r []) .z))))))))) ?_
 rcases Ig h with h|h
 obtain⟨c,h⟩:=Mj h
 try simp only[liE,seval]at c
 replace h:=Ke c h
 obtain⟨H,h⟩:=h
 cases h
 simp(disch:=omega) only[vm,seval,H,Bv,Bi,Fq,Am,BF,Ao]
 refine⟨(hR _ _ _ _ _ _ (by simp(disch:=omega) only[vm,seval,H,Bv,Bi,Fq,Am,BF,Ao];rfl) (.cons _ slr) ?_ (by omega) ?_).1⟩<;>first|(simp(disch:=omega) only[vm,seval,H,Bv,Bi,Fq,Am,BF,Ao];done)|rfl
 obtain⟨y2,h⟩:=EN h
 simp(disch:=omega) only[vm,seval,h.1,Bv,Bi,Fq,Am,BF,Ao]
 refine⟨GD h.1.1 (by first|(simp(disch:=omega) only[vm,seval,h.1,Bv,Bi,Fq,Am,BF,Ao];done)|rfl) fun n3 hn3=>?_⟩
 rcases Ig h with h|h
 obtain⟨x4,h⟩:=EN h
 simp(disch:=omega) only[vm,seval,h.1,Bv,Bi,Fq,Am,BF,Ao]
 refine⟨hk1 (x4,s3_len,bq3) q3 _ _ _ _ h.2 slr ?_ ?_ ?_ (by omega)⟩<;>first|(simp(disch:=omega) only[vm,seval,h.1,Bv,Bi,Fq,Am,BF,Ao];done)|rfl
 obtain⟨y5,h⟩:=EN h
 simp(disch:=omega) only[vm,seval,h.1,Bv,Bi,Fq,Am,BF,Ao]
 refine⟨GD h.1.1 (by first|(simp(disch:=omega) only[vm,seval,h.1,Bv,Bi,Fq,Am,BF,Ao];done)|rfl) fun n6 hn6=>?_⟩
 rcases Ig h with h|h
 obtain⟨x7,h⟩:=EN h
 simp(disch:=omega) only[vm,seval,h.1,Bv,Bi,Fq,Am,BF,Ao]
 refine⟨hk1 (x7,s3_len,bq3) q3 _ _ _ _ h.2 slr ?_ ?_ ?_ (by omega)⟩<;>first|(simp(disch:=omega) only[vm,seval,h.1,Bv,Bi,Fq,Am,BF,Ao];done)|rfl
 obtain⟨y8,h⟩:=EN h
 simp(disch:=omega) only[vm,seval,h.1,Bv,Bi,Fq,Am,BF,Ao]
 refine⟨GD h.1.1 (by first|(simp(disch:=omega) only[vm,seval,h.1,Bv,Bi,Fq,Am,BF,Ao];done)|rfl) fun n9 hn9=>?_⟩
 rcases Ig h with h|h
 obtain⟨x10,h⟩:=EN h
 simp(disch:=omega) only[vm,seval,h.1,Bv,Bi,Fq,Am,BF,Ao]
 refine⟨hk1 (x10,s3_len,bq3) q3 _ _ _ _ h.2 slr ?_ ?_ ?_ (by omega)⟩<;>first|(simp(disch:=omega) only[vm,seval,h.1,Bv,Bi,Fq,Am,BF,Ao];done)|rfl
 rcases Ig h with h|h
 simp(disch:=omega) only[vm,seval,h.1,Bv,Bi,Fq,Am,BF,Ao]
 refine⟨hk1 (([47]:List UInt8),s3_len,bq3) q3 _ _ _ _ h.2 slr ?_ ?_ ?_ (by omega)⟩<;>first|(simp(disch:=omega) only[vm,seval,h.1,Bv,Bi,Fq,Am,BF,Ao];done)|rfl
 simp(disch:=omega) only[vm,seval,h.1,Bv,Bi,Fq,Am,BF,Ao]
 refine⟨QD (γ:=Unit) h [45,46,47,48,49,50] [44] (fun j11 g=>[.bool j11]) (fun j11 g=>(q3,List.map (AVal.int .u8) bq3)::m) (.r []) ?_ ?_⟩<;>clear h
 rintro j11 _ n14 hnn14 _ _ h
 refine Cv (.c (.q (.r []) (.r [])) .z) ?_
 rcases Ig h with h|h
 obtain⟨x17,h⟩:=EN h
 cases h.2
 simp(disch:=omega) only[vm,seval,h.1,Bv,Bi,Fq,Am,BF,Ao]
 refine⟨QD (γ:=Unit) h [62,63,64,65,66,67] [61] (fun j18 g=>[.bool j18]) (fun j18 g=>(q3,List.map (AVal.int .u8) bq3)::m) (.r []) ?_ ?_⟩<;>clear h
 rintro j18 _ n21 hnn21 _ _ h
 refine Cv (.c (.r []) (.q (.r []) .z)) ?_
 rcases Ig h with h|h
 simp(disch:=omega) only[vm,seval,h.1,Bv,Bi,Fq,Am,BF,Ao]
 refine⟨hk1 ([],s3_len,bq3) q3 _ _ _ _ h.2 slr ?_ ?_ ?_ (by omega)⟩<;>first|(simp(disch:=omega) only[vm,seval,h.1,Bv,Bi,Fq,Am,BF,Ao];done)|rfl
 obtain⟨x22,h⟩:=EN h
 obtain⟨y23,h⟩:=EN h
 simp(disch:=omega) only[vm,seval,h.1,Bv,Bi,Fq,Am,BF,Ao]
 refine⟨QY h.1.1 (by first|(simp(disch:=omega) only[vm,seval,h.1,Bv,Bi,Fq,Am,BF,Ao];done)|rfl) fun n24 hn24=>?_⟩
 simp(disch:=omega) only[vm,seval,h.1,Bv,Bi,Fq,Am,BF,Ao]
 refine⟨QD (γ:=Unit) h [14,15,16,17] [4] (fun j25 g=>[.int .i64 j25]) (fun j25 g=>(q3,List.map (AVal.int .u8) bq3)::m) (.q (.r []) (.c (.r []) .z)) ?_ ?_⟩<;>clear h
 rintro j25 _ n28 hnn28 _ _ h
 refine Cv (.q (.r [18]) (.r [])) ?_
 obtain⟨x29,h⟩:=EN h
 obtain⟨c,h⟩:=Mj h
 try simp only[liE,seval]at c
 replace h:=Ke c h
 simp(disch:=omega) only[vm,seval,h.1,Bv,Bi,Fq,Am,BF,Ao]
 refine⟨AhT fun i30 hi30=>Gl.go ?_⟩
 obtain⟨x31,h⟩:=EN h
 simp(disch:=omega) only[vm,seval,h.1,Bv,Bi,Fq,Am,BF,Ao]
 refine⟨hk1 (x31,(s3_len+x29.length),(List.take s3_len bq3++List.map AX x29)) i30 _ _ _ _ h.2 slr ?_ ?_ ?_ (by omega)⟩<;>first|(simp(disch:=omega) only[vm,seval,h.1,Bv,Bi,Fq,Am,BF,Ao];done)|rfl
 intro k26 Jk26 hk26 h
 rcases Ig h with h|h
 simp(disch:=omega) only[vm,seval,h.1,Bv,Bi,Fq,Am,BF,Ao]
 refine⟨hk26 (s0.length:Int) () _ _ _ _ h.2 slr ?_ ?_ ?_ (by omega)⟩<;>first|(simp(disch:=omega) only[vm,seval,h.1,Bv,Bi,Fq,Am,BF,Ao];done)|rfl
 simp(disch:=omega) only[vm,seval,h.1,Bv,Bi,Fq,Am,BF,Ao]
 refine⟨hk26 (wr .i64 (1+y23)) () _ _ _ _ h.2 slr ?_ ?_ ?_ (by omega)⟩<;>first|(simp(disch:=omega) only[vm,seval,h.1,Bv,Bi,Fq,Am,BF,Ao];done)|rfl
 intro k19 Jk19 hk19 h
 rcases Ig h with h|h
 simp(disch:=omega) only[vm,seval,h.1,Bv,Bi,Fq,Am,BF,Ao]
 refine⟨hk19 true () _ _ _ _ h.2 slr ?_ ?_ ?_ (by omega)⟩<;>first|(simp(disch:=omega) only[vm,seval,h.1,Bv,Bi,Fq,Am,BF,Ao];done)|rfl
 simp(disch:=omega) only[vm,seval,h.1,Bv,Bi,Fq,Am,BF,Ao]
 refine⟨hk19 (s0==([46,46]:List UInt8)) () _ _ _ _ h.2 slr ?_ ?_ ?_ (by omega)⟩<;>first|(simp(disch:=omega) only[vm,seval,h.1,Bv,Bi,Fq,Am,BF,Ao];done)|rfl
 intro k12 Jk12 hk12 h
 obtain⟨y15,h⟩:=EN h
 simp(disch:=omega) only[vm,seval,h.1,Bv,Bi,Fq,Am,BF,Ao]
 refine⟨GD h.1.1 (by first|(simp(disch:=omega) only[vm,seval,h.1,Bv,Bi,Fq,Am,BF,Ao];done)|rfl) fun n16 hn16=>?_⟩
 rcases Ig h with h|h
 simp(disch:=omega) only[vm,seval,h.1,Bv,Bi,Fq,Am,BF,Ao]
 refine⟨hk12 true () _ _ _ _ h.2 slr ?_ ?_ ?_ (by omega)⟩<;>first|(simp(disch:=omega) only[vm,seval,h.1,Bv,Bi,Fq,Am,BF,Ao];done)|rfl
 simp(disch:=omega) only[vm,seval,h.1,Bv,Bi,Fq,Am,BF,Ao]
 refine⟨hk12 (s0==([47,46,46]:List UInt8)) () _ _ _ _ h.2 slr ?_ ?_ ?_ (by omega)⟩<;>first|(simp(disch:=omega) only[vm,seval,h.1,Bv,Bi,Fq,Am,BF,Ao];done)|rfl
instance AYP {a0}:CF vE (GH N a0) 280 [.str a0] (fun r=>.str r):=⟨fun h hQ=>Tw h rfl hQ⟩
@[reducible, instance] def KD {v1_0 k2 xs s8_0} := LR.mk (X := AY N v1_0 k2 xs s8_0) (G := fun xs i (s : Unit) => AY N v1_0 k2 xs i) (i := s8_0) (s := ()) (js := [(4, 2), (9, 10)]) (cs := [8]) (V := fun i s => [.int .i64 i]) (Ms := fun i s => []) rfl (fun i s => AY.eq_1 ..) (fun x xs i s => AY.eq_2 ..)
instance Ka {a0 v1_0}:CF vE (BH N a0 v1_0) 120 [.slice 7 (List.map Ap a0) false,.fn (.func 121) [.agg [.str v1_0.origin.host,.int .i64 v1_0.origin.port,.str v1_0.target,.int .u64 v1_0.now]] []] (fun r=>.int .i64 r):=AR (BH.eq_1 ..) Tryz.func120 rfl Tryz.ntmps120 Tryz.results120
@[reducible, instance] def AVA {a1 k2 xs s5} := LQ.mk (X := Gv N a1 k2 xs s5) (G := fun xs i (s : (List (List UInt8))) => Gv N a1 k2 xs s) (s := s5) (js := [(7, 1), (12, 13)]) (cs := [5, 11]) (V := fun i s => [.slice 1 (List.map AVal.str s) true, .int .i64 i]) (Ms := fun i s => []) (fun _ => rfl) (fun i s => Gv.eq_1 ..) (fun x xs i s => Gv.eq_2 ..)
instance AgR {a0 a1}:CF vE (PR N a0 a1) 199 [EP a0,.str a1] (fun r=>.slice 1 (List.map AVal.str r) false):=AR (PR.eq_1 ..) Tryz.func199 rfl Tryz.ntmps199 Tryz.results199 [(6,[19],.done)]
@[reducible, instance] def ATt {k11 xs s5} := LQ.mk (X := FP N k11 xs s5) (G := fun xs i (s : Int) => FP N k11 xs s) (s := s5) (js := [(7, 1), (42, 14)]) (cs := [5, 41]) (V := fun i s => [.int .i64 s, .int .i64 i]) (Ms := fun i s => []) (fun _ => rfl) (fun i s => FP.eq_1 ..) (fun x xs i s => FP.eq_2 ..)
@[reducible, instance] def ATf {a1 k25 xs bn13} := LQ.mk (X := FU N a1 k25 xs bn13) (G := fun xs i (s : StringsBuilder) => FU N a1 k25 xs s) (s := bn13) (js := [(10, 1), (66, 8)]) (cs := [65]) (V := fun i s => [.int .i64 i]) (Ms := fun i s => [.t (fun q => [F8 q 274 2 s.addr, .buf 5 s.buf true])]) (fun _ => rfl) (fun i s => FU.eq_1 ..) (fun x xs i s => FU.eq_2 ..)
instance Abg {a0 a1}:CF vE (strings_Join N a0 a1) 200 [.slice 1 (List.map AVal.str a0) false,.str a1] (fun r=>.str r):=AR (strings_Join.eq_1 ..) Tryz.func200 rfl Tryz.ntmps200 Tryz.results200 [(18,[8],.done)]
instance AKU {a0}:CB vE (GA N a0) 204 (fun i0=>[.ptr i0 0]) (fun i0=>[.str a0.rest,.int .u64 a0.size]) (fun r=>.int .i64 r.1) (fun i0 r=>[.str r.2.rest,.int .u64 r.2.size]):=D9 (GA.eq_1 ..) Tryz.func204 rfl Tryz.ntmps204 Tryz.results204 [(4,[],.stop)]
@[reducible, instance] def Ti {k2 xs} := LQ.mk (X := Bq N k2 xs) (G := fun xs i (s : Unit) => Bq N k2 xs) (s := ()) (js := [(8, 3), (19, 9)]) (cs := [18]) (V := fun i s => [.int .i64 i]) (Ms := fun i s => []) (fun _ => rfl) (fun i s => Bq.eq_1 ..) (fun x xs i s => Bq.eq_2 ..)
@[reducible, instance] def TL {a1 a2 k9 xs s11} := LQ.mk (X := Br N a1 a2 k9 xs s11) (G := fun xs i (s : Int) => Br N a1 a2 k9 xs s) (s := s11) (js := [(8, 2), (12, 2), (31, 27)]) (cs := [11, 30]) (V := fun i s => [.int .u64 s, .int .i64 i]) (Ms := fun i s => []) (fun _ => rfl) (fun i s => Br.eq_1 ..) (fun x xs i s => Br.eq_2 ..)
instance VG {a0 a1 a2}:CF vE (E5 N a0 a1 a2) 299 [.str a0,.int .u64 a1,.int .u64 a2,.fn (.func 290) [] []] (fun r=>.tuple [.int .u64 r.1,.int .i64 r.2]):=AR (E5.eq_1 ..) Tryz.func299 rfl Tryz.ntmps299 Tryz.results299 [(14,[],.stop)]
instance Yl {a0 a1 a2}:CB vE (IX N a0 a1 a2) 231 (fun i0=>[.ptr i0 0,AB a1,.str a2]) (fun i0=>[.str a0.did.method,.str a0.did.iD,.int .i64 a0.e]) (fun r=>.str r.1) (fun i0 r=>[.str r.2.did.method,.str r.2.did.iD,.int .i64 r.2.e]):=D9 (IX.eq_1 ..) Tryz.func231 rfl Tryz.ntmps231 Tryz.results231
instance AO2 {a0}:CB vE (KE N a0) 456 (fun i0=>[.ptr i0 0]) (fun i0=>[.str a0.s,.int .i64 a0.at_]) (fun r=>.tuple [.str r.1,.int .i64 r.2.1]) (fun i0 r=>[.str r.2.2.s,.int .i64 r.2.2.at_]):=D9 (KE.eq_1 ..) Tryz.func456 rfl Tryz.ntmps456 Tryz.results456 [(2,[],.take 0 (.take 1 (.take 2 (.take 3 (.take 4 (.take 5 (.take 6 (.take 7 (.alt 8 [6,5,4,2,1,0] (.take 9 (.alt 10 [7,6,5,4,3,2,1,0] (.alt 11 [7,6,5,4,3,2,1,0] (.alt 12 [7,6,5,4,3,2,1,0] (.alt 13 [] (.alt 14 [] (.alt 15 [] (.done) (.stop)) (.stop)) (.stop)) (.alt 13 [] (.alt 12 [7,6,5,4,3,2,1,0] (.alt 14 [] (.alt 15 [] (.done) (.stop)) (.stop)) (.alt 14 [] (.alt 12 [7,6,5,4,3,2,1,0] (.alt 15 [] (.done) (.stop)) (.stop)) (.stop))) (.stop))) (.alt 12 [7,6,5,4,3,2,1,0] (.alt 11 [7,6,5,4,3,2,1,0] (.alt 13 [] (.alt 14 [] (.alt 15 [] (.done) (.stop)) (.stop)) (.stop)) (.alt 13 [] (.alt 11 [7,6,5,4,3,2,1,0] (.alt 14 [] (.alt 15 [] (.done) (.stop)) (.stop)) (.stop)) (.stop))) (.alt 13 [] (.alt 11 [7,6,5,4,3,2,1,0] (.alt 12 [7,6,5,4,3,2,1,0] (.alt 14 [] (.alt 15 [] (.done) (.stop)) (.stop)) (.alt 14 [] (.alt 12 [7,6,5,4,3,2,1,0] (.alt 15 [] (.done) (.stop)) (.stop)) (.stop))) (.alt 12 [7,6,5,4,3,2,1,0] (.alt 11 [7,6,5,4,3,2,1,0] (.alt 14 [] (.alt 15 [] (.done) (.stop)) (.stop)) (.stop)) (.stop))) (.stop)))) (.alt 11 [7,6,5,4,3,2,1,0] (.alt 10 [7,6,5,4,3,2,1,0] (.alt 12 [7,6,5,4,3,2,1,0] (.alt 13 [] (.alt 14 [] (.alt 15 [] (.done) (.stop)) (.stop)) (.stop)) (.alt 13 [] (.alt 12 [7,6,5,4,3,2,1,0] (.alt 14 [] (.alt 15 [] (.done) (.stop)) (.stop)) (.alt 14 [] (.alt 12 [7,6,5,4,3,2,1,0] (.alt 15 [] (.done) (.stop)) (.stop)) (.stop))) (.stop))) (.alt 12 [7,6,5,4,3,2,1,0] (.alt 10 [7,6,5,4,3,2,1,0] (.alt 13 [] (.alt 14 [] (.alt 15 [] (.done) (.stop)) (.stop)) (.stop)) (.stop)) (.stop))) (.alt 12 [7,6,5,4,3,2,1,0] (.alt 10 [7,6,5,4,3,2,1,0] (.alt 11 [7,6,5,4,3,2,1,0] (.alt 13 [] (.alt 14 [] (.alt 15 [] (.done) (.stop)) (.stop)) (.stop)) (.alt 13 [] (.alt 11 [7,6,5,4,3,2,1,0] (.alt 14 [] (.alt 15 [] (.done) (.stop)) (.stop)) (.stop)) (.stop))) (.alt 11 [7,6,5,4,3,2,1,0] (.alt 10 [7,6,5,4,3,2,1,0] (.alt 13 [] (.alt 14 [] (.alt 15 [] (.done) (.stop)) (.stop)) (.stop)) (.stop)) (.stop))) (.stop))))) (.stop))))))))))]
instance APF {a0 a1}:CB vE (Dm N a0 a1) 458 (fun i0=>[.ptr i0 0,.str a1]) (fun i0=>[.str a0.s,.int .i64 a0.at_]) (fun r=>.bool r.1) (fun i0 r=>[.str r.2.s,.int .i64 r.2.at_]):=D9 (Dm.eq_1 ..) Tryz.func458 rfl Tryz.ntmps458 Tryz.results458 [(1,[],.take 0 (.take 1 (.take 2 (.take 3 (.take 4 (.take 5 (.take 6 (.take 7 (.take 8 (.take 9 (.take 10 (.take 11 (.take 12 (.take 13 (.take 14 (.take 15 (.take 16 (.take 17 (.take 18 (.take 19 (.take 20 (.alt 21 [19,18,17,16,15,14,13,12,9,8,7,6,5,4,3,2,1,0] (.take 22 (.take 23 (.done))) (.stop)))))))))))))))))))))))]
instance AKF {a0 a1}:CB vE (GG N a0 a1) 459 (fun i0=>[.ptr i0 0,.int .i64 a1]) (fun i0=>[.str a0.s,.int .i64 a0.at_]) (fun r=>.tuple []) (fun i0 r=>[.str r.s,.int .i64 r.at_]):=D9 (GG.eq_1 ..) Tryz.func459 rfl Tryz.ntmps459 Tryz.results459
@[reducible, instance] def O1 {a0 k3 k s5} := LF.mk (X := Au N a0 k3 k s5) (G := fun k (s : Int) => Au N a0 k3 k s) (s := s5) (js := [(25, 9)]) (cs := [5]) (V := fun s => [.int .i64 s]) (Ms := fun s => []) rfl (fun s => Au.eq_1 ..) (fun k s => Au.eq_2 ..)
instance QN {a0}:CF vE (DJ N a0) 479 [.str a0] (fun r=>.tuple [.int .i32 r.1,.int .i64 r.2]):=AR (DJ.eq_1 ..) Tryz.func479 rfl Tryz.ntmps479 Tryz.results479
@[reducible, instance] def VK {a3 y1 k4 xs s21 s9 bi0} := LR.mk (X := CU N a3 y1 k4 xs s21 s9 bi0) (G := fun xs i (s : (List ApiProperty) × JrdDecoder) => CU N a3 y1 k4 xs i s.1 s.2) (i := s21) (s := (s9, bi0)) (js := [(11, 3), (22, 31)]) (cs := [9, 21]) (V := fun i s => [.slice 3 (List.map BM s.1) true, .int .i64 i]) (Ms := fun i s => [.k, .k, .s ([.int .i64 s.2.e])]) rfl (fun i s => CU.eq_1 ..) (fun x xs i s => CU.eq_2 ..)
instance XY {a0 a1 a2 a3}:CB vE (Dj N a0 a1 a2 a3) 305 (fun i0=>[.ptr i0 0,AB a1,.str a2,.bool a3]) (fun i0=>[.int .i64 a0.e]) (fun r=>.slice 3 (List.map BM r.1) false) (fun i0 r=>[.int .i64 r.2.e]):=D9 (Dj.eq_1 ..) Tryz.func305 rfl Tryz.ntmps305 Tryz.results305 [(8,[],.stop),(11,[48],.done)]
end Go.Proofs.YtfknikagmmfakaaGreatDoor
