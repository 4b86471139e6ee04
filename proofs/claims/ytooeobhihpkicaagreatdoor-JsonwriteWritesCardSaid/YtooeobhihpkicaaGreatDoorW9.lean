import Derived.Test.YtooeobhihpkicaaGreatDoorVmFacts
import Derived.Test.YtooeobhihpkicaaGreatDoorDefs
import Derived.Test.YtooeobhihpkicaaGreatDoorVM2
import Derived.Test.YtooeobhihpkicaaGreatDoorW2
import Derived.Test.YtooeobhihpkicaaGreatDoorW4
import Derived.Test.YtooeobhihpkicaaGreatDoorW5
import Derived.Test.YtooeobhihpkicaaGreatDoorW7
import Derived.Test.YtooeobhihpkicaaGreatDoorW8
set_option linter.unusedVariables false
set_option linter.unusedSimpArgs false
set_option maxHeartbeats 4000000
set_option maxRecDepth 100000
set_option linter.defProp false
namespace Go.Proofs.YtooeobhihpkicaaGreatDoor
open Go.VM
variable{N n:Nat}{m:MS}{Q:PQ}{args:List AVal}
theorem U3 {a0 a1 r} (h:NK N a0 a1=some r) (ha:args=[.str a0,.int .i64 a1]) (hQ: ∀n',n≤n'→Gl (Q (.tuple [.str r.1,.int .i64 r.2.1,.int .i64 r.2.2]) ⟨m,n'⟩)):ACall vE 57 args ⟨m,n⟩ Q:=by
 rw[NK]at h
 subst ha
 refine ent hQ Tryz.func57 rfl Tryz.ntmps57 Tryz.results57 (.q (.r []) (.q (.r []) .z)) fun R hR=>?_
 replace h:=And.intro trivial h
 simp(disch:=omega) only[vm,seval,h.1]
 refine⟨Ad (γ:=Unit) h [4,5,6,7,8,9,10,11,12,13,14,15,16,17,18,19,20,21,22,23,24,25,26,27,28,29,30,31,32,33,34,35,36,37,38,39,40,41,42,43,44,45,46,47,48,49,50,51,52,53,54,55,56,57,58,59,60,61,62,63,64,65,66,67,68,69] [] (fun j1 g=>[]) (fun j1 g=>m) (.q (.r []) .z) ?_ ?_⟩<;>clear h
 rintro j1 _ n4 hnn4 _ _ h
 refine AC (.q (.r []) .z) ?_
 obtain⟨H,h⟩:=h
 cases h
 simp(disch:=omega) only[vm,seval,H]
 refine⟨(hR _ _ _ _ _ _ (by simp(disch:=omega) only[vm,seval,H];rfl) slr ?_ (by omega) ?_).1⟩<;>first|(simp(disch:=omega) only[vm,seval,H];done)|rfl
 intro k2 Jk2 hk2 h
 simp(disch:=omega) only[vm,seval,h.1]
 refine⟨Du (σ:=(List UInt8)×Int) (γ:=Unit) (fun k s=>Gp N a0 k2 k s.1 s.2) (fun s g=>[.str s.1,.int .i64 s.2]) (fun s g=>m) [4,5,6,9,10,11,12,13,14,17,18,19,20,21,22,23,24,25,26,27,28,29,30,31,32,33,34,35,36,37,38,39,40,41,42,43,44,45,46,47,48,49,50,51,52,53,54,55,56,57,58,59,60,61,62,63,64,65,66,67,68,69] [7,8] ([],(wr .i64 (a1+1))) () h (fun _=>rfl) (by first|(simp(disch:=omega) only[vm,seval,h.1];done)|rfl) (by first|(simp(disch:=omega) only[vm,seval,h.1];done)|rfl) ?_⟩
 clear h
 rintro k5 ⟨s7,s8⟩ _ nL0_1 hnL0_1 _ h Jk5 hk5
 change _∧Gp N a0 k2 (k5+1) s7 s8=_ at h
 rw[Gp]at h
 refine AC (.q (.q (.r []) (.c .z .z)) (.q (.r []) (.c (.q (.r []) .z) (.q (.r []) (.c (.q (.r []) (.q (.q (.r []) (.c (.q (.r []) .z) .z)) (.r []))) (.q (.r []) (.c (.q (.r []) .z) (.q (.r []) (.q (.q (.r []) (.c (.q (.r []) .z) .z)) (.r [])))))))))) ?_
 replace h:=AJ h
 rcases h with h|h
 replace h:=AB h
 obtain⟨x6,h⟩:=h
 replace h:=AJ h
 rcases h with h|h
 obtain⟨H,h⟩:=h
 cases h
 simp(disch:=omega) only[vm,seval,H]
 refine⟨(hR _ _ _ _ _ _ (by simp(disch:=omega) only[vm,seval,H];rfl) slr ?_ (by omega) ?_).1⟩<;>first|(simp(disch:=omega) only[vm,seval,H];done)|rfl
 replace h:=AJ h
 rcases h with h|h
 replace h:=AB h
 obtain⟨y7,h⟩:=h
 simp(disch:=omega) only[vm,seval,h.1]
 refine⟨Q4 h.1.1 (by first|(simp(disch:=omega) only[vm,seval,h.1];done)|rfl) fun n8 hn8=>?_⟩
 replace h:=AJ h
 rcases h with h|h
 obtain⟨H,h⟩:=h
 cases h
 simp(disch:=omega) only[vm,seval,H]
 refine⟨(hR _ _ _ _ _ _ (by simp(disch:=omega) only[vm,seval,H];rfl) slr ?_ (by omega) ?_).1⟩<;>first|(simp(disch:=omega) only[vm,seval,H];done)|rfl
 replace h:=Ac h
 obtain⟨c,h⟩:=h
 try simp only[liE,seval]at c
 replace h:=AR c h
 simp(disch:=omega) only[vm,seval,h.1]
 refine⟨hk5 ((s7++y7.1),y7.2.1) () _ _ _ _ h.2 slr ?_ ?_ ?_ (by omega)⟩<;>first|(simp(disch:=omega) only[vm,seval,h.1];done)|rfl
 replace h:=AJ h
 rcases h with h|h
 obtain⟨H,h⟩:=h
 cases h
 simp(disch:=omega) only[vm,seval,H]
 refine⟨(hR _ _ _ _ _ _ (by simp(disch:=omega) only[vm,seval,H];rfl) slr ?_ (by omega) ?_).1⟩<;>first|(simp(disch:=omega) only[vm,seval,H];done)|rfl
 replace h:=AB h
 obtain⟨y9,h⟩:=h
 simp(disch:=omega) only[vm,seval,h.1]
 refine⟨ML h.1.1 (by first|(simp(disch:=omega) only[vm,seval,h.1];done)|rfl) fun n10 hn10=>?_⟩
 replace h:=AJ h
 rcases h with h|h
 obtain⟨H,h⟩:=h
 cases h
 simp(disch:=omega) only[vm,seval,H]
 refine⟨(hR _ _ _ _ _ _ (by simp(disch:=omega) only[vm,seval,H];rfl) slr ?_ (by omega) ?_).1⟩<;>first|(simp(disch:=omega) only[vm,seval,H];done)|rfl
 replace h:=AB h
 obtain⟨x11,h⟩:=h
 replace h:=Ac h
 obtain⟨c,h⟩:=h
 try simp only[liE,seval]at c
 replace h:=AR c h
 simp(disch:=omega) only[vm,seval,h.1]
 refine⟨hk5 ((s7++x11),y9.2.1) () _ _ _ _ h.2 slr ?_ ?_ ?_ (by omega)⟩<;>first|(simp(disch:=omega) only[vm,seval,h.1];done)|rfl
 simp(disch:=omega) only[vm,seval,h.1]
 refine⟨hk2 () () _ _ _ _ h.2 slr ?_ ?_ ?_ (by omega)⟩<;>first|(simp(disch:=omega) only[vm,seval,h.1];done)|rfl
theorem OQ {a0 r} (h:HZ N a0=some r) (ha:args=[.str a0]) (hQ: ∀n',n≤n'→Gl (Q (.int .i64 r) ⟨m,n'⟩)):ACall vE 78 args ⟨m,n⟩ Q:=by
 rw[HZ]at h
 subst ha
 refine ent hQ Tryz.func78 rfl Tryz.ntmps78 Tryz.results78 (.q (.r []) (.q (.r []) (.q (.r []) .z))) fun R hR=>?_
 replace h:=And.intro trivial h
 replace h:=AB h
 obtain⟨y1,h⟩:=h
 simp(disch:=omega) only[vm,seval,h.1]
 refine⟨Jm h.1.1 (by first|(simp(disch:=omega) only[vm,seval,h.1];done)|rfl) fun n2 hn2=>?_⟩
 replace h:=AB h
 obtain⟨y3,h⟩:=h
 simp(disch:=omega) only[vm,seval,h.1]
 refine⟨Qq h.1.1 (by first|(simp(disch:=omega) only[vm,seval,h.1];done)|rfl) fun n4 hn4=>?_⟩
 simp(disch:=omega) only[vm,seval,h.1]
 refine⟨Ad (γ:=Unit) h [2,13,14,15,16,17,18] [4] (fun j5 g=>[.int .u64 j5]) (fun j5 g=>m) (.q (.r []) (.c (.q (.r []) .z) (.q (.r []) (.c (.r []) .z)))) ?_ ?_⟩<;>clear h
 rintro j5 _ n8 hnn8 _ _ h
 refine AC (.q (.q (.r []) (.c (.q (.r []) .z) .z)) (.q (.r []) .z)) ?_
 replace h:=AB h
 obtain⟨y9,h⟩:=h
 simp(disch:=omega) only[vm,seval,h.1]
 refine⟨Mo h.1.1 (by first|(simp(disch:=omega) only[vm,seval,h.1];done)|rfl) fun n10 hn10=>?_⟩
 replace h:=AJ h
 rcases h with h|h
 obtain⟨H,h⟩:=h
 cases h
 simp(disch:=omega) only[vm,seval,H]
 refine⟨(hR _ _ _ _ _ _ (by simp(disch:=omega) only[vm,seval,H];rfl) slr ?_ (by omega) ?_).1⟩<;>first|(simp(disch:=omega) only[vm,seval,H];done)|rfl
 obtain⟨H,h⟩:=h
 cases h
 simp(disch:=omega) only[vm,seval,H]
 refine⟨(hR _ _ _ _ _ _ (by simp(disch:=omega) only[vm,seval,H];rfl) slr ?_ (by omega) ?_).1⟩<;>first|(simp(disch:=omega) only[vm,seval,H];done)|rfl
 intro k6 Jk6 hk6 h
 replace h:=AJ h
 rcases h with h|h
 obtain⟨H,h⟩:=h
 cases h
 simp(disch:=omega) only[vm,seval,H]
 refine⟨(hR _ _ _ _ _ _ (by simp(disch:=omega) only[vm,seval,H];rfl) slr ?_ (by omega) ?_).1⟩<;>first|(simp(disch:=omega) only[vm,seval,H];done)|rfl
 replace h:=AJ h
 rcases h with h|h
 simp(disch:=omega) only[vm,seval,h.1]
 refine⟨hk6 1099511627776 () _ _ _ _ h.2 slr ?_ ?_ ?_ (by omega)⟩<;>first|(simp(disch:=omega) only[vm,seval,h.1];done)|rfl
 simp(disch:=omega) only[vm,seval,h.1]
 refine⟨hk6 y3.1 () _ _ _ _ h.2 slr ?_ ?_ ?_ (by omega)⟩<;>first|(simp(disch:=omega) only[vm,seval,h.1];done)|rfl
theorem FC {l0 a0 a1 a2 c3_0 r}{i0:Nat} (h:BX N l0 a0 a1 a2 c3_0=some r) (ha:args=[.bsl 1 i0 0 l0,.int .i64 a1,.int .i64 a2,.fn (.func 66) [] [.cptr [.int .i64 c3_0.kind,.str c3_0.text,.slice 1 (List.map AVal.str c3_0.keys) false,.slice 4 (List.map AA c3_0.items) false]]]) (hi0:Bf m i0=some (List.map (AVal.int .i64) a0)) (hQ: ∀n',n≤n'→Gl (Q (.tuple [.int .i64 r.1,.int .i64 r.2.1]) ⟨Bn m i0 (List.map (AVal.int .i64) r.2.2),n'⟩)):ACall vE 106 args ⟨m,n⟩ Q:=by
 rw[BX]at h
 subst ha
 refine ACall.front hi0 fun hin=>ent (fun n' k=>⟨_,rfl,(hQ n' k).go⟩) Tryz.func106 rfl Tryz.ntmps106 Tryz.results106 (.q (.r []) (.q (.r []) (.q (.r []) (.q (.r []) (.q (.r []) (.q (.r []) .z)))))) fun R hR=>?_
 replace h:=And.intro trivial h
 simp(disch:=omega) only[vm,seval,h.1]
 refine⟨Ad (γ:=Unit) h [12,14,33,34,35,36,37,38,39,40,41,42,43,44,45,46,47,48,49,50,51,52,53,54] [13] (fun j1 g=>[.int .i64 j1.1]) (fun j1 g=>(n,[.int .i64 j1.2.1])::(i0,List.map (AVal.int .i64) j1.2.2)::BP m i0) (.q (.r []) (.c .z .z)) ?_ ?_⟩<;>clear h
 rintro j1 _ n4 hnn4 _ _ h
 refine AC (.q (.r []) (.q (.r []) (.c (.q (.r []) .z) (.q (.r []) (.c (.q (.r []) .z) (.q (.r []) .z)))))) ?_
 replace h:=AJ h
 rcases h with h|h
 obtain⟨H,h⟩:=h
 cases h
 simp(disch:=omega) only[vm,seval,H]
 refine⟨(hR _ _ _ _ _ _ (by simp(disch:=omega) only[vm,seval,H];rfl) (.cons _ slr) ?_ (by omega) ?_).1⟩<;>first|(simp(disch:=omega) only[vm,seval,H];done)|rfl
 replace h:=AJ h
 rcases h with h|h
 obtain⟨H,h⟩:=h
 cases h
 simp(disch:=omega) only[vm,seval,H]
 refine⟨(hR _ _ _ _ _ _ (by simp(disch:=omega) only[vm,seval,H];rfl) (.cons _ slr) ?_ (by omega) ?_).1⟩<;>first|(simp(disch:=omega) only[vm,seval,H];done)|rfl
 obtain⟨H,h⟩:=h
 cases h
 simp(disch:=omega) only[vm,seval,H]
 refine⟨(hR _ _ _ _ _ _ (by simp(disch:=omega) only[vm,seval,H];rfl) (.cons _ slr) ?_ (by omega) ?_).1⟩<;>first|(simp(disch:=omega) only[vm,seval,H];done)|rfl
 intro k2 Jk2 hk2 h
 replace h:=AJ h
 rcases h with h|h
 simp(disch:=omega) only[vm,seval,h.1]
 refine⟨Ad (γ:=Unit) h [35,36,37,38,39,40,41,42,43,44,45,46,47,48] [12,13,14] (fun j5 g=>[.int .i64 j5.1,.int .i64 j5.2.1,.int .i64 j5.2.2.1]) (fun j5 g=>(n,[.int .i64 j5.2.2.2.1])::(i0,List.map (AVal.int .i64) j5.2.2.2.2)::BP m i0) (.q (.r []) (.c (.q (.r []) (.q (.r []) (.r []))) .z)) ?_ ?_⟩<;>clear h
 rintro j5 _ n8 hnn8 _ _ h
 refine AC (.r []) ?_
 replace h:=AB h
 obtain⟨y15,h⟩:=h
 simp(disch:=omega) only[vm,seval,h.1]
 refine⟨Dl h.1.1 (by first|(simp(disch:=omega) only[vm,seval,h.1];done)|rfl) (i0:=i0) (by simp(disch:=omega) only[vm,seval,h.1]) (i4:=n) (by simp(disch:=omega) only[vm,seval,h.1]) (by omega) fun n16 hn16=>?_⟩
 simp(disch:=omega) only[vm,seval,h.1]
 refine⟨hk2 (y15.1,y15.2.2,y15.2.1) () _ _ _ _ h.2 slr ?_ ?_ ?_ (by omega)⟩<;>first|(simp(disch:=omega) only[vm,seval,h.1];done)|rfl
 intro k6 Jk6 hk6 h
 replace h:=AJ h
 rcases h with h|h
 replace h:=AB h
 obtain⟨y9,h⟩:=h
 simp(disch:=omega) only[vm,seval,h.1]
 refine⟨CE h.1.1 (by first|(simp(disch:=omega) only[vm,seval,h.1];done)|rfl) (i0:=i0) (by simp(disch:=omega) only[vm,seval,h.1]) (i2:=n) (by simp(disch:=omega) only[vm,seval,h.1]) (by omega) fun n10 hn10=>?_⟩
 replace h:=AB h
 obtain⟨y11,h⟩:=h
 simp(disch:=omega) only[vm,seval,h.1]
 refine⟨CE h.1.1 (by first|(simp(disch:=omega) only[vm,seval,h.1];done)|rfl) (i0:=i0) (by simp(disch:=omega) only[vm,seval,h.1]) (i2:=n) (by simp(disch:=omega) only[vm,seval,h.1]) (by omega) fun n12 hn12=>?_⟩
 replace h:=AB h
 obtain⟨y13,h⟩:=h
 simp(disch:=omega) only[vm,seval,h.1]
 refine⟨CE h.1.1 (by first|(simp(disch:=omega) only[vm,seval,h.1];done)|rfl) (i0:=i0) (by simp(disch:=omega) only[vm,seval,h.1]) (i2:=n) (by simp(disch:=omega) only[vm,seval,h.1]) (by omega) fun n14 hn14=>?_⟩
 simp(disch:=omega) only[vm,seval,h.1]
 refine⟨hk6 (y9.1,y11.1,y13.1,y13.2.2,y13.2.1) () _ _ _ _ h.2 slr ?_ ?_ ?_ (by omega)⟩<;>first|(simp(disch:=omega) only[vm,seval,h.1];done)|rfl
 simp(disch:=omega) only[vm,seval,h.1]
 refine⟨hk6 ((wr .i64 (a1+(wr .i64 ((wr .i64 ((wr .i64 (a2-a1)).tdiv 4)) * 1)))),(wr .i64 (a1+(wr .i64 ((wr .i64 ((wr .i64 (a2-a1)).tdiv 4)) * 2)))),(wr .i64 (a1+(wr .i64 ((wr .i64 ((wr .i64 (a2-a1)).tdiv 4)) * 3)))),0,a0) () _ _ _ _ h.2 slr ?_ ?_ ?_ (by omega)⟩<;>first|(simp(disch:=omega) only[vm,seval,h.1];done)|rfl
 simp(disch:=omega) only[vm,seval,h.1]
 refine⟨hk2 ((wr .i64 (a1+(wr .i64 ((wr .i64 ((wr .i64 (a2-a1)).tdiv 4)) * 2)))),0,a0) () _ _ _ _ h.2 slr ?_ ?_ ?_ (by omega)⟩<;>first|(simp(disch:=omega) only[vm,seval,h.1];done)|rfl
theorem Pi (N:Nat): ∀D:Nat,(∀ {a0:ApiValue}{r:Bool} (h:EF N D a0=some r){args:List AVal}{n:Nat}{m:MS} (ha:args=[AA a0]){Q:PQ} (hQ: ∀n',n≤n'→Gl (Q (.bool r) ⟨m,n'⟩)),ACall vE 32 args ⟨m,n⟩ Q):=by
 intro D
 induction D with
 |zero=>
  intro a0 r h
  simp only[EF,reduceCtorEq]at h
 |succ D ih_ref15_shape=>
  intro a0 r h args n m ha Q hQ
  rw[EF]at h
  subst ha
  refine IL hQ Tryz.func32 rfl Tryz.ntmps32 Tryz.results32 (.q (.r []) .z) fun R hR=>?_
  replace h:=And.intro trivial h
  simp(disch:=omega) only[vm,seval,h.1]
  refine⟨Ad (γ:=Unit) h [2,3,4,7,8,9,10,11,12,13,14,15,16,17,18,19,20,21,22,23,24,25,26,27,28,29,30,31,32,33,34,35,36,37,38,39,40,41,42,43,44,45,46,47,48,49,50,51,52,53,54,55,56,57,58,59,60,61,62,63,64,65,66,67,68,69,70,71,72,73,74,75,76,77,78,79,80,81,82,83,84,85,86,87,88,89,90,91,92,93,94,95,96,97,98,99,100,101,102,103] [] (fun j1 g=>[]) (fun j1 g=>(n,[.int .i64 a0.kind,.str a0.text,.slice 1 (List.map AVal.str a0.keys) false,.slice 4 (List.map AA a0.items) false])::m) (.q (.r []) .z) ?_ ?_⟩<;>clear h
  rintro j1 _ n4 hnn4 _ _ h
  refine AC .z ?_
  simp(disch:=omega) only[vm,seval,h.1]
  refine⟨Ad (γ:=Unit) h [2,6,104,105,106,107,108,109,110,111,112,113,114] [] (fun j23 g=>[]) (fun j23 g=>(n,[.int .i64 a0.kind,.str a0.text,.slice 1 (List.map AVal.str a0.keys) false,.slice 4 (List.map AA a0.items) false])::m) (.q (.r []) .z) ?_ ?_⟩<;>clear h
  rintro j23 _ n26 hnn26 _ _ h
  refine AC (.q (.r []) .z) ?_
  obtain⟨H,h⟩:=h
  cases h
  simp(disch:=omega) only[vm,seval,H]
  refine⟨(hR _ _ _ _ _ _ (by simp(disch:=omega) only[vm,seval,H];rfl) (.cons _ slr) ?_ (by omega) ?_).1⟩<;>first|(simp(disch:=omega) only[vm,seval,H];done)|rfl
  intro k24 Jk24 hk24 h
  replace h:=Ac h
  obtain⟨hfk27,h⟩:=h
  simp(disch:=omega) only[vm,seval,h.1]
  refine⟨EG (σ:=Unit) (γ:=Unit) a0.items hfk27 (fun xs i s=>C9 N (EF N D) k24 xs) (fun i s g=>[.int .i64 i]) (fun i s g=>(n,[.int .i64 a0.kind,.str a0.text,.slice 1 (List.map AVal.str a0.keys) false,.slice 4 (List.map AA a0.items) false])::m) [2,6,108,109,110,111,112,113,114] [107] () () h (by first|(simp(disch:=omega) only[vm,seval,h.1];done)|rfl) (by first|(simp(disch:=omega) only[vm,seval,h.1];done)|rfl) ?_ ?_⟩<;>clear h
  rintro s107 _ _ nL0_1 hnL0_1 _ h
  change _∧C9 N (EF N D) k24 []=_ at h
  rw[C9]at h
  refine AC (.q (.r []) (.q (.c .z .z) (.q (.q (.r []) (.q (.r []) (.c (.q (.r []) .z) .z))) (.r [])))) ?_
  simp(disch:=omega) only[vm,seval,h.1]
  refine⟨hk24 () () _ _ _ _ h.2 slr ?_ ?_ ?_ (by omega)⟩<;>first|(simp(disch:=omega) only[vm,seval,h.1];done)|rfl
  rintro xk27 xsk27 s107 _ _ nL0_1 hnL0_1 _ h Jk27 hk27
  change _∧C9 N (EF N D) k24 (xk27::xsk27)=_ at h
  rw[C9]at h
  refine AC (.q (.r []) (.q (.c .z .z) (.q (.q (.r []) (.q (.r []) (.c (.q (.r []) .z) .z))) (.r [])))) ?_
  replace h:=AB h
  obtain⟨y28,h⟩:=h
  simp(disch:=omega) only[vm,seval,h.1]
  refine⟨ih_ref15_shape h.1.1 (by first|(simp(disch:=omega) only[vm,seval,h.1];done)|rfl) fun n29 hn29=>?_⟩
  replace h:=AJ h
  rcases h with h|h
  simp(disch:=omega) only[vm,seval,h.1]
  refine⟨hk27 () () _ _ _ _ h.2 (.cons _ slr) ?_ ?_ ?_ (by omega)⟩<;>first|(simp(disch:=omega) only[vm,seval,h.1];done)|rfl
  obtain⟨H,h⟩:=h
  cases h
  simp(disch:=omega) only[vm,seval,H]
  refine⟨(hR _ _ _ _ _ _ (by simp(disch:=omega) only[vm,seval,H];rfl) (.cons _ (.cons _ slr)) ?_ (by omega) ?_).1⟩<;>first|(simp(disch:=omega) only[vm,seval,H];done)|rfl
  intro k2 Jk2 hk2 h
  simp(disch:=omega) only[vm,seval,h.1]
  refine⟨Ad (γ:=Unit) h [10,11,12] [9] (fun j5 g=>[.bool j5]) (fun j5 g=>(n,[.int .i64 a0.kind,.str a0.text,.slice 1 (List.map AVal.str a0.keys) false,.slice 4 (List.map AA a0.items) false])::m) (.q (.r []) (.c .z (.q (.r []) (.c .z (.r []))))) ?_ ?_⟩<;>clear h
  rintro j5 _ n8 hnn8 _ _ h
  refine AC (.c (.q (.r []) .z) (.q (.r []) (.c (.q (.r []) (.q (.r []) .z)) (.q (.r []) (.c (.q (.r []) .z) (.q (.r []) (.c .z (.q (.r []) (.c .z (.q (.r []) .z)))))))))) ?_
  replace h:=AJ h
  rcases h with h|h
  replace h:=AJ h
  rcases h with h|h
  replace h:=AJ h
  rcases h with h|h
  obtain⟨H,h⟩:=h
  cases h
  simp(disch:=omega) only[vm,seval,H]
  refine⟨(hR _ _ _ _ _ _ (by simp(disch:=omega) only[vm,seval,H];rfl) (.cons _ slr) ?_ (by omega) ?_).1⟩<;>first|(simp(disch:=omega) only[vm,seval,H];done)|rfl
  obtain⟨H,h⟩:=h
  cases h
  simp(disch:=omega) only[vm,seval,H]
  refine⟨(hR _ _ _ _ _ _ (by simp(disch:=omega) only[vm,seval,H];rfl) (.cons _ slr) ?_ (by omega) ?_).1⟩<;>first|(simp(disch:=omega) only[vm,seval,H];done)|rfl
  obtain⟨H,h⟩:=h
  cases h
  simp(disch:=omega) only[vm,seval,H]
  refine⟨(hR _ _ _ _ _ _ (by simp(disch:=omega) only[vm,seval,H];rfl) (.cons _ slr) ?_ (by omega) ?_).1⟩<;>first|(simp(disch:=omega) only[vm,seval,H];done)|rfl
  replace h:=AJ h
  rcases h with h|h
  replace h:=AB h
  obtain⟨y9,h⟩:=h
  simp(disch:=omega) only[vm,seval,h.1]
  refine⟨L8 h.1.1 (by first|(simp(disch:=omega) only[vm,seval,h.1];done)|rfl) fun n10 hn10=>?_⟩
  replace h:=AJ h
  rcases h with h|h
  replace h:=AJ h
  rcases h with h|h
  replace h:=AJ h
  rcases h with h|h
  obtain⟨H,h⟩:=h
  cases h
  simp(disch:=omega) only[vm,seval,H]
  refine⟨(hR _ _ _ _ _ _ (by simp(disch:=omega) only[vm,seval,H];rfl) (.cons _ slr) ?_ (by omega) ?_).1⟩<;>first|(simp(disch:=omega) only[vm,seval,H];done)|rfl
  obtain⟨H,h⟩:=h
  cases h
  simp(disch:=omega) only[vm,seval,H]
  refine⟨(hR _ _ _ _ _ _ (by simp(disch:=omega) only[vm,seval,H];rfl) (.cons _ slr) ?_ (by omega) ?_).1⟩<;>first|(simp(disch:=omega) only[vm,seval,H];done)|rfl
  obtain⟨H,h⟩:=h
  cases h
  simp(disch:=omega) only[vm,seval,H]
  refine⟨(hR _ _ _ _ _ _ (by simp(disch:=omega) only[vm,seval,H];rfl) (.cons _ slr) ?_ (by omega) ?_).1⟩<;>first|(simp(disch:=omega) only[vm,seval,H];done)|rfl
  obtain⟨H,h⟩:=h
  cases h
  simp(disch:=omega) only[vm,seval,H]
  refine⟨(hR _ _ _ _ _ _ (by simp(disch:=omega) only[vm,seval,H];rfl) (.cons _ slr) ?_ (by omega) ?_).1⟩<;>first|(simp(disch:=omega) only[vm,seval,H];done)|rfl
  replace h:=AJ h
  rcases h with h|h
  replace h:=AB h
  obtain⟨y11,h⟩:=h
  simp(disch:=omega) only[vm,seval,h.1]
  refine⟨KM h.1.1 (by first|(simp(disch:=omega) only[vm,seval,h.1];done)|rfl) fun n12 hn12=>?_⟩
  replace h:=AJ h
  rcases h with h|h
  replace h:=AJ h
  rcases h with h|h
  obtain⟨H,h⟩:=h
  cases h
  simp(disch:=omega) only[vm,seval,H]
  refine⟨(hR _ _ _ _ _ _ (by simp(disch:=omega) only[vm,seval,H];rfl) (.cons _ slr) ?_ (by omega) ?_).1⟩<;>first|(simp(disch:=omega) only[vm,seval,H];done)|rfl
  obtain⟨H,h⟩:=h
  cases h
  simp(disch:=omega) only[vm,seval,H]
  refine⟨(hR _ _ _ _ _ _ (by simp(disch:=omega) only[vm,seval,H];rfl) (.cons _ slr) ?_ (by omega) ?_).1⟩<;>first|(simp(disch:=omega) only[vm,seval,H];done)|rfl
  obtain⟨H,h⟩:=h
  cases h
  simp(disch:=omega) only[vm,seval,H]
  refine⟨(hR _ _ _ _ _ _ (by simp(disch:=omega) only[vm,seval,H];rfl) (.cons _ slr) ?_ (by omega) ?_).1⟩<;>first|(simp(disch:=omega) only[vm,seval,H];done)|rfl
  replace h:=AJ h
  rcases h with h|h
  simp(disch:=omega) only[vm,seval,h.1]
  refine⟨Ad (γ:=Unit) h [75,76,77,78,79,80,81,82] [83] (fun j13 g=>[.bool j13]) (fun j13 g=>(n,[.int .i64 a0.kind,.str a0.text,.slice 1 (List.map AVal.str a0.keys) false,.slice 4 (List.map AA a0.items) false])::m) (.r []) ?_ ?_⟩<;>clear h
  rintro j13 _ n16 hnn16 _ _ h
  refine AC (.c (.q (.r []) .z) .z) ?_
  replace h:=AJ h
  rcases h with h|h
  obtain⟨H,h⟩:=h
  cases h
  simp(disch:=omega) only[vm,seval,H]
  refine⟨(hR _ _ _ _ _ _ (by simp(disch:=omega) only[vm,seval,H];rfl) (.cons _ slr) ?_ (by omega) ?_).1⟩<;>first|(simp(disch:=omega) only[vm,seval,H];done)|rfl
  simp(disch:=omega) only[vm,seval,h.1]
  refine⟨hk2 () () _ _ _ _ h.2 slr ?_ ?_ ?_ (by omega)⟩<;>first|(simp(disch:=omega) only[vm,seval,h.1];done)|rfl
  intro k14 Jk14 hk14 h
  replace h:=AJ h
  rcases h with h|h
  simp(disch:=omega) only[vm,seval,h.1]
  refine⟨hk14 ((a0.keys.length:Int) !=0) () _ _ _ _ h.2 slr ?_ ?_ ?_ (by omega)⟩<;>first|(simp(disch:=omega) only[vm,seval,h.1];done)|rfl
  simp(disch:=omega) only[vm,seval,h.1]
  refine⟨hk14 true () _ _ _ _ h.2 slr ?_ ?_ ?_ (by omega)⟩<;>first|(simp(disch:=omega) only[vm,seval,h.1];done)|rfl
  replace h:=AJ h
  rcases h with h|h
  simp(disch:=omega) only[vm,seval,h.1]
  refine⟨Ad (γ:=Unit) h [86,87,88,89,90,91,92,93,94,95,96,97,98,99,100,101,102] [103] (fun j17 g=>[.bool j17]) (fun j17 g=>(n,[.int .i64 a0.kind,.str a0.text,.slice 1 (List.map AVal.str a0.keys) false,.slice 4 (List.map AA a0.items) false])::m) (.r []) ?_ ?_⟩<;>clear h
  rintro j17 _ n20 hnn20 _ _ h
  refine AC (.c (.q (.r []) .z) .z) ?_
  replace h:=AJ h
  rcases h with h|h
  obtain⟨H,h⟩:=h
  cases h
  simp(disch:=omega) only[vm,seval,H]
  refine⟨(hR _ _ _ _ _ _ (by simp(disch:=omega) only[vm,seval,H];rfl) (.cons _ slr) ?_ (by omega) ?_).1⟩<;>first|(simp(disch:=omega) only[vm,seval,H];done)|rfl
  simp(disch:=omega) only[vm,seval,h.1]
  refine⟨hk2 () () _ _ _ _ h.2 slr ?_ ?_ ?_ (by omega)⟩<;>first|(simp(disch:=omega) only[vm,seval,h.1];done)|rfl
  intro k18 Jk18 hk18 h
  replace h:=AJ h
  rcases h with h|h
  replace h:=AJ h
  rcases h with h|h
  simp(disch:=omega) only[vm,seval,h.1]
  refine⟨hk18 true () _ _ _ _ h.2 slr ?_ ?_ ?_ (by omega)⟩<;>first|(simp(disch:=omega) only[vm,seval,h.1];done)|rfl
  replace h:=AB h
  obtain⟨y21,h⟩:=h
  simp(disch:=omega) only[vm,seval,h.1]
  refine⟨Nn h.1.1 (by first|(simp(disch:=omega) only[vm,seval,h.1];done)|rfl) fun n22 hn22=>?_⟩
  simp(disch:=omega) only[vm,seval,h.1]
  refine⟨hk18 (!y21) () _ _ _ _ h.2 slr ?_ ?_ ?_ (by omega)⟩<;>first|(simp(disch:=omega) only[vm,seval,h.1];done)|rfl
  simp(disch:=omega) only[vm,seval,h.1]
  refine⟨hk18 true () _ _ _ _ h.2 slr ?_ ?_ ?_ (by omega)⟩<;>first|(simp(disch:=omega) only[vm,seval,h.1];done)|rfl
  obtain⟨H,h⟩:=h
  cases h
  simp(disch:=omega) only[vm,seval,H]
  refine⟨(hR _ _ _ _ _ _ (by simp(disch:=omega) only[vm,seval,H];rfl) (.cons _ slr) ?_ (by omega) ?_).1⟩<;>first|(simp(disch:=omega) only[vm,seval,H];done)|rfl
  intro k6 Jk6 hk6 h
  replace h:=AJ h
  rcases h with h|h
  simp(disch:=omega) only[vm,seval,h.1]
  refine⟨hk6 (a0.kind==1) () _ _ _ _ h.2 slr ?_ ?_ ?_ (by omega)⟩<;>first|(simp(disch:=omega) only[vm,seval,h.1];done)|rfl
  replace h:=AJ h
  rcases h with h|h
  simp(disch:=omega) only[vm,seval,h.1]
  refine⟨hk6 (a0.kind==3) () _ _ _ _ h.2 slr ?_ ?_ ?_ (by omega)⟩<;>first|(simp(disch:=omega) only[vm,seval,h.1];done)|rfl
  simp(disch:=omega) only[vm,seval,h.1]
  refine⟨hk6 (a0.kind==2) () _ _ _ _ h.2 slr ?_ ?_ ?_ (by omega)⟩<;>first|(simp(disch:=omega) only[vm,seval,h.1];done)|rfl
theorem SA {a0 r} (h:EF N N a0=some r) (ha:args=[AA a0]) (hQ: ∀n',n≤n'→Gl (Q (.bool r) ⟨m,n'⟩)):ACall vE 32 args ⟨m,n⟩ Q:=
 (Pi N N h ha hQ)
theorem Pn (N:Nat): ∀D:Nat,(∀ {a0:ApiValue}{r:(List UInt8)} (h:Dt N D a0=some r){args:List AVal}{n:Nat}{m:MS} (ha:args=[AA a0]){Q:PQ} (hQ: ∀n',n≤n'→Gl (Q (.str r) ⟨m,n'⟩)),ACall vE 28 args ⟨m,n⟩ Q):=by
 intro D
 induction D with
 |zero=>
  intro a0 r h
  simp only[Dt,reduceCtorEq]at h
 |succ D ih_ref15_write=>
  intro a0 r h args n m ha Q hQ
  rw[Dt]at h
  subst ha
  refine IL hQ Tryz.func28 rfl Tryz.ntmps28 Tryz.results28 (.q (.r []) (.q (.q (.r []) (.q (.r []) (.c (.q (.r []) .z) (.q (.r []) (.c (.q (.r []) .z) (.q (.r []) (.c (.q (.r []) .z) (.q (.r []) (.c (.q (.r []) .z) (.q (.r []) (.c (.q (.r []) (.q (.r []) .z)) .z))))))))))) (.q (.r []) .z))) fun R hR=>?_
  replace h:=And.intro trivial h
  replace h:=AJ h
  rcases h with h|h
  obtain⟨H,h⟩:=h
  cases h
  simp(disch:=omega) only[vm,seval,H]
  refine⟨(hR _ _ _ _ _ _ (by simp(disch:=omega) only[vm,seval,H];rfl) (.cons _ slr) ?_ (by omega) ?_).1⟩<;>first|(simp(disch:=omega) only[vm,seval,H];done)|rfl
  replace h:=AJ h
  rcases h with h|h
  obtain⟨H,h⟩:=h
  cases h
  simp(disch:=omega) only[vm,seval,H]
  refine⟨(hR _ _ _ _ _ _ (by simp(disch:=omega) only[vm,seval,H];rfl) (.cons _ slr) ?_ (by omega) ?_).1⟩<;>first|(simp(disch:=omega) only[vm,seval,H];done)|rfl
  replace h:=AJ h
  rcases h with h|h
  obtain⟨H,h⟩:=h
  cases h
  simp(disch:=omega) only[vm,seval,H]
  refine⟨(hR _ _ _ _ _ _ (by simp(disch:=omega) only[vm,seval,H];rfl) (.cons _ slr) ?_ (by omega) ?_).1⟩<;>first|(simp(disch:=omega) only[vm,seval,H];done)|rfl
  replace h:=AJ h
  rcases h with h|h
  obtain⟨H,h⟩:=h
  cases h
  simp(disch:=omega) only[vm,seval,H]
  refine⟨(hR _ _ _ _ _ _ (by simp(disch:=omega) only[vm,seval,H];rfl) (.cons _ slr) ?_ (by omega) ?_).1⟩<;>first|(simp(disch:=omega) only[vm,seval,H];done)|rfl
  replace h:=AJ h
  rcases h with h|h
  replace h:=AB h
  obtain⟨y1,h⟩:=h
  simp(disch:=omega) only[vm,seval,h.1]
  refine⟨M6 h.1.1 (by first|(simp(disch:=omega) only[vm,seval,h.1];done)|rfl) fun n2 hn2=>?_⟩
  obtain⟨H,h⟩:=h
  cases h
  simp(disch:=omega) only[vm,seval,H]
  refine⟨(hR _ _ _ _ _ _ (by simp(disch:=omega) only[vm,seval,H];rfl) (.cons _ slr) ?_ (by omega) ?_).1⟩<;>first|(simp(disch:=omega) only[vm,seval,H];done)|rfl
  simp(disch:=omega) only[vm,seval,h.1]
  refine⟨Ad (γ:=Unit) h [6,7,8,9,31,32,33,34,35,36,37,38,39,40,41,42,43,44,45,46,47,48,49,50,51,52,53,54,55,56,57,58,59,60,61,62,63,64,65] [5] (fun j3 g=>[.slice 1 (List.map (AVal.int .u8) j3) true]) (fun j3 g=>(n,[.int .i64 a0.kind,.str a0.text,.slice 1 (List.map AVal.str a0.keys) false,.slice 4 (List.map AA a0.items) false])::m) (.q (.r []) .z) ?_ ?_⟩<;>clear h
  rintro j3 _ n6 hnn6 _ _ h
  refine AC (.q (.q (.r []) (.c (.q (.r []) .z) .z)) (.q (.r []) .z)) ?_
  replace h:=AJ h
  rcases h with h|h
  replace h:=Ac h
  obtain⟨c,h⟩:=h
  try simp only[liE,seval]at c
  replace h:=AR c h
  replace h:=Ac h
  obtain⟨c,h⟩:=h
  try simp only[liE,seval]at c
  replace h:=AR c h
  obtain⟨H,h⟩:=h
  cases h
  simp(disch:=omega) only[vm,seval,H]
  refine⟨(hR _ _ _ _ _ _ (by simp(disch:=omega) only[vm,seval,H];rfl) (.cons _ slr) ?_ (by omega) ?_).1⟩<;>first|(simp(disch:=omega) only[vm,seval,H];done)|rfl
  replace h:=Ac h
  obtain⟨c,h⟩:=h
  try simp only[liE,seval]at c
  replace h:=AR c h
  replace h:=Ac h
  obtain⟨c,h⟩:=h
  try simp only[liE,seval]at c
  replace h:=AR c h
  obtain⟨H,h⟩:=h
  cases h
  simp(disch:=omega) only[vm,seval,H]
  refine⟨(hR _ _ _ _ _ _ (by simp(disch:=omega) only[vm,seval,H];rfl) (.cons _ slr) ?_ (by omega) ?_).1⟩<;>first|(simp(disch:=omega) only[vm,seval,H];done)|rfl
  intro k4 Jk4 hk4 h
  replace h:=Ac h
  obtain⟨hfk7,h⟩:=h
  simp(disch:=omega) only[vm,seval,h.1]
  refine⟨EG (σ:=(List Int)) (γ:=Unit) a0.items hfk7 (fun xs i s=>CS N a0 (Dt N D) k4 xs i s) (fun i s g=>[.slice 1 (List.map (AVal.int .u8) s) true,.int .i64 i]) (fun i s g=>(n,[.int .i64 a0.kind,.str a0.text,.slice 1 (List.map AVal.str a0.keys) false,.slice 4 (List.map AA a0.items) false])::m) [6,7,8,9,35,36,37,38,39,40,41,42,43,44,45,46,47,48,49,50,51,52,53,54,55,56,57,58,59,60,61,62,63,64,65] [5,34] [] () h (by first|(simp(disch:=omega) only[vm,seval,h.1];done)|rfl) (by first|(simp(disch:=omega) only[vm,seval,h.1];done)|rfl) ?_ ?_⟩<;>clear h
  rintro s34 s5 _ nL0_1 hnL0_1 _ h
  change _∧CS N a0 (Dt N D) k4 [] s34 s5=_ at h
  rw[CS]at h
  refine AC (.q (.r []) (.q (.c .z .z) (.q (.q (.r []) .z) (.r [])))) ?_
  simp(disch:=omega) only[vm,seval,h.1]
  refine⟨hk4 s5 () _ _ _ _ h.2 slr ?_ ?_ ?_ (by omega)⟩<;>first|(simp(disch:=omega) only[vm,seval,h.1];done)|rfl
  rintro xk7 xsk7 s34 s5 _ nL0_1 hnL0_1 _ h Jk7 hk7
  change _∧CS N a0 (Dt N D) k4 (xk7::xsk7) s34 s5=_ at h
  rw[CS]at h
  refine AC (.q (.r []) (.q (.c .z .z) (.q (.q (.r []) .z) (.r [])))) ?_
  simp(disch:=omega) only[vm,seval,h.1]
  refine⟨Ad (γ:=Unit) h [39,40,41,42,43] [5] (fun j8 g=>[.slice 1 (List.map (AVal.int .u8) j8) true]) (fun j8 g=>(nL0_1,[.int .i64 xk7.kind,.str xk7.text,.slice 1 (List.map AVal.str xk7.keys) false,.slice 4 (List.map AA xk7.items) false])::(n,[.int .i64 a0.kind,.str a0.text,.slice 1 (List.map AVal.str a0.keys) false,.slice 4 (List.map AA a0.items) false])::m) (.q (.r []) (.c (.r [41]) .z)) ?_ ?_⟩<;>clear h
  rintro j8 _ n11 hnn11 _ _ h
  refine AC .z ?_
  simp(disch:=omega) only[vm,seval,h.1]
  refine⟨Ad (γ:=Unit) h [8,9,44,45,46,47,48,49,50,51,52,53,54,55,56,57,58,59,60] [5] (fun j12 g=>[.slice 1 (List.map (AVal.int .u8) j12) true]) (fun j12 g=>(nL0_1,[.int .i64 xk7.kind,.str xk7.text,.slice 1 (List.map AVal.str xk7.keys) false,.slice 4 (List.map AA xk7.items) false])::(n,[.int .i64 a0.kind,.str a0.text,.slice 1 (List.map AVal.str a0.keys) false,.slice 4 (List.map AA a0.items) false])::m) (.q (.r []) (.c (.q (.r []) (.r [56])) .z)) ?_ ?_⟩<;>clear h
  rintro j12 _ n15 hnn15 _ _ h
  refine AC (.r [61]) ?_
  replace h:=AB h
  obtain⟨y19,h⟩:=h
  simp(disch:=omega) only[vm,seval,h.1]
  refine⟨ih_ref15_write h.1.1 (by first|(simp(disch:=omega) only[vm,seval,h.1];done)|rfl) fun n20 hn20=>?_⟩
  replace h:=Ac h
  obtain⟨c,h⟩:=h
  try simp only[liE,seval]at c
  replace h:=AR c h
  simp(disch:=omega) only[vm,seval,h.1]
  refine⟨hk7 (j12++(List.map Ae y19)) () _ _ _ _ h.2 (.cons _ slr) ?_ ?_ ?_ (by omega)⟩<;>first|(simp(disch:=omega) only[vm,seval,h.1];done)|rfl
  intro k13 Jk13 hk13 h
  replace h:=AJ h
  rcases h with h|h
  replace h:=AB h
  obtain⟨x16,h⟩:=h
  replace h:=AB h
  obtain⟨y17,h⟩:=h
  simp(disch:=omega) only[vm,seval,h.1]
  refine⟨M6 h.1.1 (by first|(simp(disch:=omega) only[vm,seval,h.1];done)|rfl) fun n18 hn18=>?_⟩
  replace h:=Ac h
  obtain⟨c,h⟩:=h
  try simp only[liE,seval]at c
  replace h:=AR c h
  replace h:=Ac h
  obtain⟨c,h⟩:=h
  try simp only[liE,seval]at c
  replace h:=AR c h
  simp(disch:=omega) only[vm,seval,h.1]
  refine⟨hk13 ((j8++(List.map Ae y17.1))++[58]) () _ _ _ _ h.2 slr ?_ ?_ ?_ (by omega)⟩<;>first|(simp(disch:=omega) only[vm,seval,h.1];done)|rfl
  simp(disch:=omega) only[vm,seval,h.1]
  refine⟨hk13 j8 () _ _ _ _ h.2 slr ?_ ?_ ?_ (by omega)⟩<;>first|(simp(disch:=omega) only[vm,seval,h.1];done)|rfl
  intro k9 Jk9 hk9 h
  replace h:=AJ h
  rcases h with h|h
  replace h:=Ac h
  obtain⟨c,h⟩:=h
  try simp only[liE,seval]at c
  replace h:=AR c h
  simp(disch:=omega) only[vm,seval,h.1]
  refine⟨hk9 (s5++[44]) () _ _ _ _ h.2 slr ?_ ?_ ?_ (by omega)⟩<;>first|(simp(disch:=omega) only[vm,seval,h.1];done)|rfl
  simp(disch:=omega) only[vm,seval,h.1]
  refine⟨hk9 s5 () _ _ _ _ h.2 slr ?_ ?_ ?_ (by omega)⟩<;>first|(simp(disch:=omega) only[vm,seval,h.1];done)|rfl
theorem Si {a0 r} (h:Dt N N a0=some r) (ha:args=[AA a0]) (hQ: ∀n',n≤n'→Gl (Q (.str r) ⟨m,n'⟩)):ACall vE 28 args ⟨m,n⟩ Q:=
 (Pn N N h ha hQ)
end Go.Proofs.YtooeobhihpkicaaGreatDoor
