import Derived.Test.YtooeobhihpkicaaGreatDoorVmFacts
import Derived.Test.YtooeobhihpkicaaGreatDoorDefs
import Derived.Test.YtooeobhihpkicaaGreatDoorVM2
set_option linter.unusedVariables false
set_option linter.unusedSimpArgs false
set_option maxHeartbeats 4000000
set_option maxRecDepth 100000
set_option linter.defProp false
namespace Go.Proofs.YtooeobhihpkicaaGreatDoor
open Go.VM
variable{N n:Nat}{m:MS}{Q:PQ}{args:List AVal}
theorem NZ {a0 r} (h:JX N a0=some r) (ha:args=[.int .u64 a0]) (hQ: ∀n',n≤n'→Gl (Q (.int .i64 r) ⟨m,n'⟩)):ACall vE 112 args ⟨m,n⟩ Q:=by
 rw[JX]at h
 subst ha
 refine ent hQ Tryz.func112 rfl Tryz.ntmps112 Tryz.results112 (.q (.r []) .z) fun R hR=>?_
 replace h:=And.intro trivial h
 simp(disch:=omega) only[vm,seval,h.1]
 refine⟨Ad (γ:=Unit) h [3,4,5,6] [0,2] (fun j1 g=>[.int .u64 j1.1,.int .i64 j1.2]) (fun j1 g=>m) (.q (.r []) (.c (.q (.r []) (.r [])) .z)) ?_ ?_⟩<;>clear h
 rintro j1 _ n4 hnn4 _ _ h
 refine AC .z ?_
 simp(disch:=omega) only[vm,seval,h.1]
 refine⟨Ad (γ:=Unit) h [7,8,9,10,11,12] [0,2] (fun j5 g=>[.int .u64 j5.1,.int .i64 j5.2]) (fun j5 g=>m) (.q (.r []) (.c (.q (.r []) (.r [])) .z)) ?_ ?_⟩<;>clear h
 rintro j5 _ n8 hnn8 _ _ h
 refine AC .z ?_
 simp(disch:=omega) only[vm,seval,h.1]
 refine⟨Ad (γ:=Unit) h [13,14,15,16,17,18] [0,2] (fun j9 g=>[.int .u64 j9.1,.int .i64 j9.2]) (fun j9 g=>m) (.q (.r []) (.c (.q (.r []) (.r [])) .z)) ?_ ?_⟩<;>clear h
 rintro j9 _ n12 hnn12 _ _ h
 refine AC (.q (.r []) .z) ?_
 replace h:=AB h
 obtain⟨x13,h⟩:=h
 obtain⟨H,h⟩:=h
 cases h
 simp(disch:=omega) only[vm,seval,H]
 refine⟨(hR _ _ _ _ _ _ (by simp(disch:=omega) only[vm,seval,H];rfl) slr ?_ (by omega) ?_).1⟩<;>first|(simp(disch:=omega) only[vm,seval,H];done)|rfl
 intro k10 Jk10 hk10 h
 replace h:=AJ h
 rcases h with h|h
 simp(disch:=omega) only[vm,seval,h.1]
 refine⟨hk10 ((JS .u64 j5.1 8),(wr .i64 (j5.2+8))) () _ _ _ _ h.2 slr ?_ ?_ ?_ (by omega)⟩<;>first|(simp(disch:=omega) only[vm,seval,h.1];done)|rfl
 simp(disch:=omega) only[vm,seval,h.1]
 refine⟨hk10 (j5.1,j5.2) () _ _ _ _ h.2 slr ?_ ?_ ?_ (by omega)⟩<;>first|(simp(disch:=omega) only[vm,seval,h.1];done)|rfl
 intro k6 Jk6 hk6 h
 replace h:=AJ h
 rcases h with h|h
 simp(disch:=omega) only[vm,seval,h.1]
 refine⟨hk6 ((JS .u64 j1.1 16),(wr .i64 (j1.2+16))) () _ _ _ _ h.2 slr ?_ ?_ ?_ (by omega)⟩<;>first|(simp(disch:=omega) only[vm,seval,h.1];done)|rfl
 simp(disch:=omega) only[vm,seval,h.1]
 refine⟨hk6 (j1.1,j1.2) () _ _ _ _ h.2 slr ?_ ?_ ?_ (by omega)⟩<;>first|(simp(disch:=omega) only[vm,seval,h.1];done)|rfl
 intro k2 Jk2 hk2 h
 replace h:=AJ h
 rcases h with h|h
 simp(disch:=omega) only[vm,seval,h.1]
 refine⟨hk2 ((JS .u64 a0 32),32) () _ _ _ _ h.2 slr ?_ ?_ ?_ (by omega)⟩<;>first|(simp(disch:=omega) only[vm,seval,h.1];done)|rfl
 simp(disch:=omega) only[vm,seval,h.1]
 refine⟨hk2 (a0,0) () _ _ _ _ h.2 slr ?_ ?_ ?_ (by omega)⟩<;>first|(simp(disch:=omega) only[vm,seval,h.1];done)|rfl
theorem LP {a0 r}{i0:Nat} (h:FZ N a0=some r) (ha:args=[.ptr i0 0]) (hi0:Bf m i0=some ([.int .u64 a0])) (hQ: ∀n',n≤n'→Gl (Q (.int .u64 r.1) ⟨Bn m i0 ([.int .u64 r.2]),n'⟩)):ACall vE 126 args ⟨m,n⟩ Q:=by
 rw[FZ]at h
 subst ha
 refine ACall.front hi0 fun hin=>ent (fun n' k=>⟨_,rfl,(hQ n' k).go⟩) Tryz.func126 rfl Tryz.ntmps126 Tryz.results126 (.q (.r []) (.q .z (.q .z (.q .z (.q (.r []) .z))))) fun R hR=>?_
 replace h:=And.intro trivial h
 simp(disch:=omega) only[vm,seval,h.1]
 refine⟨Ar [] (.take 0 (.take 1 (.take 2 (.take 3 (.take 4 (.take 5 (.take 6 (.take 7 (.take 8 (.alt 9 [] (.done) (.stop))))))))))) Af (by kernel_rfl) ?_⟩
 simp(disch:=omega) only[vm,seval,h.1]
 refine⟨Ar [] (.take 0 (.take 1 (.take 2 (.take 3 (.take 4 (.take 5 (.take 6 (.take 7 (.take 8 (.alt 9 [] (.done) (.stop))))))))))) Af (by kernel_rfl) ?_⟩
 simp(disch:=omega) only[vm,seval,h.1]
 refine⟨Ar [] (.take 0 (.take 1 (.take 2 (.take 3 (.take 4 (.take 5 (.take 6 (.take 7 (.take 8 (.alt 9 [] (.done) (.stop))))))))))) Af (by kernel_rfl) ?_⟩
 obtain⟨H,h⟩:=h
 cases h
 simp(disch:=omega) only[vm,seval,H]
 refine⟨(hR _ _ _ _ _ _ (by simp(disch:=omega) only[vm,seval,H];rfl) slr ?_ (by omega) ?_).1⟩<;>first|(simp(disch:=omega) only[vm,seval,H];done)|rfl
theorem Jo {a0 r} (h:cmp_isNaN_string N a0=some r) (ha:args=[.str a0]) (hQ: ∀n',n≤n'→Gl (Q (.bool r) ⟨m,n'⟩)):ACall vE 83 args ⟨m,n⟩ Q:=by
 rw[cmp_isNaN_string]at h
 subst ha
 refine ent hQ Tryz.func83 rfl Tryz.ntmps83 Tryz.results83 (.q (.r []) (.q (.r []) .z)) fun R hR=>?_
 replace h:=And.intro trivial h
 obtain⟨H,h⟩:=h
 cases h
 simp(disch:=omega) only[vm,seval,H]
 refine⟨(hR _ _ _ _ _ _ (by simp(disch:=omega) only[vm,seval,H];rfl) slr ?_ (by omega) ?_).1⟩<;>first|(simp(disch:=omega) only[vm,seval,H];done)|rfl
theorem Ey {l0 a0 a1 a2 c3_0 r}{i0:Nat} (h:BV N l0 a0 a1 a2 c3_0=some r) (ha:args=[.bsl 1 i0 0 l0,.int .i64 a1,.int .i64 a2,.fn (.func 66) [] [.cptr [.int .i64 c3_0.kind,.str c3_0.text,.slice 1 (List.map AVal.str c3_0.keys) false,.slice 4 (List.map AA c3_0.items) false]]]) (hi0:Bf m i0=some (List.map (AVal.int .i64) a0)) (hQ: ∀n',n≤n'→Gl (Q (.tuple []) ⟨Bn m i0 (List.map (AVal.int .i64) r),n'⟩)):ACall vE 107 args ⟨m,n⟩ Q:=by
 rw[BV]at h
 subst ha
 refine ACall.front hi0 fun hin=>ent (fun n' k=>⟨_,rfl,(hQ n' k).go⟩) Tryz.func107 rfl Tryz.ntmps107 Tryz.results107 (.q (.r []) (.q (.r []) .z)) fun R hR=>?_
 replace h:=And.intro trivial h
 simp(disch:=omega) only[vm,seval,h.1]
 refine⟨Du (σ:=Int×Int×(List Int)) (γ:=Unit) (fun k s=>Au N l0 k s.1 s.2.1 s.2.2) (fun s g=>[.int .i64 s.1,.int .i64 s.2.1]) (fun s g=>(i0,List.map (AVal.int .i64) s.2.2)::BP m i0) [13,14,15,16,17,18,19,20,21,22,23,24,25,26,27,28,29,30,31,32,33] [8,9] (a1,(wr .i64 (a2-1)),a0) () h (fun _=>rfl) (by first|(simp(disch:=omega) only[vm,seval,h.1];done)|rfl) (by first|(simp(disch:=omega) only[vm,seval,h.1];done)|rfl) ?_⟩
 clear h
 rintro k1 ⟨s8_0,s9_0,bi0_0⟩ _ nL0_1 hnL0_1 _ h Jk1 hk1
 change _∧Au N l0 (k1+1) s8_0 s9_0 bi0_0=_ at h
 rw[Au]at h
 refine AC (.q (.q (.r []) (.c .z .z)) (.q .z (.q (.r []) (.r [])))) ?_
 replace h:=AJ h
 rcases h with h|h
 replace h:=Ac h
 obtain⟨c,h⟩:=h
 try simp only[liE,seval]at c
 replace h:=AR c h
 replace h:=AB h
 obtain⟨x2,h⟩:=h
 replace h:=Ac h
 obtain⟨c,h⟩:=h
 try simp only[liE,seval]at c
 replace h:=AR c h
 replace h:=AB h
 obtain⟨x3,h⟩:=h
 replace h:=Ac h
 obtain⟨c,h⟩:=h
 try simp only[liE,seval]at c
 replace h:=AR c h
 replace h:=Ac h
 obtain⟨c,h⟩:=h
 try simp only[liE,seval]at c
 replace h:=AR c h
 simp(disch:=omega) only[vm,seval,h.1]
 refine⟨Ar [] (.take 0 (.take 1 (.take 2 (.take 3 (.take 4 (.take 5 (.take 6 (.take 7 (.take 8 (.take 9 (.take 10 (.take 11 (.take 12 (.alt 13 [10,9,8,3,2] (.take 14 (.alt 15 [] (.done) (.stop))) (.stop))))))))))))))) Af (by kernel_rfl) ?_⟩
 simp(disch:=omega) only[vm,seval,h.1]
 refine⟨hk1 ((wr .i64 (s8_0+1)),(wr .i64 (s9_0-1)),((bi0_0.set s8_0.toNat x2).set s9_0.toNat x3)) () _ _ _ _ h.2 slr ?_ ?_ ?_ (by omega)⟩<;>first|(simp(disch:=omega) only[vm,seval,h.1];done)|rfl
 obtain⟨H,h⟩:=h
 cases h
 simp(disch:=omega) only[vm,seval,H]
 refine⟨(hR _ _ _ _ _ _ (by simp(disch:=omega) only[vm,seval,H];rfl) slr ?_ (by omega) ?_).2⟩<;>first|(simp(disch:=omega) only[vm,seval,H];done)|rfl
theorem EW {a0 r}{i0:Nat} (h:Bj N a0=some r) (ha:args=[.ptr i0 0]) (hi0:Bf m i0=some ([Fa i0 51 2 a0.builder.addr,.buf 5 a0.builder.buf true])) (hQ: ∀n',n≤n'→Gl (Q (.int .i64 r.1) ⟨Bn m i0 ([Fa i0 51 2 r.2.builder.addr,.buf 5 r.2.builder.buf true]),n'⟩)):ACall vE 23 args ⟨m,n⟩ Q:=by
 rw[Bj]at h
 subst ha
 refine ACall.front hi0 fun hin=>ent (fun n' k=>⟨_,rfl,(hQ n' k).go⟩) Tryz.func23 rfl Tryz.ntmps23 Tryz.results23 (.q (.r []) (.q (.r []) .z)) fun R hR=>?_
 replace h:=And.intro trivial h
 obtain⟨H,h⟩:=h
 cases h
 simp(disch:=omega) only[vm,seval,H]
 refine⟨(hR _ _ _ _ _ _ (by simp(disch:=omega) only[vm,seval,H];rfl) slr ?_ (by omega) ?_).1⟩<;>first|(simp(disch:=omega) only[vm,seval,H];done)|rfl
theorem Gd {a0 r}{i0:Nat} (h:CZ N a0=some r) (ha:args=[.ptr i0 0]) (hi0:Bf m i0=some ([Fa i0 51 2 a0.builder.addr,.buf 5 a0.builder.buf true])) (hQ: ∀n',n≤n'→Gl (Q (.str r.1) ⟨Bn m i0 ([Fa i0 51 2 r.2.builder.addr,.buf 5 r.2.builder.buf false]),n'⟩)):ACall vE 24 args ⟨m,n⟩ Q:=by
 rw[CZ]at h
 subst ha
 refine ACall.front hi0 fun hin=>ent (fun n' k=>⟨_,rfl,(hQ n' k).go⟩) Tryz.func24 rfl Tryz.ntmps24 Tryz.results24 (.q (.r []) (.q .z .z)) fun R hR=>?_
 replace h:=And.intro trivial h
 simp(disch:=omega) only[vm,seval,h.1]
 refine⟨Ar [6] (.take 0 (.take 1 (.take 2 (.take 5 (.take 6 (.take 7 (.take 8 (.take 9 (.alt 3 [9,8,7,6,5,1,0] (.alt 4 [9,8,7,6,5,2,1,0] (.alt 10 [8,7,6,5,2,1,0] (.alt 11 [] (.done) (.stop)) (.stop)) (.stop)) (.stop)))))))))) Af (by kernel_rfl) ?_⟩
 obtain⟨H,h⟩:=h
 cases h
 simp(disch:=omega) only[vm,seval,H]
 refine⟨(hR _ _ _ _ _ _ (by simp(disch:=omega) only[vm,seval,H];rfl) slr ?_ (by omega) ?_).1⟩<;>first|(simp(disch:=omega) only[vm,seval,H];done)|rfl
theorem R9 (N:Nat): ∀D:Nat,(∀ {a0:ApiValue}{a1:Int}{a2:Int}{r:Int} (h:Ew N D a0 a1 a2=some r){args:List AVal}{n:Nat}{m:MS} (ha:args=[AA a0,.int .i64 a1,.int .i64 a2]){Q:PQ} (hQ: ∀n',n≤n'→Gl (Q (.int .i64 r) ⟨m,n'⟩)),ACall vE 26 args ⟨m,n⟩ Q):=by
 intro D
 induction D with
 |zero=>
  intro a0 a1 a2 r h
  simp only[Ew,reduceCtorEq]at h
 |succ D ih_keep_size=>
  intro a0 a1 a2 r h args n m ha Q hQ
  rw[Ew]at h
  subst ha
  refine IL hQ Tryz.func26 rfl Tryz.ntmps26 Tryz.results26 (.q (.r []) (.q .z (.q (.r []) .z))) fun R hR=>?_
  replace h:=And.intro trivial h
  simp(disch:=omega) only[vm,seval,h.1]
  refine⟨Ad (γ:=Unit) h [11,12,13,14,15,16,17,18,19,20,21,22,23,24,25,26,27,28,29,30,31,32,33,34,35,36,37,38] [39] (fun j1 g=>[.bool j1]) (fun j1 g=>(n,[.int .i64 a0.kind,.str a0.text,.slice 1 (List.map AVal.str a0.keys) false,.slice 4 (List.map AA a0.items) false])::m) (.r []) ?_ ?_⟩<;>clear h
  rintro j1 _ n4 hnn4 _ _ h
  refine AC (.c (.q (.r []) .z) .z) ?_
  replace h:=AJ h
  rcases h with h|h
  obtain⟨H,h⟩:=h
  cases h
  simp(disch:=omega) only[vm,seval,H]
  refine⟨(hR _ _ _ _ _ _ (by simp(disch:=omega) only[vm,seval,H];rfl) (.cons _ slr) ?_ (by omega) ?_).1⟩<;>first|(simp(disch:=omega) only[vm,seval,H];done)|rfl
  simp(disch:=omega) only[vm,seval,h.1]
  refine⟨Ad (γ:=Unit) h [6,8,42,43,44,45,46,47,48,49,50,51,52] [] (fun j5 g=>[]) (fun j5 g=>(n,[.int .i64 a0.kind,.str a0.text,.slice 1 (List.map AVal.str a0.keys) false,.slice 4 (List.map AA a0.items) false])::m) (.q (.r []) .z) ?_ ?_⟩<;>clear h
  rintro j5 _ n8 hnn8 _ _ h
  refine AC .z ?_
  simp(disch:=omega) only[vm,seval,h.1]
  refine⟨Ad (γ:=Unit) h [6,10,53,54,55,56,57,58,59,60,61,62,63,64,65,66,67] [1] (fun j10 g=>[.int .i64 j10]) (fun j10 g=>(n,[.int .i64 a0.kind,.str a0.text,.slice 1 (List.map AVal.str a0.keys) false,.slice 4 (List.map AA a0.items) false])::m) (.q (.r []) .z) ?_ ?_⟩<;>clear h
  rintro j10 _ n13 hnn13 _ _ h
  refine AC (.q (.r []) .z) ?_
  obtain⟨H,h⟩:=h
  cases h
  simp(disch:=omega) only[vm,seval,H]
  refine⟨(hR _ _ _ _ _ _ (by simp(disch:=omega) only[vm,seval,H];rfl) (.cons _ slr) ?_ (by omega) ?_).1⟩<;>first|(simp(disch:=omega) only[vm,seval,H];done)|rfl
  intro k11 Jk11 hk11 h
  replace h:=Ac h
  obtain⟨hfk14,h⟩:=h
  simp(disch:=omega) only[vm,seval,h.1]
  refine⟨EG (σ:=Int) (γ:=Unit) a0.items hfk14 (fun xs i s=>D9 N a2 (Ew N D) k11 xs s) (fun i s g=>[.int .i64 s,.int .i64 i]) (fun i s g=>(n,[.int .i64 a0.kind,.str a0.text,.slice 1 (List.map AVal.str a0.keys) false,.slice 4 (List.map AA a0.items) false])::m) [6,10,57,58,59,60,61,62,63,64,65,66,67] [1,56] (wr .i64 (a1-1)) () h (by first|(simp(disch:=omega) only[vm,seval,h.1];done)|rfl) (by first|(simp(disch:=omega) only[vm,seval,h.1];done)|rfl) ?_ ?_⟩<;>clear h
  rintro s56 s1 _ nL1_1 hnL1_1 _ h
  change _∧D9 N a2 (Ew N D) k11 [] s1=_ at h
  rw[D9]at h
  refine AC (.q (.r []) (.q (.c .z .z) (.q (.q (.r []) (.q (.r []) (.q (.r []) (.c (.q (.r []) .z) .z)))) (.r [])))) ?_
  simp(disch:=omega) only[vm,seval,h.1]
  refine⟨hk11 s1 () _ _ _ _ h.2 slr ?_ ?_ ?_ (by omega)⟩<;>first|(simp(disch:=omega) only[vm,seval,h.1];done)|rfl
  rintro xk14 xsk14 s56 s1 _ nL1_1 hnL1_1 _ h Jk14 hk14
  change _∧D9 N a2 (Ew N D) k11 (xk14::xsk14) s1=_ at h
  rw[D9]at h
  refine AC (.q (.r []) (.q (.c .z .z) (.q (.q (.r []) (.q (.r []) (.q (.r []) (.c (.q (.r []) .z) .z)))) (.r [])))) ?_
  replace h:=AB h
  obtain⟨y15,h⟩:=h
  simp(disch:=omega) only[vm,seval,h.1]
  refine⟨ih_keep_size h.1.1 (by first|(simp(disch:=omega) only[vm,seval,h.1];done)|rfl) fun n16 hn16=>?_⟩
  replace h:=AJ h
  rcases h with h|h
  obtain⟨H,h⟩:=h
  cases h
  simp(disch:=omega) only[vm,seval,H]
  refine⟨(hR _ _ _ _ _ _ (by simp(disch:=omega) only[vm,seval,H];rfl) (.cons _ (.cons _ slr)) ?_ (by omega) ?_).1⟩<;>first|(simp(disch:=omega) only[vm,seval,H];done)|rfl
  simp(disch:=omega) only[vm,seval,h.1]
  refine⟨hk14 y15 () _ _ _ _ h.2 (.cons _ slr) ?_ ?_ ?_ (by omega)⟩<;>first|(simp(disch:=omega) only[vm,seval,h.1];done)|rfl
  intro k6 Jk6 hk6 h
  replace h:=Ac h
  obtain⟨hfk9,h⟩:=h
  simp(disch:=omega) only[vm,seval,h.1]
  refine⟨EG (σ:=Unit) (γ:=Unit) a0.keys hfk9 (fun xs i s=>EA N k6 xs) (fun i s g=>[.int .i64 i]) (fun i s g=>(n,[.int .i64 a0.kind,.str a0.text,.slice 1 (List.map AVal.str a0.keys) false,.slice 4 (List.map AA a0.items) false])::m) [6,8,46,47,48,49,50,51,52] [45] () () h (by first|(simp(disch:=omega) only[vm,seval,h.1];done)|rfl) (by first|(simp(disch:=omega) only[vm,seval,h.1];done)|rfl) ?_ ?_⟩<;>clear h
  rintro s45 _ _ nL0_1 hnL0_1 _ h
  change _∧EA N k6 []=_ at h
  rw[EA]at h
  refine AC (.q (.r []) (.q (.c .z .z) (.q (.q (.r []) (.q (.r []) (.c (.q (.r []) .z) .z))) (.r [])))) ?_
  simp(disch:=omega) only[vm,seval,h.1]
  refine⟨hk6 () () _ _ _ _ h.2 slr ?_ ?_ ?_ (by omega)⟩<;>first|(simp(disch:=omega) only[vm,seval,h.1];done)|rfl
  rintro xk9 xsk9 s45 _ _ nL0_1 hnL0_1 _ h Jk9 hk9
  change _∧EA N k6 (xk9::xsk9)=_ at h
  rw[EA]at h
  refine AC (.q (.r []) (.q (.c .z .z) (.q (.q (.r []) (.q (.r []) (.c (.q (.r []) .z) .z))) (.r [])))) ?_
  replace h:=AJ h
  rcases h with h|h
  obtain⟨H,h⟩:=h
  cases h
  simp(disch:=omega) only[vm,seval,H]
  refine⟨(hR _ _ _ _ _ _ (by simp(disch:=omega) only[vm,seval,H];rfl) (.cons _ slr) ?_ (by omega) ?_).1⟩<;>first|(simp(disch:=omega) only[vm,seval,H];done)|rfl
  simp(disch:=omega) only[vm,seval,h.1]
  refine⟨hk9 () () _ _ _ _ h.2 slr ?_ ?_ ?_ (by omega)⟩<;>first|(simp(disch:=omega) only[vm,seval,h.1];done)|rfl
  intro k2 Jk2 hk2 h
  replace h:=AJ h
  rcases h with h|h
  simp(disch:=omega) only[vm,seval,h.1]
  refine⟨hk2 true () _ _ _ _ h.2 slr ?_ ?_ ?_ (by omega)⟩<;>first|(simp(disch:=omega) only[vm,seval,h.1];done)|rfl
  replace h:=AJ h
  rcases h with h|h
  simp(disch:=omega) only[vm,seval,h.1]
  refine⟨hk2 true () _ _ _ _ h.2 slr ?_ ?_ ?_ (by omega)⟩<;>first|(simp(disch:=omega) only[vm,seval,h.1];done)|rfl
  replace h:=AJ h
  rcases h with h|h
  simp(disch:=omega) only[vm,seval,h.1]
  refine⟨hk2 true () _ _ _ _ h.2 slr ?_ ?_ ?_ (by omega)⟩<;>first|(simp(disch:=omega) only[vm,seval,h.1];done)|rfl
  replace h:=AJ h
  rcases h with h|h
  simp(disch:=omega) only[vm,seval,h.1]
  refine⟨hk2 true () _ _ _ _ h.2 slr ?_ ?_ ?_ (by omega)⟩<;>first|(simp(disch:=omega) only[vm,seval,h.1];done)|rfl
  simp(disch:=omega) only[vm,seval,h.1]
  refine⟨hk2 (decide ((a0.items.length:Int)>a1)) () _ _ _ _ h.2 slr ?_ ?_ ?_ (by omega)⟩<;>first|(simp(disch:=omega) only[vm,seval,h.1];done)|rfl
theorem XT {a0 a1 a2 r} (h:Ew N N a0 a1 a2=some r) (ha:args=[AA a0,.int .i64 a1,.int .i64 a2]) (hQ: ∀n',n≤n'→Gl (Q (.int .i64 r) ⟨m,n'⟩)):ACall vE 26 args ⟨m,n⟩ Q:=
 (R9 N N h ha hQ)
theorem Pm (N:Nat): ∀D:Nat,(∀ {a0:ApiValue}{a1:Int}{r:Int} (h:Dp N D a0 a1=some r){args:List AVal}{n:Nat}{m:MS} (ha:args=[AA a0,.int .i64 a1]){Q:PQ} (hQ: ∀n',n≤n'→Gl (Q (.int .i64 r) ⟨m,n'⟩)),ACall vE 31 args ⟨m,n⟩ Q):=by
 intro D
 induction D with
 |zero=>
  intro a0 a1 r h
  simp only[Dp,reduceCtorEq]at h
 |succ D ih_ref15_count=>
  intro a0 a1 r h args n m ha Q hQ
  rw[Dp]at h
  subst ha
  refine IL hQ Tryz.func31 rfl Tryz.ntmps31 Tryz.results31 (.q (.r []) (.q (.r []) .z)) fun R hR=>?_
  replace h:=And.intro trivial h
  simp(disch:=omega) only[vm,seval,h.1]
  refine⟨Ad (γ:=Unit) h [11,12,13,14,15,16,17,18,19,20] [5] (fun j1 g=>[.int .i64 j1]) (fun j1 g=>(n,[.int .i64 a0.kind,.str a0.text,.slice 1 (List.map AVal.str a0.keys) false,.slice 4 (List.map AA a0.items) false])::m) .z ?_ ?_⟩<;>clear h
  rintro j1 _ n4 hnn4 _ _ h
  refine AC (.q (.q (.r []) (.c (.q (.r []) .z) .z)) (.q (.r []) .z)) ?_
  replace h:=AJ h
  rcases h with h|h
  obtain⟨H,h⟩:=h
  cases h
  simp(disch:=omega) only[vm,seval,H]
  refine⟨(hR _ _ _ _ _ _ (by simp(disch:=omega) only[vm,seval,H];rfl) (.cons _ slr) ?_ (by omega) ?_).1⟩<;>first|(simp(disch:=omega) only[vm,seval,H];done)|rfl
  simp(disch:=omega) only[vm,seval,h.1]
  refine⟨Ad (γ:=Unit) h [4,8,9,23,24,25,26,27,28,29,30,31,32,33,34,35,36,37,38,39,40] [6] (fun j9 g=>[.int .i64 j9]) (fun j9 g=>(n,[.int .i64 a0.kind,.str a0.text,.slice 1 (List.map AVal.str a0.keys) false,.slice 4 (List.map AA a0.items) false])::m) (.q (.r []) .z) ?_ ?_⟩<;>clear h
  rintro j9 _ n12 hnn12 _ _ h
  refine AC (.q (.r []) .z) ?_
  obtain⟨H,h⟩:=h
  cases h
  simp(disch:=omega) only[vm,seval,H]
  refine⟨(hR _ _ _ _ _ _ (by simp(disch:=omega) only[vm,seval,H];rfl) (.cons _ slr) ?_ (by omega) ?_).1⟩<;>first|(simp(disch:=omega) only[vm,seval,H];done)|rfl
  intro k10 Jk10 hk10 h
  replace h:=Ac h
  obtain⟨hfk13,h⟩:=h
  simp(disch:=omega) only[vm,seval,h.1]
  refine⟨EG (σ:=Int) (γ:=Unit) a0.items hfk13 (fun xs i s=>DD N (Dp N D) j1 k10 xs s) (fun i s g=>[.int .i64 s,.int .i64 i]) (fun i s g=>(n,[.int .i64 a0.kind,.str a0.text,.slice 1 (List.map AVal.str a0.keys) false,.slice 4 (List.map AA a0.items) false])::m) [4,8,9,27,28,29,30,31,32,33,34,35,36,37,38,39,40] [6,26] 1 () h (by first|(simp(disch:=omega) only[vm,seval,h.1];done)|rfl) (by first|(simp(disch:=omega) only[vm,seval,h.1];done)|rfl) ?_ ?_⟩<;>clear h
  rintro s26 s6 _ nL0_1 hnL0_1 _ h
  change _∧DD N (Dp N D) j1 k10 [] s6=_ at h
  rw[DD]at h
  refine AC (.q (.r []) (.q (.c .z .z) (.q (.q (.r []) (.q (.r []) (.q (.q (.r []) (.c (.q (.r []) .z) .z)) (.q (.r []) (.q (.r []) (.c (.q (.r []) .z) .z)))))) (.r [])))) ?_
  simp(disch:=omega) only[vm,seval,h.1]
  refine⟨hk10 s6 () _ _ _ _ h.2 slr ?_ ?_ ?_ (by omega)⟩<;>first|(simp(disch:=omega) only[vm,seval,h.1];done)|rfl
  rintro xk13 xsk13 s26 s6 _ nL0_1 hnL0_1 _ h Jk13 hk13
  change _∧DD N (Dp N D) j1 k10 (xk13::xsk13) s6=_ at h
  rw[DD]at h
  refine AC (.q (.r []) (.q (.c .z .z) (.q (.q (.r []) (.q (.r []) (.q (.q (.r []) (.c (.q (.r []) .z) .z)) (.q (.r []) (.q (.r []) (.c (.q (.r []) .z) .z)))))) (.r [])))) ?_
  replace h:=AB h
  obtain⟨y14,h⟩:=h
  simp(disch:=omega) only[vm,seval,h.1]
  refine⟨ih_ref15_count h.1.1 (by first|(simp(disch:=omega) only[vm,seval,h.1];done)|rfl) fun n15 hn15=>?_⟩
  replace h:=AJ h
  rcases h with h|h
  obtain⟨H,h⟩:=h
  cases h
  simp(disch:=omega) only[vm,seval,H]
  refine⟨(hR _ _ _ _ _ _ (by simp(disch:=omega) only[vm,seval,H];rfl) (.cons _ (.cons _ slr)) ?_ (by omega) ?_).1⟩<;>first|(simp(disch:=omega) only[vm,seval,H];done)|rfl
  replace h:=AJ h
  rcases h with h|h
  obtain⟨H,h⟩:=h
  cases h
  simp(disch:=omega) only[vm,seval,H]
  refine⟨(hR _ _ _ _ _ _ (by simp(disch:=omega) only[vm,seval,H];rfl) (.cons _ (.cons _ slr)) ?_ (by omega) ?_).1⟩<;>first|(simp(disch:=omega) only[vm,seval,H];done)|rfl
  simp(disch:=omega) only[vm,seval,h.1]
  refine⟨hk13 (wr .i64 (s6+y14)) () _ _ _ _ h.2 (.cons _ slr) ?_ ?_ ?_ (by omega)⟩<;>first|(simp(disch:=omega) only[vm,seval,h.1];done)|rfl
  intro k2 Jk2 hk2 h
  simp(disch:=omega) only[vm,seval,h.1]
  refine⟨Ad (γ:=Unit) h [11,12,13,14,15,16,17] [18] (fun j5 g=>[.bool j5]) (fun j5 g=>(n,[.int .i64 a0.kind,.str a0.text,.slice 1 (List.map AVal.str a0.keys) false,.slice 4 (List.map AA a0.items) false])::m) (.r []) ?_ ?_⟩<;>clear h
  rintro j5 _ n8 hnn8 _ _ h
  refine AC (.c (.r []) .z) ?_
  replace h:=AJ h
  rcases h with h|h
  simp(disch:=omega) only[vm,seval,h.1]
  refine⟨hk2 (wr .i64 (a1+1)) () _ _ _ _ h.2 slr ?_ ?_ ?_ (by omega)⟩<;>first|(simp(disch:=omega) only[vm,seval,h.1];done)|rfl
  simp(disch:=omega) only[vm,seval,h.1]
  refine⟨hk2 a1 () _ _ _ _ h.2 slr ?_ ?_ ?_ (by omega)⟩<;>first|(simp(disch:=omega) only[vm,seval,h.1];done)|rfl
  intro k6 Jk6 hk6 h
  replace h:=AJ h
  rcases h with h|h
  simp(disch:=omega) only[vm,seval,h.1]
  refine⟨hk6 true () _ _ _ _ h.2 slr ?_ ?_ ?_ (by omega)⟩<;>first|(simp(disch:=omega) only[vm,seval,h.1];done)|rfl
  simp(disch:=omega) only[vm,seval,h.1]
  refine⟨hk6 (a0.kind==7) () _ _ _ _ h.2 slr ?_ ?_ ?_ (by omega)⟩<;>first|(simp(disch:=omega) only[vm,seval,h.1];done)|rfl
theorem Rw {a0 a1 r} (h:Dp N N a0 a1=some r) (ha:args=[AA a0,.int .i64 a1]) (hQ: ∀n',n≤n'→Gl (Q (.int .i64 r) ⟨m,n'⟩)):ACall vE 31 args ⟨m,n⟩ Q:=
 (Pm N N h ha hQ)
theorem OX (N:Nat): ∀D:Nat,(∀ {a0:(List (List UInt8))}{r:(List (List UInt8))} (h:D6 N D a0=some r){args:List AVal}{n:Nat}{m:MS} (ha:args=[.slice 1 (List.map AVal.str a0) false]){Q:PQ} (hQ: ∀n',n≤n'→Gl (Q (.slice 1 (List.map AVal.str r) false) ⟨m,n'⟩)),ACall vE 44 args ⟨m,n⟩ Q):=by
 intro D
 induction D with
 |zero=>
  intro a0 r h
  simp only[D6,reduceCtorEq]at h
 |succ D ih_ref15_sorted=>
  intro a0 r h args n m ha Q hQ
  rw[D6]at h
  subst ha
  refine IL hQ Tryz.func44 rfl Tryz.ntmps44 Tryz.results44 (.q (.r []) (.q (.q (.r []) (.c (.q (.r []) .z) .z)) (.q .z (.q (.r []) .z)))) fun R hR=>?_
  replace h:=And.intro trivial h
  replace h:=AJ h
  rcases h with h|h
  obtain⟨H,h⟩:=h
  cases h
  simp(disch:=omega) only[vm,seval,H]
  refine⟨(hR _ _ _ _ _ _ (by simp(disch:=omega) only[vm,seval,H];rfl) slr ?_ (by omega) ?_).1⟩<;>first|(simp(disch:=omega) only[vm,seval,H];done)|rfl
  replace h:=AB h
  obtain⟨x1,h⟩:=h
  replace h:=AB h
  obtain⟨y2,h⟩:=h
  have cy2:=h.1.1
  replace h:=AB h
  obtain⟨x4,h⟩:=h
  replace h:=AB h
  obtain⟨y5,h⟩:=h
  have cy5:=h.1.1
  simp(disch:=omega) only[vm,seval,h.1]
  refine⟨Ar [] (.take 0 (.take 1 (.take 2 (.take 3 (.take 4 (.take 6 (.take 7 (.take 8 (.take 9 (.take 10 (.alt 5 [10,9,8,7,6,3,2,1,0] (.alt 11 [9,8,7,6,4,3,2,1,0] (.alt 12 [10,9,8,7,6] (.alt 13 [] (.done) (.stop)) (.stop)) (.stop)) (.stop)))))))))))) Af (by kernel_rfl) ?_⟩
  simp(disch:=omega) only[vm,seval,h.1]
  refine⟨ih_ref15_sorted cy2 (by first|(simp(disch:=omega) only[vm,seval,h.1];done)|rfl) fun n3 hn3=>?_⟩
  simp(disch:=omega) only[vm,seval,h.1]
  refine⟨ih_ref15_sorted cy5 (by first|(simp(disch:=omega) only[vm,seval,h.1];done)|rfl) fun n6 hn6=>?_⟩
  simp(disch:=omega) only[vm,seval,h.1]
  refine⟨Ad (γ:=Unit) h [22,23,24,25,26,27,28,29,30,31,32,33,34,35,36,37,38,39,40,41,42,43,44,45,46,47,48,49,50,51,52] [3,4,5] (fun j7 g=>[.slice 1 (List.map AVal.str j7.1) false,.slice 1 (List.map AVal.str j7.2.1) false,.slice 1 (List.map AVal.str j7.2.2) true]) (fun j7 g=>m) .z ?_ ?_⟩<;>clear h
  rintro j7 _ n10 hnn10 _ _ h
  refine AC (.q (.r [53]) .z) ?_
  replace h:=Ac h
  obtain⟨c,h⟩:=h
  try simp only[liE,seval]at c
  replace h:=AR c h
  replace h:=Ac h
  obtain⟨c,h⟩:=h
  try simp only[liE,seval]at c
  replace h:=AR c h
  obtain⟨H,h⟩:=h
  cases h
  simp(disch:=omega) only[vm,seval,H]
  refine⟨(hR _ _ _ _ _ _ (by simp(disch:=omega) only[vm,seval,H];rfl) slr ?_ (by omega) ?_).1⟩<;>first|(simp(disch:=omega) only[vm,seval,H];done)|rfl
  intro k8 Jk8 hk8 h
  simp(disch:=omega) only[vm,seval,h.1]
  refine⟨Du (σ:=(List (List UInt8))×(List (List UInt8))×(List (List UInt8))) (γ:=Unit) (fun k s=>DI N k8 k s.1 s.2.1 s.2.2) (fun s g=>[.slice 1 (List.map AVal.str s.1) false,.slice 1 (List.map AVal.str s.2.1) false,.slice 1 (List.map AVal.str s.2.2) true]) (fun s g=>m) [22,23,24,25,26,27,28,29,30,31,32,33,34,35,36,37,38,39,40,41,42,43,44,45,46,47,48,49,50,51,52] [3,4,5] (y2,y5,[]) () h (fun _=>rfl) (by first|(simp(disch:=omega) only[vm,seval,h.1];done)|rfl) (by first|(simp(disch:=omega) only[vm,seval,h.1];done)|rfl) ?_⟩
  clear h
  rintro k11 ⟨s3,s4,s5⟩ _ nL0_1 hnL0_1 _ h Jk11 hk11
  change _∧DI N k8 (k11+1) s3 s4 s5=_ at h
  rw[DI]at h
  refine AC (.q .z (.q .z (.c .z .z))) ?_
  simp(disch:=omega) only[vm,seval,h.1]
  refine⟨Ad (γ:=Unit) h [22,23,24,25,26,27,28] [29] (fun j12 g=>[.bool j12]) (fun j12 g=>m) (.r []) ?_ ?_⟩<;>clear h
  rintro j12 _ n15 hnn15 _ _ h
  refine AC (.c .z .z) ?_
  replace h:=AJ h
  rcases h with h|h
  replace h:=AB h
  obtain⟨x16,h⟩:=h
  replace h:=AB h
  obtain⟨x17,h⟩:=h
  simp(disch:=omega) only[vm,seval,h.1]
  refine⟨Ar [] (.take 0 (.take 1 (.take 2 (.take 3 (.take 4 (.take 5 (.take 6 (.done)))))))) Af (by kernel_rfl) ?_⟩
  replace h:=AJ h
  rcases h with h|h
  replace h:=Ac h
  obtain⟨c,h⟩:=h
  try simp only[liE,seval]at c
  replace h:=AR c h
  replace h:=AB h
  obtain⟨x18,h⟩:=h
  simp(disch:=omega) only[vm,seval,h.1]
  refine⟨Ar [37] (.take 1 (.take 2 (.take 3 (.take 4 (.take 6 (.take 7 (.alt 0 [7,6,4,3,2,1] (.alt 5 [7,6,3,2,1] (.alt 8 [7,6] (.alt 9 [] (.done) (.stop)) (.stop)) (.stop)) (.stop)))))))) Af (by kernel_rfl) ?_⟩
  simp(disch:=omega) only[vm,seval,h.1]
  refine⟨hk11 (x18,s4,(s5++[x16])) () _ _ _ _ h.2 slr ?_ ?_ ?_ (by omega)⟩<;>first|(simp(disch:=omega) only[vm,seval,h.1];done)|rfl
  replace h:=Ac h
  obtain⟨c,h⟩:=h
  try simp only[liE,seval]at c
  replace h:=AR c h
  replace h:=AB h
  obtain⟨x19,h⟩:=h
  simp(disch:=omega) only[vm,seval,h.1]
  refine⟨Ar [45] (.take 1 (.take 2 (.take 3 (.take 4 (.take 6 (.take 7 (.alt 0 [7,6,4,3,2,1] (.alt 5 [7,6,3,2,1] (.alt 8 [7,6] (.alt 9 [] (.done) (.stop)) (.stop)) (.stop)) (.stop)))))))) Af (by kernel_rfl) ?_⟩
  simp(disch:=omega) only[vm,seval,h.1]
  refine⟨hk11 (s3,x19,(s5++[x17])) () _ _ _ _ h.2 slr ?_ ?_ ?_ (by omega)⟩<;>first|(simp(disch:=omega) only[vm,seval,h.1];done)|rfl
  simp(disch:=omega) only[vm,seval,h.1]
  refine⟨hk8 (s3,s4,s5) () _ _ _ _ h.2 slr ?_ ?_ ?_ (by omega)⟩<;>first|(simp(disch:=omega) only[vm,seval,h.1];done)|rfl
  intro k13 Jk13 hk13 h
  replace h:=AJ h
  rcases h with h|h
  simp(disch:=omega) only[vm,seval,h.1]
  refine⟨hk13 (decide ((s4.length:Int)>0)) () _ _ _ _ h.2 slr ?_ ?_ ?_ (by omega)⟩<;>first|(simp(disch:=omega) only[vm,seval,h.1];done)|rfl
  simp(disch:=omega) only[vm,seval,h.1]
  refine⟨hk13 false () _ _ _ _ h.2 slr ?_ ?_ ?_ (by omega)⟩<;>first|(simp(disch:=omega) only[vm,seval,h.1];done)|rfl
theorem Lm {a0 r} (h:D6 N N a0=some r) (ha:args=[.slice 1 (List.map AVal.str a0) false]) (hQ: ∀n',n≤n'→Gl (Q (.slice 1 (List.map AVal.str r) false) ⟨m,n'⟩)):ACall vE 44 args ⟨m,n⟩ Q:=
 (OX N N h ha hQ)
theorem QV (N:Nat): ∀D:Nat,(∀ {a0:ApiValue}{r:Bool} (h:Ef N D a0=some r){args:List AVal}{n:Nat}{m:MS} (ha:args=[AA a0]){Q:PQ} (hQ: ∀n',n≤n'→Gl (Q (.bool r) ⟨m,n'⟩)),ACall vE 27 args ⟨m,n⟩ Q):=by
 intro D
 induction D with
 |zero=>
  intro a0 r h
  simp only[Ef,reduceCtorEq]at h
 |succ D ih_ref15_long=>
  intro a0 r h args n m ha Q hQ
  rw[Ef]at h
  subst ha
  refine IL hQ Tryz.func27 rfl Tryz.ntmps27 Tryz.results27 (.q (.r []) (.q (.r []) .z)) fun R hR=>?_
  replace h:=And.intro trivial h
  simp(disch:=omega) only[vm,seval,h.1]
  refine⟨Ad (γ:=Unit) h [5,11,12,13,14,15,16,17,18,19,20,21,22] [3] (fun j1 g=>[.int .i64 j1]) (fun j1 g=>(n,[.int .i64 a0.kind,.str a0.text,.slice 1 (List.map AVal.str a0.keys) false,.slice 4 (List.map AA a0.items) false])::m) (.q (.r []) .z) ?_ ?_⟩<;>clear h
  rintro j1 _ n4 hnn4 _ _ h
  refine AC (.q (.q (.r []) (.c (.q (.r []) .z) .z)) .z) ?_
  replace h:=AJ h
  rcases h with h|h
  obtain⟨H,h⟩:=h
  cases h
  simp(disch:=omega) only[vm,seval,H]
  refine⟨(hR _ _ _ _ _ _ (by simp(disch:=omega) only[vm,seval,H];rfl) (.cons _ slr) ?_ (by omega) ?_).1⟩<;>first|(simp(disch:=omega) only[vm,seval,H];done)|rfl
  simp(disch:=omega) only[vm,seval,h.1]
  refine⟨Ad (γ:=Unit) h [2,7,25,26,27,28,29,30,31,32,33,34] [] (fun j6 g=>[]) (fun j6 g=>(n,[.int .i64 a0.kind,.str a0.text,.slice 1 (List.map AVal.str a0.keys) false,.slice 4 (List.map AA a0.items) false])::m) (.q (.r []) .z) ?_ ?_⟩<;>clear h
  rintro j6 _ n9 hnn9 _ _ h
  refine AC (.q (.r []) .z) ?_
  obtain⟨H,h⟩:=h
  cases h
  simp(disch:=omega) only[vm,seval,H]
  refine⟨(hR _ _ _ _ _ _ (by simp(disch:=omega) only[vm,seval,H];rfl) (.cons _ slr) ?_ (by omega) ?_).1⟩<;>first|(simp(disch:=omega) only[vm,seval,H];done)|rfl
  intro k7 Jk7 hk7 h
  replace h:=Ac h
  obtain⟨hfk10,h⟩:=h
  simp(disch:=omega) only[vm,seval,h.1]
  refine⟨EG (σ:=Unit) (γ:=Unit) a0.items hfk10 (fun xs i s=>De N (Ef N D) k7 xs) (fun i s g=>[.int .i64 i]) (fun i s g=>(n,[.int .i64 a0.kind,.str a0.text,.slice 1 (List.map AVal.str a0.keys) false,.slice 4 (List.map AA a0.items) false])::m) [2,7,29,30,31,32,33,34] [28] () () h (by first|(simp(disch:=omega) only[vm,seval,h.1];done)|rfl) (by first|(simp(disch:=omega) only[vm,seval,h.1];done)|rfl) ?_ ?_⟩<;>clear h
  rintro s28 _ _ nL1_1 hnL1_1 _ h
  change _∧De N (Ef N D) k7 []=_ at h
  rw[De]at h
  refine AC (.q (.r []) (.q (.c .z .z) (.q (.q (.r []) (.q (.r []) (.c (.q (.r []) .z) .z))) (.r [])))) ?_
  simp(disch:=omega) only[vm,seval,h.1]
  refine⟨hk7 () () _ _ _ _ h.2 slr ?_ ?_ ?_ (by omega)⟩<;>first|(simp(disch:=omega) only[vm,seval,h.1];done)|rfl
  rintro xk10 xsk10 s28 _ _ nL1_1 hnL1_1 _ h Jk10 hk10
  change _∧De N (Ef N D) k7 (xk10::xsk10)=_ at h
  rw[De]at h
  refine AC (.q (.r []) (.q (.c .z .z) (.q (.q (.r []) (.q (.r []) (.c (.q (.r []) .z) .z))) (.r [])))) ?_
  replace h:=AB h
  obtain⟨y11,h⟩:=h
  simp(disch:=omega) only[vm,seval,h.1]
  refine⟨ih_ref15_long h.1.1 (by first|(simp(disch:=omega) only[vm,seval,h.1];done)|rfl) fun n12 hn12=>?_⟩
  replace h:=AJ h
  rcases h with h|h
  obtain⟨H,h⟩:=h
  cases h
  simp(disch:=omega) only[vm,seval,H]
  refine⟨(hR _ _ _ _ _ _ (by simp(disch:=omega) only[vm,seval,H];rfl) (.cons _ (.cons _ slr)) ?_ (by omega) ?_).1⟩<;>first|(simp(disch:=omega) only[vm,seval,H];done)|rfl
  simp(disch:=omega) only[vm,seval,h.1]
  refine⟨hk10 () () _ _ _ _ h.2 (.cons _ slr) ?_ ?_ ?_ (by omega)⟩<;>first|(simp(disch:=omega) only[vm,seval,h.1];done)|rfl
  intro k2 Jk2 hk2 h
  replace h:=Ac h
  obtain⟨hfk5,h⟩:=h
  simp(disch:=omega) only[vm,seval,h.1]
  refine⟨EG (σ:=Int) (γ:=Unit) a0.keys hfk5 (fun xs i s=>D5 N k2 xs s) (fun i s g=>[.int .i64 s,.int .i64 i]) (fun i s g=>(n,[.int .i64 a0.kind,.str a0.text,.slice 1 (List.map AVal.str a0.keys) false,.slice 4 (List.map AA a0.items) false])::m) [5,15,16,17,18,19,20,21,22] [3,14] (a0.text.length:Int) () h (by first|(simp(disch:=omega) only[vm,seval,h.1];done)|rfl) (by first|(simp(disch:=omega) only[vm,seval,h.1];done)|rfl) ?_ ?_⟩<;>clear h
  rintro s14 s3 _ nL0_1 hnL0_1 _ h
  change _∧D5 N k2 [] s3=_ at h
  rw[D5]at h
  refine AC (.q (.r []) (.q (.c .z .z) (.q (.q (.r []) (.r [])) (.r [])))) ?_
  simp(disch:=omega) only[vm,seval,h.1]
  refine⟨hk2 s3 () _ _ _ _ h.2 slr ?_ ?_ ?_ (by omega)⟩<;>first|(simp(disch:=omega) only[vm,seval,h.1];done)|rfl
  rintro xk5 xsk5 s14 s3 _ nL0_1 hnL0_1 _ h Jk5 hk5
  change _∧D5 N k2 (xk5::xsk5) s3=_ at h
  rw[D5]at h
  refine AC (.q (.r []) (.q (.c .z .z) (.q (.q (.r []) (.r [])) (.r [])))) ?_
  simp(disch:=omega) only[vm,seval,h.1]
  refine⟨hk5 (wr .i64 (s3+(xk5.length:Int))) () _ _ _ _ h.2 slr ?_ ?_ ?_ (by omega)⟩<;>first|(simp(disch:=omega) only[vm,seval,h.1];done)|rfl
theorem VH {a0 r} (h:Ef N N a0=some r) (ha:args=[AA a0]) (hQ: ∀n',n≤n'→Gl (Q (.bool r) ⟨m,n'⟩)):ACall vE 27 args ⟨m,n⟩ Q:=
 (QV N N h ha hQ)
theorem Rh (N:Nat): ∀D:Nat,(∀ {a0:ApiValue}{a1:ApiValue}{r:Bool} (h:FD N D a0 a1=some r){args:List AVal}{n:Nat}{m:MS} (ha:args=[AA a0,AA a1]){Q:PQ} (hQ: ∀n',n≤n'→Gl (Q (.bool r) ⟨m,n'⟩)),ACall vE 16 args ⟨m,n⟩ Q):=by
 intro D
 induction D with
 |zero=>
  intro a0 a1 r h
  simp only[FD,reduceCtorEq]at h
 |succ D ih_ref14_Same=>
  intro a0 a1 r h args n m ha Q hQ
  rw[FD]at h
  subst ha
  refine IL hQ Tryz.func16 rfl Tryz.ntmps16 Tryz.results16 (.q (.r []) (.q .z .z)) fun R hR=>?_
  replace h:=And.intro trivial h
  simp(disch:=omega) only[vm,seval,h.1]
  refine⟨Ad (γ:=Unit) h [7,8,9,10,11,12,13,14,15,16,17,18,19,20,21,22,23,24,25,26,27,28,29,30,31,32,33,34,35] [36] (fun j1 g=>[.bool j1]) (fun j1 g=>((n+1),[.int .i64 a1.kind,.str a1.text,.slice 1 (List.map AVal.str a1.keys) false,.slice 4 (List.map AA a1.items) false])::(n,[.int .i64 a0.kind,.str a0.text,.slice 1 (List.map AVal.str a0.keys) false,.slice 4 (List.map AA a0.items) false])::m) (.r []) ?_ ?_⟩<;>clear h
  rintro j1 _ n4 hnn4 _ _ h
  refine AC (.c (.q (.r []) .z) .z) ?_
  replace h:=AJ h
  rcases h with h|h
  obtain⟨H,h⟩:=h
  cases h
  simp(disch:=omega) only[vm,seval,H]
  refine⟨(hR _ _ _ _ _ _ (by simp(disch:=omega) only[vm,seval,H];rfl) (.cons _ (.cons _ slr)) ?_ (by omega) ?_).1⟩<;>first|(simp(disch:=omega) only[vm,seval,H];done)|rfl
  simp(disch:=omega) only[vm,seval,h.1]
  refine⟨Ad (γ:=Unit) h [4,5,37,38,39,40,41,42,43,44,45,46,47,48,49,50,51,52,53,54,55] [] (fun j5 g=>[]) (fun j5 g=>((n+1),[.int .i64 a1.kind,.str a1.text,.slice 1 (List.map AVal.str a1.keys) false,.slice 4 (List.map AA a1.items) false])::(n,[.int .i64 a0.kind,.str a0.text,.slice 1 (List.map AVal.str a0.keys) false,.slice 4 (List.map AA a0.items) false])::m) (.q (.r []) .z) ?_ ?_⟩<;>clear h
  rintro j5 _ n8 hnn8 _ _ h
  refine AC .z ?_
  simp(disch:=omega) only[vm,seval,h.1]
  refine⟨Ad (γ:=Unit) h [4,6,56,57,58,59,60,61,62,63,64,65,66,67,68,69,70,71,72,73] [] (fun j13 g=>[]) (fun j13 g=>((n+1),[.int .i64 a1.kind,.str a1.text,.slice 1 (List.map AVal.str a1.keys) false,.slice 4 (List.map AA a1.items) false])::(n,[.int .i64 a0.kind,.str a0.text,.slice 1 (List.map AVal.str a0.keys) false,.slice 4 (List.map AA a0.items) false])::m) (.q (.r []) .z) ?_ ?_⟩<;>clear h
  rintro j13 _ n16 hnn16 _ _ h
  refine AC (.q (.r []) .z) ?_
  obtain⟨H,h⟩:=h
  cases h
  simp(disch:=omega) only[vm,seval,H]
  refine⟨(hR _ _ _ _ _ _ (by simp(disch:=omega) only[vm,seval,H];rfl) (.cons _ (.cons _ slr)) ?_ (by omega) ?_).1⟩<;>first|(simp(disch:=omega) only[vm,seval,H];done)|rfl
  intro k14 Jk14 hk14 h
  replace h:=Ac h
  obtain⟨hfk17,h⟩:=h
  simp(disch:=omega) only[vm,seval,h.1]
  refine⟨EG (σ:=Unit) (γ:=Unit) a0.keys hfk17 (fun xs i s=>Dz N a1 k14 xs i) (fun i s g=>[.int .i64 i]) (fun i s g=>((n+1),[.int .i64 a1.kind,.str a1.text,.slice 1 (List.map AVal.str a1.keys) false,.slice 4 (List.map AA a1.items) false])::(n,[.int .i64 a0.kind,.str a0.text,.slice 1 (List.map AVal.str a0.keys) false,.slice 4 (List.map AA a0.items) false])::m) [4,6,60,61,62,63,64,65,66,67,68,69,70,71,72,73] [59] () () h (by first|(simp(disch:=omega) only[vm,seval,h.1];done)|rfl) (by first|(simp(disch:=omega) only[vm,seval,h.1];done)|rfl) ?_ ?_⟩<;>clear h
  rintro s59 _ _ nL1_1 hnL1_1 _ h
  change _∧Dz N a1 k14 [] s59=_ at h
  rw[Dz]at h
  refine AC (.q (.r []) (.q (.c .z .z) (.q (.q (.r []) (.q .z (.c (.q (.r []) .z) .z))) (.r [])))) ?_
  simp(disch:=omega) only[vm,seval,h.1]
  refine⟨hk14 () () _ _ _ _ h.2 slr ?_ ?_ ?_ (by omega)⟩<;>first|(simp(disch:=omega) only[vm,seval,h.1];done)|rfl
  rintro xk17 xsk17 s59 _ _ nL1_1 hnL1_1 _ h Jk17 hk17
  change _∧Dz N a1 k14 (xk17::xsk17) s59=_ at h
  rw[Dz]at h
  refine AC (.q (.r []) (.q (.c .z .z) (.q (.q (.r []) (.q .z (.c (.q (.r []) .z) .z))) (.r [])))) ?_
  replace h:=AB h
  obtain⟨x18,h⟩:=h
  simp(disch:=omega) only[vm,seval,h.1]
  refine⟨Ar [] (.take 0 (.take 1 (.take 2 (.take 3 (.take 4 (.take 5 (.take 6 (.take 7 (.take 8 (.take 9 (.take 10 (.done)))))))))))) Af (by kernel_rfl) ?_⟩
  replace h:=AJ h
  rcases h with h|h
  simp(disch:=omega) only[vm,seval,h.1]
  refine⟨hk17 () () _ _ _ _ h.2 slr ?_ ?_ ?_ (by omega)⟩<;>first|(simp(disch:=omega) only[vm,seval,h.1];done)|rfl
  obtain⟨H,h⟩:=h
  cases h
  simp(disch:=omega) only[vm,seval,H]
  refine⟨(hR _ _ _ _ _ _ (by simp(disch:=omega) only[vm,seval,H];rfl) (.cons _ (.cons _ slr)) ?_ (by omega) ?_).1⟩<;>first|(simp(disch:=omega) only[vm,seval,H];done)|rfl
  intro k6 Jk6 hk6 h
  replace h:=Ac h
  obtain⟨hfk9,h⟩:=h
  simp(disch:=omega) only[vm,seval,h.1]
  refine⟨EG (σ:=Unit) (γ:=Unit) a0.items hfk9 (fun xs i s=>Dy N a1 (FD N D) k6 xs i) (fun i s g=>[.int .i64 i]) (fun i s g=>((n+1),[.int .i64 a1.kind,.str a1.text,.slice 1 (List.map AVal.str a1.keys) false,.slice 4 (List.map AA a1.items) false])::(n,[.int .i64 a0.kind,.str a0.text,.slice 1 (List.map AVal.str a0.keys) false,.slice 4 (List.map AA a0.items) false])::m) [4,5,41,42,43,44,45,46,47,48,49,50,51,52,53,54,55] [40] () () h (by first|(simp(disch:=omega) only[vm,seval,h.1];done)|rfl) (by first|(simp(disch:=omega) only[vm,seval,h.1];done)|rfl) ?_ ?_⟩<;>clear h
  rintro s40 _ _ nL0_1 hnL0_1 _ h
  change _∧Dy N a1 (FD N D) k6 [] s40=_ at h
  rw[Dy]at h
  refine AC (.q (.r []) (.q (.c .z .z) (.q (.q (.r []) (.q .z (.c (.q (.r []) .z) .z))) (.r [])))) ?_
  simp(disch:=omega) only[vm,seval,h.1]
  refine⟨hk6 () () _ _ _ _ h.2 slr ?_ ?_ ?_ (by omega)⟩<;>first|(simp(disch:=omega) only[vm,seval,h.1];done)|rfl
  rintro xk9 xsk9 s40 _ _ nL0_1 hnL0_1 _ h Jk9 hk9
  change _∧Dy N a1 (FD N D) k6 (xk9::xsk9) s40=_ at h
  rw[Dy]at h
  refine AC (.q (.r []) (.q (.c .z .z) (.q (.q (.r []) (.q .z (.c (.q (.r []) .z) .z))) (.r [])))) ?_
  replace h:=AB h
  obtain⟨x10,h⟩:=h
  replace h:=AB h
  obtain⟨y11,h⟩:=h
  have cy11:=h.1.1
  simp(disch:=omega) only[vm,seval,h.1]
  refine⟨Ar [] (.take 0 (.take 1 (.take 2 (.take 3 (.take 4 (.take 5 (.take 6 (.take 7 (.take 8 (.take 9 (.alt 10 [8,7,6,5,3,2,1,0] (.take 11 (.done)) (.stop)))))))))))) Af (by kernel_rfl) ?_⟩
  simp(disch:=omega) only[vm,seval,h.1]
  refine⟨ih_ref14_Same cy11 (by first|(simp(disch:=omega) only[vm,seval,h.1];done)|rfl) fun n12 hn12=>?_⟩
  replace h:=AJ h
  rcases h with h|h
  simp(disch:=omega) only[vm,seval,h.1]
  refine⟨hk9 () () _ _ _ _ h.2 slr ?_ ?_ ?_ (by omega)⟩<;>first|(simp(disch:=omega) only[vm,seval,h.1];done)|rfl
  obtain⟨H,h⟩:=h
  cases h
  simp(disch:=omega) only[vm,seval,H]
  refine⟨(hR _ _ _ _ _ _ (by simp(disch:=omega) only[vm,seval,H];rfl) (.cons _ (.cons _ slr)) ?_ (by omega) ?_).1⟩<;>first|(simp(disch:=omega) only[vm,seval,H];done)|rfl
  intro k2 Jk2 hk2 h
  replace h:=AJ h
  rcases h with h|h
  simp(disch:=omega) only[vm,seval,h.1]
  refine⟨hk2 true () _ _ _ _ h.2 slr ?_ ?_ ?_ (by omega)⟩<;>first|(simp(disch:=omega) only[vm,seval,h.1];done)|rfl
  replace h:=AJ h
  rcases h with h|h
  replace h:=AJ h
  rcases h with h|h
  simp(disch:=omega) only[vm,seval,h.1]
  refine⟨hk2 true () _ _ _ _ h.2 slr ?_ ?_ ?_ (by omega)⟩<;>first|(simp(disch:=omega) only[vm,seval,h.1];done)|rfl
  simp(disch:=omega) only[vm,seval,h.1]
  refine⟨hk2 ((a0.keys.length:Int) !=(a1.keys.length:Int)) () _ _ _ _ h.2 slr ?_ ?_ ?_ (by omega)⟩<;>first|(simp(disch:=omega) only[vm,seval,h.1];done)|rfl
  simp(disch:=omega) only[vm,seval,h.1]
  refine⟨hk2 true () _ _ _ _ h.2 slr ?_ ?_ ?_ (by omega)⟩<;>first|(simp(disch:=omega) only[vm,seval,h.1];done)|rfl
theorem UA {a0 a1 r} (h:FD N N a0 a1=some r) (ha:args=[AA a0,AA a1]) (hQ: ∀n',n≤n'→Gl (Q (.bool r) ⟨m,n'⟩)):ACall vE 16 args ⟨m,n⟩ Q:=
 (Rh N N h ha hQ)
end Go.Proofs.YtooeobhihpkicaaGreatDoor
