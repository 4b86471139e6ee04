import Derived.Test.YtooeobhihpkicaaGreatDoorVmFacts
import Derived.Test.YtooeobhihpkicaaGreatDoorDefs
import Derived.Test.YtooeobhihpkicaaGreatDoorVM2
set_option linter.unusedVariables false
set_option linter.unusedSimpArgs false
set_option maxHeartbeats 4000000
set_option maxRecDepth 100000
set_option linter.defProp false
namespace Go.Proofs.YtooeobhihpkicaaGreatDoor
open Go.VM
variable{N n:Nat}{m:MS}{Q:PQ}{args:List AVal}
theorem Mv {a0 r} (h:Iq N a0=some r) (ha:args=[.int .u64 a0]) (hQ: ∀n',n≤n'→Gl (Q (.int .i64 r) ⟨m,n'⟩)):ACall vE 112 args ⟨m,n⟩ Q:=by
 rw[Iq]at h
 subst ha
 refine ent hQ Tryz.func112 rfl Tryz.ntmps112 Tryz.results112 (.q (.r []) .z) fun R hR=>?_
 replace h:=And.intro trivial h
 simp(disch:=omega) only[vm,seval,h.1]
 refine⟨Aa (γ:=Unit) h [3,4,5,6] [0,2] (fun j1 g=>[.int .u64 j1.1,.int .i64 j1.2]) (fun j1 g=>m) (.q (.r []) (.c (.q (.r []) (.r [])) .z)) ?_ ?_⟩<;>clear h
 rintro j1 _ n4 hnn4 _ _ h
 refine AB .z ?_
 simp(disch:=omega) only[vm,seval,h.1]
 refine⟨Aa (γ:=Unit) h [7,8,9,10,11,12] [0,2] (fun j5 g=>[.int .u64 j5.1,.int .i64 j5.2]) (fun j5 g=>m) (.q (.r []) (.c (.q (.r []) (.r [])) .z)) ?_ ?_⟩<;>clear h
 rintro j5 _ n8 hnn8 _ _ h
 refine AB .z ?_
 simp(disch:=omega) only[vm,seval,h.1]
 refine⟨Aa (γ:=Unit) h [13,14,15,16,17,18] [0,2] (fun j9 g=>[.int .u64 j9.1,.int .i64 j9.2]) (fun j9 g=>m) (.q (.r []) (.c (.q (.r []) (.r [])) .z)) ?_ ?_⟩<;>clear h
 rintro j9 _ n12 hnn12 _ _ h
 refine AB (.q (.r []) .z) ?_
 replace h:=AA h
 obtain⟨x13,h⟩:=h
 obtain⟨H,h⟩:=h
 cases h
 simp(disch:=omega) only[vm,seval,H]
 refine⟨(hR _ _ _ _ _ _ (by simp(disch:=omega) only[vm,seval,H];rfl) slr ?_ (by omega) ?_).1⟩<;>first|(simp(disch:=omega) only[vm,seval,H];done)|rfl
 intro k10 Jk10 hk10 h
 replace h:=AJ h
 rcases h with h|h
 simp(disch:=omega) only[vm,seval,h.1]
 refine⟨hk10 ((KC .u64 j5.1 8),(wr .i64 (j5.2+8))) () _ _ _ _ h.2 slr ?_ ?_ ?_ (by omega)⟩<;>first|(simp(disch:=omega) only[vm,seval,h.1];done)|rfl
 simp(disch:=omega) only[vm,seval,h.1]
 refine⟨hk10 (j5.1,j5.2) () _ _ _ _ h.2 slr ?_ ?_ ?_ (by omega)⟩<;>first|(simp(disch:=omega) only[vm,seval,h.1];done)|rfl
 intro k6 Jk6 hk6 h
 replace h:=AJ h
 rcases h with h|h
 simp(disch:=omega) only[vm,seval,h.1]
 refine⟨hk6 ((KC .u64 j1.1 16),(wr .i64 (j1.2+16))) () _ _ _ _ h.2 slr ?_ ?_ ?_ (by omega)⟩<;>first|(simp(disch:=omega) only[vm,seval,h.1];done)|rfl
 simp(disch:=omega) only[vm,seval,h.1]
 refine⟨hk6 (j1.1,j1.2) () _ _ _ _ h.2 slr ?_ ?_ ?_ (by omega)⟩<;>first|(simp(disch:=omega) only[vm,seval,h.1];done)|rfl
 intro k2 Jk2 hk2 h
 replace h:=AJ h
 rcases h with h|h
 simp(disch:=omega) only[vm,seval,h.1]
 refine⟨hk2 ((KC .u64 a0 32),32) () _ _ _ _ h.2 slr ?_ ?_ ?_ (by omega)⟩<;>first|(simp(disch:=omega) only[vm,seval,h.1];done)|rfl
 simp(disch:=omega) only[vm,seval,h.1]
 refine⟨hk2 (a0,0) () _ _ _ _ h.2 slr ?_ ?_ ?_ (by omega)⟩<;>first|(simp(disch:=omega) only[vm,seval,h.1];done)|rfl
theorem KO {a0 r}{i0:Nat} (h:Ez N a0=some r) (ha:args=[.ptr i0 0]) (hi0:Be m i0=some ([.int .u64 a0])) (hQ: ∀n',n≤n'→Gl (Q (.int .u64 r.1) ⟨Bj m i0 ([.int .u64 r.2]),n'⟩)):ACall vE 126 args ⟨m,n⟩ Q:=by
 rw[Ez]at h
 subst ha
 refine ACall.front hi0 fun hin=>ent (fun n' k=>⟨_,rfl,(hQ n' k).go⟩) Tryz.func126 rfl Tryz.ntmps126 Tryz.results126 (.q (.r []) (.q .z (.q .z (.q .z (.q (.r []) .z))))) fun R hR=>?_
 replace h:=And.intro trivial h
 simp(disch:=omega) only[vm,seval,h.1]
 refine⟨A9 [] (.take 0 (.take 1 (.take 2 (.take 3 (.take 4 (.take 5 (.take 6 (.take 7 (.take 8 (.alt 9 [] (.done) (.stop))))))))))) Aq (by kernel_rfl) ?_⟩
 simp(disch:=omega) only[vm,seval,h.1]
 refine⟨A9 [] (.take 0 (.take 1 (.take 2 (.take 3 (.take 4 (.take 5 (.take 6 (.take 7 (.take 8 (.alt 9 [] (.done) (.stop))))))))))) Aq (by kernel_rfl) ?_⟩
 simp(disch:=omega) only[vm,seval,h.1]
 refine⟨A9 [] (.take 0 (.take 1 (.take 2 (.take 3 (.take 4 (.take 5 (.take 6 (.take 7 (.take 8 (.alt 9 [] (.done) (.stop))))))))))) Aq (by kernel_rfl) ?_⟩
 obtain⟨H,h⟩:=h
 cases h
 simp(disch:=omega) only[vm,seval,H]
 refine⟨(hR _ _ _ _ _ _ (by simp(disch:=omega) only[vm,seval,H];rfl) slr ?_ (by omega) ?_).1⟩<;>first|(simp(disch:=omega) only[vm,seval,H];done)|rfl
theorem JG {a0 r} (h:cmp_isNaN_string N a0=some r) (ha:args=[.str a0]) (hQ: ∀n',n≤n'→Gl (Q (.bool r) ⟨m,n'⟩)):ACall vE 83 args ⟨m,n⟩ Q:=by
 rw[cmp_isNaN_string]at h
 subst ha
 refine ent hQ Tryz.func83 rfl Tryz.ntmps83 Tryz.results83 (.q (.r []) (.q (.r []) .z)) fun R hR=>?_
 replace h:=And.intro trivial h
 obtain⟨H,h⟩:=h
 cases h
 simp(disch:=omega) only[vm,seval,H]
 refine⟨(hR _ _ _ _ _ _ (by simp(disch:=omega) only[vm,seval,H];rfl) slr ?_ (by omega) ?_).1⟩<;>first|(simp(disch:=omega) only[vm,seval,H];done)|rfl
theorem EY {l0 a0 a1 a2 c3_0 r}{i0:Nat} (h:BS N l0 a0 a1 a2 c3_0=some r) (ha:args=[.bsl 1 i0 0 l0,.int .i64 a1,.int .i64 a2,.fn (.func 66) [] [.cptr [.int .i64 c3_0.kind,.str c3_0.text,.slice 1 (List.map AVal.str c3_0.keys) false,.slice 4 (List.map AC c3_0.items) false]]]) (hi0:Be m i0=some (List.map (AVal.int .i64) a0)) (hQ: ∀n',n≤n'→Gl (Q (.tuple []) ⟨Bj m i0 (List.map (AVal.int .i64) r),n'⟩)):ACall vE 107 args ⟨m,n⟩ Q:=by
 rw[BS]at h
 subst ha
 refine ACall.front hi0 fun hin=>ent (fun n' k=>⟨_,rfl,(hQ n' k).go⟩) Tryz.func107 rfl Tryz.ntmps107 Tryz.results107 (.q (.r []) (.q (.r []) .z)) fun R hR=>?_
 replace h:=And.intro trivial h
 simp(disch:=omega) only[vm,seval,h.1]
 refine⟨Di (σ:=Int×Int×(List Int)) (γ:=Unit) (fun k s=>Ar N l0 k s.1 s.2.1 s.2.2) (fun s g=>[.int .i64 s.1,.int .i64 s.2.1]) (fun s g=>(i0,List.map (AVal.int .i64) s.2.2)::BN m i0) [13,14,15,16,17,18,19,20,21,22,23,24,25,26,27,28,29,30,31,32,33] [8,9] (a1,(wr .i64 (a2-1)),a0) () h (fun _=>rfl) (by first|(simp(disch:=omega) only[vm,seval,h.1];done)|rfl) (by first|(simp(disch:=omega) only[vm,seval,h.1];done)|rfl) ?_⟩
 clear h
 rintro k1 ⟨s8_0,s9_0,bi0_0⟩ _ nL0_1 hnL0_1 _ h Jk1 hk1
 change _∧Ar N l0 (k1+1) s8_0 s9_0 bi0_0=_ at h
 rw[Ar]at h
 refine AB (.q (.q (.r []) (.c .z .z)) (.q .z (.q (.r []) (.r [])))) ?_
 replace h:=AJ h
 rcases h with h|h
 replace h:=Ad h
 obtain⟨c,h⟩:=h
 try simp only[liE,seval]at c
 replace h:=AY c h
 replace h:=AA h
 obtain⟨x2,h⟩:=h
 replace h:=Ad h
 obtain⟨c,h⟩:=h
 try simp only[liE,seval]at c
 replace h:=AY c h
 replace h:=AA h
 obtain⟨x3,h⟩:=h
 replace h:=Ad h
 obtain⟨c,h⟩:=h
 try simp only[liE,seval]at c
 replace h:=AY c h
 replace h:=Ad h
 obtain⟨c,h⟩:=h
 try simp only[liE,seval]at c
 replace h:=AY c h
 simp(disch:=omega) only[vm,seval,h.1]
 refine⟨A9 [] (.take 0 (.take 1 (.take 2 (.take 3 (.take 4 (.take 5 (.take 6 (.take 7 (.take 8 (.take 9 (.take 10 (.take 11 (.take 12 (.alt 13 [10,9,8,3,2] (.take 14 (.alt 15 [] (.done) (.stop))) (.stop))))))))))))))) Aq (by kernel_rfl) ?_⟩
 simp(disch:=omega) only[vm,seval,h.1]
 refine⟨hk1 ((wr .i64 (s8_0+1)),(wr .i64 (s9_0-1)),((bi0_0.set s8_0.toNat x2).set s9_0.toNat x3)) () _ _ _ _ h.2 slr ?_ ?_ ?_ (by omega)⟩<;>first|(simp(disch:=omega) only[vm,seval,h.1];done)|rfl
 obtain⟨H,h⟩:=h
 cases h
 simp(disch:=omega) only[vm,seval,H]
 refine⟨(hR _ _ _ _ _ _ (by simp(disch:=omega) only[vm,seval,H];rfl) slr ?_ (by omega) ?_).2⟩<;>first|(simp(disch:=omega) only[vm,seval,H];done)|rfl
theorem ED {a0 r}{i0:Nat} (h:Bi N a0=some r) (ha:args=[.ptr i0 0]) (hi0:Be m i0=some ([Ew i0 51 2 a0.builder.addr,.buf 5 a0.builder.buf true])) (hQ: ∀n',n≤n'→Gl (Q (.int .i64 r.1) ⟨Bj m i0 ([Ew i0 51 2 r.2.builder.addr,.buf 5 r.2.builder.buf true]),n'⟩)):ACall vE 23 args ⟨m,n⟩ Q:=by
 rw[Bi]at h
 subst ha
 refine ACall.front hi0 fun hin=>ent (fun n' k=>⟨_,rfl,(hQ n' k).go⟩) Tryz.func23 rfl Tryz.ntmps23 Tryz.results23 (.q (.r []) (.q (.r []) .z)) fun R hR=>?_
 replace h:=And.intro trivial h
 obtain⟨H,h⟩:=h
 cases h
 simp(disch:=omega) only[vm,seval,H]
 refine⟨(hR _ _ _ _ _ _ (by simp(disch:=omega) only[vm,seval,H];rfl) slr ?_ (by omega) ?_).1⟩<;>first|(simp(disch:=omega) only[vm,seval,H];done)|rfl
theorem Fy {a0 r}{i0:Nat} (h:CW N a0=some r) (ha:args=[.ptr i0 0]) (hi0:Be m i0=some ([Ew i0 51 2 a0.builder.addr,.buf 5 a0.builder.buf true])) (hQ: ∀n',n≤n'→Gl (Q (.str r.1) ⟨Bj m i0 ([Ew i0 51 2 r.2.builder.addr,.buf 5 r.2.builder.buf false]),n'⟩)):ACall vE 24 args ⟨m,n⟩ Q:=by
 rw[CW]at h
 subst ha
 refine ACall.front hi0 fun hin=>ent (fun n' k=>⟨_,rfl,(hQ n' k).go⟩) Tryz.func24 rfl Tryz.ntmps24 Tryz.results24 (.q (.r []) (.q .z .z)) fun R hR=>?_
 replace h:=And.intro trivial h
 simp(disch:=omega) only[vm,seval,h.1]
 refine⟨A9 [6] (.take 0 (.take 1 (.take 2 (.take 5 (.take 6 (.take 7 (.take 8 (.take 9 (.alt 3 [9,8,7,6,5,1,0] (.alt 4 [9,8,7,6,5,2,1,0] (.alt 10 [8,7,6,5,2,1,0] (.alt 11 [] (.done) (.stop)) (.stop)) (.stop)) (.stop)))))))))) Aq (by kernel_rfl) ?_⟩
 obtain⟨H,h⟩:=h
 cases h
 simp(disch:=omega) only[vm,seval,H]
 refine⟨(hR _ _ _ _ _ _ (by simp(disch:=omega) only[vm,seval,H];rfl) slr ?_ (by omega) ?_).1⟩<;>first|(simp(disch:=omega) only[vm,seval,H];done)|rfl
theorem Q4 (N:Nat): ∀D:Nat,(∀ {a0:ApiValue}{a1:Int}{a2:Int}{r:Int} (h:EW N D a0 a1 a2=some r){args:List AVal}{n:Nat}{m:MS} (ha:args=[AC a0,.int .i64 a1,.int .i64 a2]){Q:PQ} (hQ: ∀n',n≤n'→Gl (Q (.int .i64 r) ⟨m,n'⟩)),ACall vE 26 args ⟨m,n⟩ Q):=by
 intro D
 induction D with
 |zero=>
  intro a0 a1 a2 r h
  simp only[EW,reduceCtorEq]at h
 |succ D ih_keep_size=>
  intro a0 a1 a2 r h args n m ha Q hQ
  rw[EW]at h
  subst ha
  refine LG hQ Tryz.func26 rfl Tryz.ntmps26 Tryz.results26 (.q (.r []) (.q .z (.q (.r []) .z))) fun R hR=>?_
  replace h:=And.intro trivial h
  simp(disch:=omega) only[vm,seval,h.1]
  refine⟨Aa (γ:=Unit) h [11,12,13,14,15,16,17,18,19,20,21,22,23,24,25,26,27,28,29,30,31,32,33,34,35,36,37,38] [39] (fun j1 g=>[.bool j1]) (fun j1 g=>(n,[.int .i64 a0.kind,.str a0.text,.slice 1 (List.map AVal.str a0.keys) false,.slice 4 (List.map AC a0.items) false])::m) (.r []) ?_ ?_⟩<;>clear h
  rintro j1 _ n4 hnn4 _ _ h
  refine AB (.c (.q (.r []) .z) .z) ?_
  replace h:=AJ h
  rcases h with h|h
  obtain⟨H,h⟩:=h
  cases h
  simp(disch:=omega) only[vm,seval,H]
  refine⟨(hR _ _ _ _ _ _ (by simp(disch:=omega) only[vm,seval,H];rfl) (.cons _ slr) ?_ (by omega) ?_).1⟩<;>first|(simp(disch:=omega) only[vm,seval,H];done)|rfl
  simp(disch:=omega) only[vm,seval,h.1]
  refine⟨Aa (γ:=Unit) h [6,8,42,43,44,45,46,47,48,49,50,51,52] [] (fun j5 g=>[]) (fun j5 g=>(n,[.int .i64 a0.kind,.str a0.text,.slice 1 (List.map AVal.str a0.keys) false,.slice 4 (List.map AC a0.items) false])::m) (.q (.r []) .z) ?_ ?_⟩<;>clear h
  rintro j5 _ n8 hnn8 _ _ h
  refine AB .z ?_
  simp(disch:=omega) only[vm,seval,h.1]
  refine⟨Aa (γ:=Unit) h [6,10,53,54,55,56,57,58,59,60,61,62,63,64,65,66,67] [1] (fun j10 g=>[.int .i64 j10]) (fun j10 g=>(n,[.int .i64 a0.kind,.str a0.text,.slice 1 (List.map AVal.str a0.keys) false,.slice 4 (List.map AC a0.items) false])::m) (.q (.r []) .z) ?_ ?_⟩<;>clear h
  rintro j10 _ n13 hnn13 _ _ h
  refine AB (.q (.r []) .z) ?_
  obtain⟨H,h⟩:=h
  cases h
  simp(disch:=omega) only[vm,seval,H]
  refine⟨(hR _ _ _ _ _ _ (by simp(disch:=omega) only[vm,seval,H];rfl) (.cons _ slr) ?_ (by omega) ?_).1⟩<;>first|(simp(disch:=omega) only[vm,seval,H];done)|rfl
  intro k11 Jk11 hk11 h
  replace h:=Ad h
  obtain⟨hfk14,h⟩:=h
  simp(disch:=omega) only[vm,seval,h.1]
  refine⟨GG (σ:=Int) (γ:=Unit) a0.items hfk14 (fun xs i s=>De N a2 (EW N D) k11 xs s) (fun i s g=>[.int .i64 s,.int .i64 i]) (fun i s g=>(n,[.int .i64 a0.kind,.str a0.text,.slice 1 (List.map AVal.str a0.keys) false,.slice 4 (List.map AC a0.items) false])::m) [6,10,57,58,59,60,61,62,63,64,65,66,67] [1,56] (wr .i64 (a1-1)) () h (by first|(simp(disch:=omega) only[vm,seval,h.1];done)|rfl) (by first|(simp(disch:=omega) only[vm,seval,h.1];done)|rfl) ?_ ?_⟩<;>clear h
  rintro s56 s1 _ nL1_1 hnL1_1 _ h
  change _∧De N a2 (EW N D) k11 [] s1=_ at h
  rw[De]at h
  refine AB (.q (.r []) (.q (.c .z .z) (.q (.q (.r []) (.q (.r []) (.q (.r []) (.c (.q (.r []) .z) .z)))) (.r [])))) ?_
  simp(disch:=omega) only[vm,seval,h.1]
  refine⟨hk11 s1 () _ _ _ _ h.2 slr ?_ ?_ ?_ (by omega)⟩<;>first|(simp(disch:=omega) only[vm,seval,h.1];done)|rfl
  rintro xk14 xsk14 s56 s1 _ nL1_1 hnL1_1 _ h Jk14 hk14
  change _∧De N a2 (EW N D) k11 (xk14::xsk14) s1=_ at h
  rw[De]at h
  refine AB (.q (.r []) (.q (.c .z .z) (.q (.q (.r []) (.q (.r []) (.q (.r []) (.c (.q (.r []) .z) .z)))) (.r [])))) ?_
  replace h:=AA h
  obtain⟨y15,h⟩:=h
  simp(disch:=omega) only[vm,seval,h.1]
  refine⟨ih_keep_size h.1.1 (by first|(simp(disch:=omega) only[vm,seval,h.1];done)|rfl) fun n16 hn16=>?_⟩
  replace h:=AJ h
  rcases h with h|h
  obtain⟨H,h⟩:=h
  cases h
  simp(disch:=omega) only[vm,seval,H]
  refine⟨(hR _ _ _ _ _ _ (by simp(disch:=omega) only[vm,seval,H];rfl) (.cons _ (.cons _ slr)) ?_ (by omega) ?_).1⟩<;>first|(simp(disch:=omega) only[vm,seval,H];done)|rfl
  simp(disch:=omega) only[vm,seval,h.1]
  refine⟨hk14 y15 () _ _ _ _ h.2 (.cons _ slr) ?_ ?_ ?_ (by omega)⟩<;>first|(simp(disch:=omega) only[vm,seval,h.1];done)|rfl
  intro k6 Jk6 hk6 h
  replace h:=Ad h
  obtain⟨hfk9,h⟩:=h
  simp(disch:=omega) only[vm,seval,h.1]
  refine⟨GG (σ:=Unit) (γ:=Unit) a0.keys hfk9 (fun xs i s=>Db N k6 xs) (fun i s g=>[.int .i64 i]) (fun i s g=>(n,[.int .i64 a0.kind,.str a0.text,.slice 1 (List.map AVal.str a0.keys) false,.slice 4 (List.map AC a0.items) false])::m) [6,8,46,47,48,49,50,51,52] [45] () () h (by first|(simp(disch:=omega) only[vm,seval,h.1];done)|rfl) (by first|(simp(disch:=omega) only[vm,seval,h.1];done)|rfl) ?_ ?_⟩<;>clear h
  rintro s45 _ _ nL0_1 hnL0_1 _ h
  change _∧Db N k6 []=_ at h
  rw[Db]at h
  refine AB (.q (.r []) (.q (.c .z .z) (.q (.q (.r []) (.q (.r []) (.c (.q (.r []) .z) .z))) (.r [])))) ?_
  simp(disch:=omega) only[vm,seval,h.1]
  refine⟨hk6 () () _ _ _ _ h.2 slr ?_ ?_ ?_ (by omega)⟩<;>first|(simp(disch:=omega) only[vm,seval,h.1];done)|rfl
  rintro xk9 xsk9 s45 _ _ nL0_1 hnL0_1 _ h Jk9 hk9
  change _∧Db N k6 (xk9::xsk9)=_ at h
  rw[Db]at h
  refine AB (.q (.r []) (.q (.c .z .z) (.q (.q (.r []) (.q (.r []) (.c (.q (.r []) .z) .z))) (.r [])))) ?_
  replace h:=AJ h
  rcases h with h|h
  obtain⟨H,h⟩:=h
  cases h
  simp(disch:=omega) only[vm,seval,H]
  refine⟨(hR _ _ _ _ _ _ (by simp(disch:=omega) only[vm,seval,H];rfl) (.cons _ slr) ?_ (by omega) ?_).1⟩<;>first|(simp(disch:=omega) only[vm,seval,H];done)|rfl
  simp(disch:=omega) only[vm,seval,h.1]
  refine⟨hk9 () () _ _ _ _ h.2 slr ?_ ?_ ?_ (by omega)⟩<;>first|(simp(disch:=omega) only[vm,seval,h.1];done)|rfl
  intro k2 Jk2 hk2 h
  replace h:=AJ h
  rcases h with h|h
  simp(disch:=omega) only[vm,seval,h.1]
  refine⟨hk2 true () _ _ _ _ h.2 slr ?_ ?_ ?_ (by omega)⟩<;>first|(simp(disch:=omega) only[vm,seval,h.1];done)|rfl
  replace h:=AJ h
  rcases h with h|h
  simp(disch:=omega) only[vm,seval,h.1]
  refine⟨hk2 true () _ _ _ _ h.2 slr ?_ ?_ ?_ (by omega)⟩<;>first|(simp(disch:=omega) only[vm,seval,h.1];done)|rfl
  replace h:=AJ h
  rcases h with h|h
  simp(disch:=omega) only[vm,seval,h.1]
  refine⟨hk2 true () _ _ _ _ h.2 slr ?_ ?_ ?_ (by omega)⟩<;>first|(simp(disch:=omega) only[vm,seval,h.1];done)|rfl
  replace h:=AJ h
  rcases h with h|h
  simp(disch:=omega) only[vm,seval,h.1]
  refine⟨hk2 true () _ _ _ _ h.2 slr ?_ ?_ ?_ (by omega)⟩<;>first|(simp(disch:=omega) only[vm,seval,h.1];done)|rfl
  simp(disch:=omega) only[vm,seval,h.1]
  refine⟨hk2 (decide ((a0.items.length:Int)>a1)) () _ _ _ _ h.2 slr ?_ ?_ ?_ (by omega)⟩<;>first|(simp(disch:=omega) only[vm,seval,h.1];done)|rfl
theorem WM {a0 a1 a2 r} (h:EW N N a0 a1 a2=some r) (ha:args=[AC a0,.int .i64 a1,.int .i64 a2]) (hQ: ∀n',n≤n'→Gl (Q (.int .i64 r) ⟨m,n'⟩)):ACall vE 26 args ⟨m,n⟩ Q:=
 (Q4 N N h ha hQ)
end Go.Proofs.YtooeobhihpkicaaGreatDoor
