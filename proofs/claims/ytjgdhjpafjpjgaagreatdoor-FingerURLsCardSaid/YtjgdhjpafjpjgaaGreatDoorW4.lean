import Derived.Test.YtjgdhjpafjpjgaaGreatDoorVmFacts
import Derived.Test.YtjgdhjpafjpjgaaGreatDoorDefs
import Derived.Test.YtjgdhjpafjpjgaaGreatDoorVM2
import Derived.Test.YtjgdhjpafjpjgaaGreatDoorW0
import Derived.Test.YtjgdhjpafjpjgaaGreatDoorW1
import Derived.Test.YtjgdhjpafjpjgaaGreatDoorW2
set_option linter.unusedVariables false
set_option linter.unusedSimpArgs false
set_option maxHeartbeats 4000000
set_option maxRecDepth 100000
set_option linter.defProp false
namespace Go.Proofs.YtjgdhjpafjpjgaaGreatDoor
open Go.VM
variable{N n:Nat}{m:MS}{Q:PQ}{args:List AVal}
theorem Kn {a0 a1 r} (h:EI N a0 a1=some r) (ha:args=[.str a0,.str a1]) (hQ: ∀n',n≤n'→Gl (Q (.tuple [.str r.1,.str r.2.1,.bool r.2.2]) ⟨m,n'⟩)):ACall vE 88 args ⟨m,n⟩ Q:=by
 rw[EI]at h
 subst ha
 refine ent hQ Tryz.func88 rfl Tryz.ntmps88 Tryz.results88 (.q (.r []) (.q (.q (.r []) (.q (.r []) (.c (.q .z .z) .z))) (.q (.r []) .z))) fun R hR=>?_
 replace h:=And.intro trivial h
 replace h:=AA h
 obtain⟨y1,h⟩:=h
 simp(disch:=omega) only[vm,seval,h.1]
 refine⟨F8 h.1.1 (by first|(simp(disch:=omega) only[vm,seval,h.1];done)|rfl) fun n2 hn2=>?_⟩
 replace h:=AC h
 rcases h with h|h
 replace h:=AA h
 obtain⟨x3,h⟩:=h
 replace h:=AA h
 obtain⟨x4,h⟩:=h
 simp(disch:=omega) only[vm,seval,h.1]
 refine⟨BM [] (.take 0 (.take 1 (.take 2 (.take 3 (.take 4 (.take 5 (.take 6 (.take 7 (.take 8 (.alt 9 [8,7,6,5,4,3] (.alt 10 [] (.alt 11 [] (.done) (.stop)) (.stop)) (.stop))))))))))) A8 (by kernel_rfl) ?_⟩
 obtain⟨H,h⟩:=h
 cases h
 simp(disch:=omega) only[vm,seval,H]
 refine⟨(hR _ _ _ _ _ _ (by simp(disch:=omega) only[vm,seval,H];rfl) slr ?_ (by omega) ?_).1⟩<;>first|(simp(disch:=omega) only[vm,seval,H];done)|rfl
 obtain⟨H,h⟩:=h
 cases h
 simp(disch:=omega) only[vm,seval,H]
 refine⟨(hR _ _ _ _ _ _ (by simp(disch:=omega) only[vm,seval,H];rfl) slr ?_ (by omega) ?_).1⟩<;>first|(simp(disch:=omega) only[vm,seval,H];done)|rfl
theorem UQ {a0 a1 r} (h:Nb N a0 a1=some r) (ha:args=[.int .u8 a0,.str a1]) (hQ: ∀n',n≤n'→Gl (Q (.bool r) ⟨m,n'⟩)):ACall vE 133 args ⟨m,n⟩ Q:=by
 rw[Nb]at h
 subst ha
 refine ent hQ Tryz.func133 rfl Tryz.ntmps133 Tryz.results133 (.q (.r []) (.q (.r []) .z)) fun R hR=>?_
 replace h:=And.intro trivial h
 replace h:=AA h
 obtain⟨y1,h⟩:=h
 simp(disch:=omega) only[vm,seval,h.1]
 refine⟨Bj h.1.1 (by first|(simp(disch:=omega) only[vm,seval,h.1];done)|rfl) fun n2 hn2=>?_⟩
 obtain⟨H,h⟩:=h
 cases h
 simp(disch:=omega) only[vm,seval,H]
 refine⟨(hR _ _ _ _ _ _ (by simp(disch:=omega) only[vm,seval,H];rfl) slr ?_ (by omega) ?_).1⟩<;>first|(simp(disch:=omega) only[vm,seval,H];done)|rfl
theorem LB {a0 a1 r} (h:Et N a0 a1=some r) (ha:args=[.str a0,.int .i64 a1]) (hQ: ∀n',n≤n'→Gl (Q (.tuple [.int .u8 r.1,.bool r.2]) ⟨m,n'⟩)):ACall vE 89 args ⟨m,n⟩ Q:=by
 rw[Et]at h
 subst ha
 refine ent hQ Tryz.func89 rfl Tryz.ntmps89 Tryz.results89 (.q (.r []) (.q .z (.q .z .z))) fun R hR=>?_
 replace h:=And.intro trivial h
 simp(disch:=omega) only[vm,seval,h.1]
 refine⟨AV (γ:=Unit) h [6,7,8,9,10,11,12,13,14,15,16,17,18,19,20,21,22,23,24,25] [26] (fun j1 g=>[.bool j1]) (fun j1 g=>m) (.r []) ?_ ?_⟩<;>clear h
 rintro j1 _ n4 hnn4 _ _ h
 refine AB (.c (.q (.r []) .z) .z) ?_
 replace h:=AC h
 rcases h with h|h
 obtain⟨H,h⟩:=h
 cases h
 simp(disch:=omega) only[vm,seval,H]
 refine⟨(hR _ _ _ _ _ _ (by simp(disch:=omega) only[vm,seval,H];rfl) slr ?_ (by omega) ?_).1⟩<;>first|(simp(disch:=omega) only[vm,seval,H];done)|rfl
 replace h:=AA h
 obtain⟨x11,h⟩:=h
 replace h:=AA h
 obtain⟨y12,h⟩:=h
 have cy12:=h.1.1
 replace h:=AA h
 obtain⟨x14,h⟩:=h
 replace h:=AA h
 obtain⟨y15,h⟩:=h
 have cy15:=h.1.1
 simp(disch:=omega) only[vm,seval,h.1]
 refine⟨BM [] (.take 0 (.take 1 (.take 2 (.take 3 (.take 6 (.take 7 (.take 8 (.take 9 (.alt 4 [9,8,7,6,2,1,0] (.take 5 (.alt 10 [5,8,7,6,3,2,1,0] (.take 11 (.alt 12 [] (.alt 13 [] (.done) (.stop)) (.stop))) (.stop))) (.stop)))))))))) A8 (by kernel_rfl) ?_⟩
 simp(disch:=omega) only[vm,seval,h.1]
 refine⟨Mr cy12 (by first|(simp(disch:=omega) only[vm,seval,h.1];done)|rfl) fun n13 hn13=>?_⟩
 simp(disch:=omega) only[vm,seval,h.1]
 refine⟨Mr cy15 (by first|(simp(disch:=omega) only[vm,seval,h.1];done)|rfl) fun n16 hn16=>?_⟩
 obtain⟨H,h⟩:=h
 cases h
 simp(disch:=omega) only[vm,seval,H]
 refine⟨(hR _ _ _ _ _ _ (by simp(disch:=omega) only[vm,seval,H];rfl) slr ?_ (by omega) ?_).1⟩<;>first|(simp(disch:=omega) only[vm,seval,H];done)|rfl
 intro k2 Jk2 hk2 h
 replace h:=AC h
 rcases h with h|h
 simp(disch:=omega) only[vm,seval,h.1]
 refine⟨hk2 true () _ _ _ _ h.2 slr ?_ ?_ ?_ (by omega)⟩<;>first|(simp(disch:=omega) only[vm,seval,h.1];done)|rfl
 replace h:=AA h
 obtain⟨x5,h⟩:=h
 replace h:=AA h
 obtain⟨y6,h⟩:=h
 simp(disch:=omega) only[vm,seval,h.1]
 refine⟨Oe h.1.1 (by first|(simp(disch:=omega) only[vm,seval,h.1];done)|rfl) fun n7 hn7=>?_⟩
 replace h:=AC h
 rcases h with h|h
 replace h:=AA h
 obtain⟨x8,h⟩:=h
 replace h:=AA h
 obtain⟨y9,h⟩:=h
 simp(disch:=omega) only[vm,seval,h.1]
 refine⟨Oe h.1.1 (by first|(simp(disch:=omega) only[vm,seval,h.1];done)|rfl) fun n10 hn10=>?_⟩
 simp(disch:=omega) only[vm,seval,h.1]
 refine⟨hk2 (!y9) () _ _ _ _ h.2 slr ?_ ?_ ?_ (by omega)⟩<;>first|(simp(disch:=omega) only[vm,seval,h.1];done)|rfl
 simp(disch:=omega) only[vm,seval,h.1]
 refine⟨hk2 true () _ _ _ _ h.2 slr ?_ ?_ ?_ (by omega)⟩<;>first|(simp(disch:=omega) only[vm,seval,h.1];done)|rfl
theorem Nf {a0 r} (h:Gr N a0=some r) (ha:args=[.str a0]) (hQ: ∀n',n≤n'→Gl (Q (.bool r) ⟨m,n'⟩)):ACall vE 236 args ⟨m,n⟩ Q:=by
 rw[Gr]at h
 subst ha
 refine ent hQ Tryz.func236 rfl Tryz.ntmps236 Tryz.results236 (.q (.r []) (.q (.r []) .z)) fun R hR=>?_
 replace h:=And.intro trivial h
 replace h:=AC h
 rcases h with h|h
 obtain⟨H,h⟩:=h
 cases h
 simp(disch:=omega) only[vm,seval,H]
 refine⟨(hR _ _ _ _ _ _ (by simp(disch:=omega) only[vm,seval,H];rfl) slr ?_ (by omega) ?_).1⟩<;>first|(simp(disch:=omega) only[vm,seval,H];done)|rfl
 replace h:=AA h
 obtain⟨y1,h⟩:=h
 simp(disch:=omega) only[vm,seval,h.1]
 refine⟨J5 h.1.1 (by first|(simp(disch:=omega) only[vm,seval,h.1];done)|rfl) fun n2 hn2=>?_⟩
 obtain⟨H,h⟩:=h
 cases h
 simp(disch:=omega) only[vm,seval,H]
 refine⟨(hR _ _ _ _ _ _ (by simp(disch:=omega) only[vm,seval,H];rfl) slr ?_ (by omega) ?_).1⟩<;>first|(simp(disch:=omega) only[vm,seval,H];done)|rfl
theorem Jc {a0 a1 a2 r} (h:Dj N a0 a1 a2=some r) (ha:args=[.str a0,.int .u64 a1,.int .u64 a2,.fn (.func 192) [] []]) (hQ: ∀n',n≤n'→Gl (Q (.tuple [.int .u64 r.1,.int .i64 r.2]) ⟨m,n'⟩)):ACall vE 253 args ⟨m,n⟩ Q:=by
 rw[Dj]at h
 subst ha
 refine ent hQ Tryz.func253 rfl Tryz.ntmps253 Tryz.results253 (.q (.r []) (.q (.q (.r []) (.c (.q (.r []) .z) .z)) .z)) fun R hR=>?_
 replace h:=And.intro trivial h
 replace h:=AC h
 rcases h with h|h
 obtain⟨H,h⟩:=h
 cases h
 simp(disch:=omega) only[vm,seval,H]
 refine⟨(hR _ _ _ _ _ _ (by simp(disch:=omega) only[vm,seval,H];rfl) slr ?_ (by omega) ?_).1⟩<;>first|(simp(disch:=omega) only[vm,seval,H];done)|rfl
 simp(disch:=omega) only[vm,seval,h.1]
 refine⟨AV (γ:=Unit) h [8,9,10,16,17,18,19,20,21,22,23,24,25,26,27] [] (fun j1 g=>[]) (fun j1 g=>m) (.q (.r []) .z) ?_ ?_⟩<;>clear h
 rintro j1 _ n4 hnn4 _ _ h
 refine AB (.q (.r []) .z) ?_
 simp(disch:=omega) only[vm,seval,h.1]
 refine⟨AV (γ:=Unit) h [8,9,12,13,28,29,30,31,32,33,34,35,36,37,38,39,40,41,42,43,44,45,46,47,48,49,50,51,52,53,54,55,56,57] [11] (fun j8 g=>[.int .u64 j8]) (fun j8 g=>m) (.q (.r []) .z) ?_ ?_⟩<;>clear h
 rintro j8 _ n11 hnn11 _ _ h
 refine AB (.q (.r []) .z) ?_
 obtain⟨H,h⟩:=h
 cases h
 simp(disch:=omega) only[vm,seval,H]
 refine⟨(hR _ _ _ _ _ _ (by simp(disch:=omega) only[vm,seval,H];rfl) slr ?_ (by omega) ?_).1⟩<;>first|(simp(disch:=omega) only[vm,seval,H];done)|rfl
 intro k9 Jk9 hk9 h
 replace h:=AR h
 obtain⟨hfk12,h⟩:=h
 simp(disch:=omega) only[vm,seval,h.1]
 refine⟨CB (σ:=Int) (γ:=Unit) a0 hfk12 (fun xs i s=>Aj N a1 a2 k9 xs s) (fun i s g=>[.int .u64 s,.int .i64 i]) (fun i s g=>m) [8,9,12,13,31,32,33,34,35,36,37,38,39,40,41,42,43,44,45,46,47,48,49,50,51,52,53,54,55,56,57] [11,30] 0 () h (by first|(simp(disch:=omega) only[vm,seval,h.1];done)|rfl) (by first|(simp(disch:=omega) only[vm,seval,h.1];done)|rfl) ?_ ?_⟩<;>clear h
 rintro s30 s11 _ nL1_1 hnL1_1 _ h
 change _∧Aj N a1 a2 k9 [] s11=_ at h
 rw[Aj]at h
 refine AB (.q (.r []) (.q (.c .z .z) (.q (.q (.r []) (.q (.r []) (.q .z (.r [])))) (.r [])))) ?_
 simp(disch:=omega) only[vm,seval,h.1]
 refine⟨hk9 s11 () _ _ _ _ h.2 slr ?_ ?_ ?_ (by omega)⟩<;>first|(simp(disch:=omega) only[vm,seval,h.1];done)|rfl
 rintro xk12 xsk12 s30 s11 _ nL1_1 hnL1_1 _ h Jk12 hk12
 change _∧Aj N a1 a2 k9 (xk12::xsk12) s11=_ at h
 rw[Aj]at h
 refine AB (.q (.r []) (.q (.c .z .z) (.q (.q (.r []) (.q (.r []) (.q .z (.r [])))) (.r [])))) ?_
 replace h:=AA h
 obtain⟨y13,h⟩:=h
 simp(disch:=omega) only[vm,seval,h.1]
 refine⟨TY h.1.1 (by first|(simp(disch:=omega) only[vm,seval,h.1];done)|rfl) fun n14 hn14=>?_⟩
 simp(disch:=omega) only[vm,seval,h.1]
 refine⟨AV (γ:=Unit) h [37,38,39,40,41,42,43,44,45,46,47,48,49,50] [51] (fun j15 g=>[.bool j15]) (fun j15 g=>m) (.r []) ?_ ?_⟩<;>clear h
 rintro j15 _ n18 hnn18 _ _ h
 refine AB (.c (.q (.r []) .z) .z) ?_
 replace h:=AC h
 rcases h with h|h
 obtain⟨H,h⟩:=h
 cases h
 simp(disch:=omega) only[vm,seval,H]
 refine⟨(hR _ _ _ _ _ _ (by simp(disch:=omega) only[vm,seval,H];rfl) slr ?_ (by omega) ?_).1⟩<;>first|(simp(disch:=omega) only[vm,seval,H];done)|rfl
 simp(disch:=omega) only[vm,seval,h.1]
 refine⟨hk12 (wr .u64 ((wr .u64 (s11 * a1))+y13)) () _ _ _ _ h.2 slr ?_ ?_ ?_ (by omega)⟩<;>first|(simp(disch:=omega) only[vm,seval,h.1];done)|rfl
 intro k16 Jk16 hk16 h
 replace h:=AR h
 obtain⟨c,h⟩:=h
 try simp only[liE,seval]at c
 replace h:=AO c h
 replace h:=AC h
 rcases h with h|h
 simp(disch:=omega) only[vm,seval,h.1]
 refine⟨hk16 true () _ _ _ _ h.2 slr ?_ ?_ ?_ (by omega)⟩<;>first|(simp(disch:=omega) only[vm,seval,h.1];done)|rfl
 simp(disch:=omega) only[vm,seval,h.1]
 refine⟨hk16 (decide ((wr .u64 ((wr .u64 (s11 * a1))+y13))>a2)) () _ _ _ _ h.2 slr ?_ ?_ ?_ (by omega)⟩<;>first|(simp(disch:=omega) only[vm,seval,h.1];done)|rfl
 intro k2 Jk2 hk2 h
 replace h:=AR h
 obtain⟨hfk5,h⟩:=h
 simp(disch:=omega) only[vm,seval,h.1]
 refine⟨CB (σ:=Unit) (γ:=Unit) a0 hfk5 (fun xs i s=>Ak N k2 xs) (fun i s g=>[.int .i64 i]) (fun i s g=>m) [8,9,10,19,20,21,22,23,24,25,26,27] [18] () () h (by first|(simp(disch:=omega) only[vm,seval,h.1];done)|rfl) (by first|(simp(disch:=omega) only[vm,seval,h.1];done)|rfl) ?_ ?_⟩<;>clear h
 rintro s18 _ _ nL0_1 hnL0_1 _ h
 change _∧Ak N k2 []=_ at h
 rw[Ak]at h
 refine AB (.q (.r []) (.q (.c .z .z) (.q (.q (.r []) (.q (.r []) (.c (.q (.r []) .z) .z))) (.r [])))) ?_
 simp(disch:=omega) only[vm,seval,h.1]
 refine⟨hk2 () () _ _ _ _ h.2 slr ?_ ?_ ?_ (by omega)⟩<;>first|(simp(disch:=omega) only[vm,seval,h.1];done)|rfl
 rintro xk5 xsk5 s18 _ _ nL0_1 hnL0_1 _ h Jk5 hk5
 change _∧Ak N k2 (xk5::xsk5)=_ at h
 rw[Ak]at h
 refine AB (.q (.r []) (.q (.c .z .z) (.q (.q (.r []) (.q (.r []) (.c (.q (.r []) .z) .z))) (.r [])))) ?_
 replace h:=AA h
 obtain⟨y6,h⟩:=h
 simp(disch:=omega) only[vm,seval,h.1]
 refine⟨Cm h.1.1 (by first|(simp(disch:=omega) only[vm,seval,h.1];done)|rfl) fun n7 hn7=>?_⟩
 replace h:=AC h
 rcases h with h|h
 simp(disch:=omega) only[vm,seval,h.1]
 refine⟨hk5 () () _ _ _ _ h.2 slr ?_ ?_ ?_ (by omega)⟩<;>first|(simp(disch:=omega) only[vm,seval,h.1];done)|rfl
 obtain⟨H,h⟩:=h
 cases h
 simp(disch:=omega) only[vm,seval,H]
 refine⟨(hR _ _ _ _ _ _ (by simp(disch:=omega) only[vm,seval,H];rfl) slr ?_ (by omega) ?_).1⟩<;>first|(simp(disch:=omega) only[vm,seval,H];done)|rfl
theorem H5 {a0 a1 r} (h:strings_Index N a0 a1=some r) (ha:args=[.str a0,.str a1]) (hQ: ∀n',n≤n'→Gl (Q (.int .i64 r) ⟨m,n'⟩)):ACall vE 161 args ⟨m,n⟩ Q:=by
 rw[strings_Index]at h
 subst ha
 refine ent hQ Tryz.func161 rfl Tryz.ntmps161 Tryz.results161 (.q (.r []) (.q (.r []) .z)) fun R hR=>?_
 replace h:=And.intro trivial h
 replace h:=AA h
 obtain⟨y1,h⟩:=h
 simp(disch:=omega) only[vm,seval,h.1]
 refine⟨F8 h.1.1 (by first|(simp(disch:=omega) only[vm,seval,h.1];done)|rfl) fun n2 hn2=>?_⟩
 obtain⟨H,h⟩:=h
 cases h
 simp(disch:=omega) only[vm,seval,H]
 refine⟨(hR _ _ _ _ _ _ (by simp(disch:=omega) only[vm,seval,H];rfl) slr ?_ (by omega) ?_).1⟩<;>first|(simp(disch:=omega) only[vm,seval,H];done)|rfl
theorem PO {a0 a1 r} (h:J4 N a0 a1=some r) (ha:args=[.str a0,.int .i64 a1]) (hQ: ∀n',n≤n'→Gl (Q (.slice 1 (List.map AVal.str r) false) ⟨m,n'⟩)):ACall vE 263 args ⟨m,n⟩ Q:=by
 rw[J4]at h
 subst ha
 refine ent hQ Tryz.func263 rfl Tryz.ntmps263 Tryz.results263 (.q (.r []) (.q (.r []) .z)) fun R hR=>?_
 replace h:=And.intro trivial h
 replace h:=AA h
 obtain⟨y1,h⟩:=h
 simp(disch:=omega) only[vm,seval,h.1]
 refine⟨Ev h.1.1 (by first|(simp(disch:=omega) only[vm,seval,h.1];done)|rfl) fun n2 hn2=>?_⟩
 simp(disch:=omega) only[vm,seval,h.1]
 refine⟨AV (γ:=Unit) h [12,13,14,15,16,17,18,19] [1] (fun j3 g=>[.int .i64 j3]) (fun j3 g=>m) .z ?_ ?_⟩<;>clear h
 rintro j3 _ n6 hnn6 _ _ h
 refine AB (.q (.r []) .z) ?_
 replace h:=AR h
 obtain⟨c,h⟩:=h
 try simp only[liE,seval]at c
 replace h:=AO c h
 simp(disch:=omega) only[vm,seval,h.1]
 refine⟨AV (γ:=Unit) h [7,8,9,22,23,24,25,26,27,28,29,30,31,32,33,34,35,36,37,38,39,40,41] [0] (fun j11 g=>[.str j11.1]) (fun j11 g=>(n6,List.map AVal.str j11.2)::m) (.q (.r []) .z) ?_ ?_⟩<;>clear h
 rintro j11 _ n14 hnn14 _ _ h
 refine AB .z ?_
 simp(disch:=omega) only[vm,seval,h.1]
 refine⟨AV (γ:=Unit) h [42,43,44,45,46,47,48] [] (fun j20 g=>[]) (fun j20 g=>(n6,List.map AVal.str j20)::m) (.q (.r []) (.c (.r []) .z)) ?_ ?_⟩<;>clear h
 rintro j20 _ n23 hnn23 _ _ h
 refine AB (.q (.r []) .z) ?_
 cases h.2
 intro k21 Jk21 hk21 h
 replace h:=AC h
 rcases h with h|h
 replace h:=AR h
 obtain⟨c,h⟩:=h
 try simp only[liE,seval]at c
 replace h:=AO c h
 replace h:=AR h
 obtain⟨c,h⟩:=h
 try simp only[liE,seval]at c
 replace h:=AO c h
 simp(disch:=omega) only[vm,seval,h.1]
 refine⟨hk21 (j11.2.set ((wr .i64 (j3-1)).toNat) j11.1) () _ _ _ _ h.2 slr ?_ ?_ ?_ (by omega)⟩<;>first|(simp(disch:=omega) only[vm,seval,h.1];done)|rfl
 simp(disch:=omega) only[vm,seval,h.1]
 refine⟨hk21 j11.2 () _ _ _ _ h.2 slr ?_ ?_ ?_ (by omega)⟩<;>first|(simp(disch:=omega) only[vm,seval,h.1];done)|rfl
 intro k12 Jk12 hk12 h
 replace h:=AR h
 obtain⟨hfk15,h⟩:=h
 simp(disch:=omega) only[vm,seval,h.1]
 refine⟨TL (σ:=(List UInt8)×(List (List UInt8))) (γ:=Unit) 0 (wr .i64 (j3-1)) hfk15 (fun xs i s=>DZ N j3 k12 xs i s.1 s.2) (fun i s g=>[.str s.1,.int .i64 i]) (fun i s g=>(n6,List.map AVal.str s.2)::m) [8,9,22,23,24,25,26,27,28,29,30,31,32,33,34,35,36,37,38,39,40,41] [0,7] (a0,(List.replicate j3.toNat ([]:List UInt8))) () h (by first|(simp(disch:=omega) only[vm,seval,h.1];done)|rfl) (by first|(simp(disch:=omega) only[vm,seval,h.1];done)|rfl) ?_ ?_⟩<;>clear h
 rintro s7 ⟨s0,bn6⟩ _ nL0_1 hnL0_1 _ h
 change _∧DZ N j3 k12 0 s7 s0 bn6=_ at h
 rw[DZ]at h
 refine AB (.q (.q (.r []) (.c .z .z)) (.q (.q (.r []) (.q (.r []) (.r []))) (.r []))) ?_
 simp(disch:=omega) only[vm,seval,h.1]
 refine⟨hk12 (s0,bn6) () _ _ _ _ h.2 slr ?_ ?_ ?_ (by omega)⟩<;>first|(simp(disch:=omega) only[vm,seval,h.1];done)|rfl
 rintro xsk15 s7 ⟨s0,bn6⟩ _ nL0_1 hnL0_1 _ h Jk15 hk15
 change _∧DZ N j3 k12 (xsk15+1) s7 s0 bn6=_ at h
 rw[DZ]at h
 refine AB (.q (.q (.r []) (.c .z .z)) (.q (.q (.r []) (.q (.r []) (.r []))) (.r []))) ?_
 replace h:=AA h
 obtain⟨y16,h⟩:=h
 simp(disch:=omega) only[vm,seval,h.1]
 refine⟨Eo h.1.1 (by first|(simp(disch:=omega) only[vm,seval,h.1];done)|rfl) fun n17 hn17=>?_⟩
 replace h:=AA h
 obtain⟨x18,h⟩:=h
 replace h:=AR h
 obtain⟨c,h⟩:=h
 try simp only[liE,seval]at c
 replace h:=AO c h
 replace h:=AR h
 obtain⟨c,h⟩:=h
 try simp only[liE,seval]at c
 replace h:=AO c h
 replace h:=AA h
 obtain⟨x19,h⟩:=h
 simp(disch:=omega) only[vm,seval,h.1]
 refine⟨hk15 (x19,(bn6.set s7.toNat x18)) () _ _ _ _ h.2 slr ?_ ?_ ?_ (by omega)⟩<;>first|(simp(disch:=omega) only[vm,seval,h.1];done)|rfl
 intro k4 Jk4 hk4 h
 simp(disch:=omega) only[vm,seval,h.1]
 refine⟨AV (γ:=Unit) h [12,13,14,15,16,17] [18] (fun j7 g=>[.bool j7]) (fun j7 g=>m) (.r []) ?_ ?_⟩<;>clear h
 rintro j7 _ n10 hnn10 _ _ h
 refine AB (.c (.r []) .z) ?_
 replace h:=AC h
 rcases h with h|h
 simp(disch:=omega) only[vm,seval,h.1]
 refine⟨hk4 y1 () _ _ _ _ h.2 slr ?_ ?_ ?_ (by omega)⟩<;>first|(simp(disch:=omega) only[vm,seval,h.1];done)|rfl
 simp(disch:=omega) only[vm,seval,h.1]
 refine⟨hk4 a1 () _ _ _ _ h.2 slr ?_ ?_ ?_ (by omega)⟩<;>first|(simp(disch:=omega) only[vm,seval,h.1];done)|rfl
 intro k8 Jk8 hk8 h
 replace h:=AC h
 rcases h with h|h
 simp(disch:=omega) only[vm,seval,h.1]
 refine⟨hk8 true () _ _ _ _ h.2 slr ?_ ?_ ?_ (by omega)⟩<;>first|(simp(disch:=omega) only[vm,seval,h.1];done)|rfl
 simp(disch:=omega) only[vm,seval,h.1]
 refine⟨hk8 (decide (a1>y1)) () _ _ _ _ h.2 slr ?_ ?_ ?_ (by omega)⟩<;>first|(simp(disch:=omega) only[vm,seval,h.1];done)|rfl
theorem KA {a0 a1 r} (h:ES N a0 a1=some r) (ha:args=[.str a0,.int .i32 a1]) (hQ: ∀n',n≤n'→Gl (Q (.int .i64 r) ⟨m,n'⟩)):ACall vE 204 args ⟨m,n⟩ Q:=by
 rw[ES]at h
 subst ha
 refine ent hQ Tryz.func204 rfl Tryz.ntmps204 Tryz.results204 (.q (.r []) .z) fun R hR=>?_
 replace h:=And.intro trivial h
 simp(disch:=omega) only[vm,seval,h.1]
 refine⟨AV (γ:=Unit) h [161,162,163,164,165,166] [160] (fun j1 g=>[.bool j1]) (fun j1 g=>m) (.r []) ?_ ?_⟩<;>clear h
 rintro j1 _ n4 hnn4 _ _ h
 refine AB (.c (.q (.r []) .z) (.q (.r []) (.c .z (.q (.r []) (.c (.q (.r []) .z) .z))))) ?_
 replace h:=AC h
 rcases h with h|h
 replace h:=AA h
 obtain⟨y5,h⟩:=h
 simp(disch:=omega) only[vm,seval,h.1]
 refine⟨Bj h.1.1 (by first|(simp(disch:=omega) only[vm,seval,h.1];done)|rfl) fun n6 hn6=>?_⟩
 obtain⟨H,h⟩:=h
 cases h
 simp(disch:=omega) only[vm,seval,H]
 refine⟨(hR _ _ _ _ _ _ (by simp(disch:=omega) only[vm,seval,H];rfl) slr ?_ (by omega) ?_).1⟩<;>first|(simp(disch:=omega) only[vm,seval,H];done)|rfl
 replace h:=AC h
 rcases h with h|h
 simp(disch:=omega) only[vm,seval,h.1]
 refine⟨AV (γ:=Unit) h [4,5,6,174,175,176,177,178,179,180,181,182] [] (fun j7 g=>[]) (fun j7 g=>m) (.q (.r []) .z) ?_ ?_⟩<;>clear h
 rintro j7 _ n10 hnn10 _ _ h
 refine AB (.q (.r []) .z) ?_
 obtain⟨H,h⟩:=h
 cases h
 simp(disch:=omega) only[vm,seval,H]
 refine⟨(hR _ _ _ _ _ _ (by simp(disch:=omega) only[vm,seval,H];rfl) slr ?_ (by omega) ?_).1⟩<;>first|(simp(disch:=omega) only[vm,seval,H];done)|rfl
 intro k8 Jk8 hk8 h
 simp(disch:=omega) only[vm,seval,h.1]
 refine⟨Ka (σ:=Nat) (γ:=Unit) (fun k s=>EM N a0 k8 k s) (fun s g=>[.iter a0 s]) (fun s g=>m) [4,5,6,176,177,178,179,180,181,182] [175] 0 () h (fun _=>rfl) (by first|(simp(disch:=omega) only[vm,seval,h.1];done)|rfl) (by first|(simp(disch:=omega) only[vm,seval,h.1];done)|rfl) ?_⟩
 clear h
 rintro k11 s175 _ nL0_1 hnL0_1 _ h Jk11 hk11
 change _∧EM N a0 k8 (k11+1) s175=_ at h
 rw[EM]at h
 refine AB (.q (.r []) (.q (.c .z .z) (.q (.r []) (.q (.r []) (.c (.q (.r []) .z) .z))))) ?_
 replace h:=AC h
 rcases h with h|h
 replace h:=AC h
 rcases h with h|h
 obtain⟨H,h⟩:=h
 cases h
 simp(disch:=omega) only[vm,seval,H]
 refine⟨(hR _ _ _ _ _ _ (by simp(disch:=omega) only[vm,seval,H];rfl) slr ?_ (by omega) ?_).1⟩<;>first|(simp(disch:=omega) only[vm,seval,H];done)|rfl
 simp(disch:=omega) only[vm,seval,h.1]
 refine⟨hk11 (s175+(Ct a0 s175).2) () _ _ _ _ h.2 slr ?_ ?_ ?_ (by omega)⟩<;>first|(simp(disch:=omega) only[vm,seval,h.1];done)|rfl
 simp(disch:=omega) only[vm,seval,h.1]
 refine⟨hk8 () () _ _ _ _ h.2 slr ?_ ?_ ?_ (by omega)⟩<;>first|(simp(disch:=omega) only[vm,seval,h.1];done)|rfl
 replace h:=AA h
 obtain⟨y12,h⟩:=h
 simp(disch:=omega) only[vm,seval,h.1]
 refine⟨LH h.1.1 (by first|(simp(disch:=omega) only[vm,seval,h.1];done)|rfl) fun n13 hn13=>?_⟩
 replace h:=AC h
 rcases h with h|h
 cases h.2
 obtain⟨H,h⟩:=h
 cases h
 simp(disch:=omega) only[vm,seval,H]
 refine⟨(hR _ _ _ _ _ _ (by simp(disch:=omega) only[vm,seval,H];rfl) slr ?_ (by omega) ?_).1⟩<;>first|(simp(disch:=omega) only[vm,seval,H];done)|rfl
 intro k2 Jk2 hk2 h
 replace h:=AC h
 rcases h with h|h
 simp(disch:=omega) only[vm,seval,h.1]
 refine⟨hk2 (decide (a1<128)) () _ _ _ _ h.2 slr ?_ ?_ ?_ (by omega)⟩<;>first|(simp(disch:=omega) only[vm,seval,h.1];done)|rfl
 simp(disch:=omega) only[vm,seval,h.1]
 refine⟨hk2 false () _ _ _ _ h.2 slr ?_ ?_ ?_ (by omega)⟩<;>first|(simp(disch:=omega) only[vm,seval,h.1];done)|rfl
theorem AEB {a0 r} (h:Ls N a0=some r) (ha:args=[.int .u8 a0]) (hQ: ∀n',n≤n'→Gl (Q (.bool r) ⟨m,n'⟩)):ACall vE 265 args ⟨m,n⟩ Q:=by
 rw[Ls]at h
 subst ha
 refine ent hQ Tryz.func265 rfl Tryz.ntmps265 Tryz.results265 (.q (.r []) (.q (.r []) .z)) fun R hR=>?_
 replace h:=And.intro trivial h
 replace h:=AA h
 obtain⟨y1,h⟩:=h
 simp(disch:=omega) only[vm,seval,h.1]
 refine⟨Hz h.1.1 (by first|(simp(disch:=omega) only[vm,seval,h.1];done)|rfl) fun n2 hn2=>?_⟩
 replace h:=AC h
 rcases h with h|h
 obtain⟨H,h⟩:=h
 cases h
 simp(disch:=omega) only[vm,seval,H]
 refine⟨(hR _ _ _ _ _ _ (by simp(disch:=omega) only[vm,seval,H];rfl) slr ?_ (by omega) ?_).1⟩<;>first|(simp(disch:=omega) only[vm,seval,H];done)|rfl
 replace h:=AA h
 obtain⟨y3,h⟩:=h
 simp(disch:=omega) only[vm,seval,h.1]
 refine⟨Cm h.1.1 (by first|(simp(disch:=omega) only[vm,seval,h.1];done)|rfl) fun n4 hn4=>?_⟩
 replace h:=AC h
 rcases h with h|h
 obtain⟨H,h⟩:=h
 cases h
 simp(disch:=omega) only[vm,seval,H]
 refine⟨(hR _ _ _ _ _ _ (by simp(disch:=omega) only[vm,seval,H];rfl) slr ?_ (by omega) ?_).1⟩<;>first|(simp(disch:=omega) only[vm,seval,H];done)|rfl
 replace h:=AA h
 obtain⟨y5,h⟩:=h
 simp(disch:=omega) only[vm,seval,h.1]
 refine⟨Bj h.1.1 (by first|(simp(disch:=omega) only[vm,seval,h.1];done)|rfl) fun n6 hn6=>?_⟩
 obtain⟨H,h⟩:=h
 cases h
 simp(disch:=omega) only[vm,seval,H]
 refine⟨(hR _ _ _ _ _ _ (by simp(disch:=omega) only[vm,seval,H];rfl) slr ?_ (by omega) ?_).1⟩<;>first|(simp(disch:=omega) only[vm,seval,H];done)|rfl
theorem GA {a0 r} (h:Cg N a0=some r) (ha:args=[Bl a0]) (hQ: ∀n',n≤n'→Gl (Q (.str r) ⟨m,n'⟩)):ACall vE 34 args ⟨m,n⟩ Q:=by
 rw[Cg]at h
 subst ha
 refine ent hQ Tryz.func34 rfl Tryz.ntmps34 Tryz.results34 (.q (.r []) (.q .z .z)) fun R hR=>?_
 replace h:=And.intro trivial h
 replace h:=AA h
 obtain⟨y1,h⟩:=h
 have cy1:=h.1.1
 replace h:=AA h
 obtain⟨y3,h⟩:=h
 have cy3:=h.1.1
 replace h:=AR h
 obtain⟨c,h⟩:=h
 try simp only[liE,seval]at c
 replace h:=AO c h
 replace h:=AA h
 obtain⟨y5,h⟩:=h
 have cy5:=h.1.1
 replace h:=AR h
 obtain⟨c,h⟩:=h
 try simp only[liE,seval]at c
 replace h:=AO c h
 simp(disch:=omega) only[vm,seval,h.1]
 refine⟨BM [] (.take 0 (.take 4 (.alt 1 [4] (.alt 2 [4,0] (.take 3 (.alt 5 [3,0] (.take 6 (.alt 7 [] (.done) (.stop))) (.stop))) (.stop)) (.stop)))) A8 (by kernel_rfl) ?_⟩
 simp(disch:=omega) only[vm,seval,h.1]
 refine⟨RV cy1 (by first|(simp(disch:=omega) only[vm,seval,h.1];done)|rfl) fun n2 hn2=>?_⟩
 simp(disch:=omega) only[vm,seval,h.1]
 refine⟨Ti cy3 (by first|(simp(disch:=omega) only[vm,seval,h.1];done)|rfl) fun n4 hn4=>?_⟩
 simp(disch:=omega) only[vm,seval,h.1]
 refine⟨Ra cy5 (by first|(simp(disch:=omega) only[vm,seval,h.1];done)|rfl) fun n6 hn6=>?_⟩
 simp(disch:=omega) only[vm,seval,h.1]
 refine⟨AV (γ:=Unit) h [11,12,13,14,15,16,17] [3] (fun j7 g=>[.str j7]) (fun j7 g=>(n,[.str a0.host,.int .i64 a0.port,.str a0.path,.str a0.query,.str a0.fragment,.bool a0.hasQuery,.bool a0.hasFrag])::m) (.q (.r []) (.c (.r []) .z)) ?_ ?_⟩<;>clear h
 rintro j7 _ n10 hnn10 _ _ h
 refine AB (.q (.r []) .z) ?_
 obtain⟨H,h⟩:=h
 cases h
 simp(disch:=omega) only[vm,seval,H]
 refine⟨(hR _ _ _ _ _ _ (by simp(disch:=omega) only[vm,seval,H];rfl) (.cons _ slr) ?_ (by omega) ?_).1⟩<;>first|(simp(disch:=omega) only[vm,seval,H];done)|rfl
 intro k8 Jk8 hk8 h
 replace h:=AC h
 rcases h with h|h
 replace h:=AR h
 obtain⟨c,h⟩:=h
 try simp only[liE,seval]at c
 replace h:=AO c h
 replace h:=AR h
 obtain⟨c,h⟩:=h
 try simp only[liE,seval]at c
 replace h:=AO c h
 simp(disch:=omega) only[vm,seval,h.1]
 refine⟨hk8 (((([104,116,116,112,115,58,47,47]:List UInt8)++y3)++y5)++(([35]:List UInt8)++a0.fragment)) () _ _ _ _ h.2 slr ?_ ?_ ?_ (by omega)⟩<;>first|(simp(disch:=omega) only[vm,seval,h.1];done)|rfl
 simp(disch:=omega) only[vm,seval,h.1]
 refine⟨hk8 ((([104,116,116,112,115,58,47,47]:List UInt8)++y3)++y5) () _ _ _ _ h.2 slr ?_ ?_ ?_ (by omega)⟩<;>first|(simp(disch:=omega) only[vm,seval,h.1];done)|rfl
theorem J9 {a0 a1 r} (h:strings_CutPrefix N a0 a1=some r) (ha:args=[.str a0,.str a1]) (hQ: ∀n',n≤n'→Gl (Q (.tuple [.str r.1,.bool r.2]) ⟨m,n'⟩)):ACall vE 150 args ⟨m,n⟩ Q:=by
 rw[strings_CutPrefix]at h
 subst ha
 refine ent hQ Tryz.func150 rfl Tryz.ntmps150 Tryz.results150 (.q (.r []) (.q (.r []) .z)) fun R hR=>?_
 replace h:=And.intro trivial h
 replace h:=AA h
 obtain⟨y1,h⟩:=h
 simp(disch:=omega) only[vm,seval,h.1]
 refine⟨Ie h.1.1 (by first|(simp(disch:=omega) only[vm,seval,h.1];done)|rfl) fun n2 hn2=>?_⟩
 obtain⟨H,h⟩:=h
 cases h
 simp(disch:=omega) only[vm,seval,H]
 refine⟨(hR _ _ _ _ _ _ (by simp(disch:=omega) only[vm,seval,H];rfl) slr ?_ (by omega) ?_).1⟩<;>first|(simp(disch:=omega) only[vm,seval,H];done)|rfl
theorem Zd {a0 r} (h:KV N a0=some r) (ha:args=[.str a0]) (hQ: ∀n',n≤n'→Gl (Q (.bool r) ⟨m,n'⟩)):ACall vE 159 args ⟨m,n⟩ Q:=by
 rw[KV]at h
 subst ha
 refine ent hQ Tryz.func159 rfl Tryz.ntmps159 Tryz.results159 (.q (.r []) .z) fun R hR=>?_
 replace h:=And.intro trivial h
 simp(disch:=omega) only[vm,seval,h.1]
 refine⟨AV (γ:=Unit) h [2,3,4,5,6,7,8,9,10,11,12,13,14,15,16,17,18,19,20,21,22,23,24,25,26,27,28,29,30,31,32] [] (fun j1 g=>[]) (fun j1 g=>m) (.q (.r []) .z) ?_ ?_⟩<;>clear h
 rintro j1 _ n4 hnn4 _ _ h
 refine AB (.q (.r []) .z) ?_
 obtain⟨H,h⟩:=h
 cases h
 simp(disch:=omega) only[vm,seval,H]
 refine⟨(hR _ _ _ _ _ _ (by simp(disch:=omega) only[vm,seval,H];rfl) slr ?_ (by omega) ?_).1⟩<;>first|(simp(disch:=omega) only[vm,seval,H];done)|rfl
 intro k2 Jk2 hk2 h
 replace h:=AR h
 obtain⟨hfk5,h⟩:=h
 simp(disch:=omega) only[vm,seval,h.1]
 refine⟨CB (σ:=Unit) (γ:=Unit) a0 hfk5 (fun xs i s=>Dm N k2 xs i) (fun i s g=>[.int .i64 i]) (fun i s g=>m) [2,3,7,8,9,10,11,12,13,14,15,16,17,18,19,20,21,22,23,24,25,26,27,28,29,30,31,32] [6] () () h (by first|(simp(disch:=omega) only[vm,seval,h.1];done)|rfl) (by first|(simp(disch:=omega) only[vm,seval,h.1];done)|rfl) ?_ ?_⟩<;>clear h
 rintro s6 _ _ nL0_1 hnL0_1 _ h
 change _∧Dm N k2 [] s6=_ at h
 rw[Dm]at h
 refine AB (.q (.r []) (.q (.c .z .z) (.q (.q (.r []) .z) (.r [])))) ?_
 simp(disch:=omega) only[vm,seval,h.1]
 refine⟨hk2 () () _ _ _ _ h.2 slr ?_ ?_ ?_ (by omega)⟩<;>first|(simp(disch:=omega) only[vm,seval,h.1];done)|rfl
 rintro xk5 xsk5 s6 _ _ nL0_1 hnL0_1 _ h Jk5 hk5
 change _∧Dm N k2 (xk5::xsk5) s6=_ at h
 rw[Dm]at h
 refine AB (.q (.r []) (.q (.c .z .z) (.q (.q (.r []) .z) (.r [])))) ?_
 simp(disch:=omega) only[vm,seval,h.1]
 refine⟨AV (γ:=Unit) h [9,10,11,12,13,14,15,16,17,18,19,20,21,22,23,24,25,26,27,28,29,30] [31] (fun j6 g=>[.bool j6]) (fun j6 g=>m) (.r []) ?_ ?_⟩<;>clear h
 rintro j6 _ n9 hnn9 _ _ h
 refine AB (.c (.q (.r []) .z) .z) ?_
 replace h:=AC h
 rcases h with h|h
 obtain⟨H,h⟩:=h
 cases h
 simp(disch:=omega) only[vm,seval,H]
 refine⟨(hR _ _ _ _ _ _ (by simp(disch:=omega) only[vm,seval,H];rfl) slr ?_ (by omega) ?_).1⟩<;>first|(simp(disch:=omega) only[vm,seval,H];done)|rfl
 simp(disch:=omega) only[vm,seval,h.1]
 refine⟨hk5 () () _ _ _ _ h.2 slr ?_ ?_ ?_ (by omega)⟩<;>first|(simp(disch:=omega) only[vm,seval,h.1];done)|rfl
 intro k7 Jk7 hk7 h
 replace h:=AA h
 obtain⟨y10,h⟩:=h
 simp(disch:=omega) only[vm,seval,h.1]
 refine⟨Hz h.1.1 (by first|(simp(disch:=omega) only[vm,seval,h.1];done)|rfl) fun n11 hn11=>?_⟩
 replace h:=AC h
 rcases h with h|h
 simp(disch:=omega) only[vm,seval,h.1]
 refine⟨hk7 false () _ _ _ _ h.2 slr ?_ ?_ ?_ (by omega)⟩<;>first|(simp(disch:=omega) only[vm,seval,h.1];done)|rfl
 replace h:=AC h
 rcases h with h|h
 simp(disch:=omega) only[vm,seval,h.1]
 refine⟨hk7 true () _ _ _ _ h.2 slr ?_ ?_ ?_ (by omega)⟩<;>first|(simp(disch:=omega) only[vm,seval,h.1];done)|rfl
 replace h:=AA h
 obtain⟨y12,h⟩:=h
 simp(disch:=omega) only[vm,seval,h.1]
 refine⟨Cm h.1.1 (by first|(simp(disch:=omega) only[vm,seval,h.1];done)|rfl) fun n13 hn13=>?_⟩
 replace h:=AC h
 rcases h with h|h
 simp(disch:=omega) only[vm,seval,h.1]
 refine⟨hk7 false () _ _ _ _ h.2 slr ?_ ?_ ?_ (by omega)⟩<;>first|(simp(disch:=omega) only[vm,seval,h.1];done)|rfl
 replace h:=AA h
 obtain⟨y14,h⟩:=h
 simp(disch:=omega) only[vm,seval,h.1]
 refine⟨Bj h.1.1 (by first|(simp(disch:=omega) only[vm,seval,h.1];done)|rfl) fun n15 hn15=>?_⟩
 simp(disch:=omega) only[vm,seval,h.1]
 refine⟨hk7 (decide (y14<0)) () _ _ _ _ h.2 slr ?_ ?_ ?_ (by omega)⟩<;>first|(simp(disch:=omega) only[vm,seval,h.1];done)|rfl
theorem NT {a0 a1 r} (h:strings_TrimPrefix N a0 a1=some r) (ha:args=[.str a0,.str a1]) (hQ: ∀n',n≤n'→Gl (Q (.str r) ⟨m,n'⟩)):ACall vE 165 args ⟨m,n⟩ Q:=by
 rw[strings_TrimPrefix]at h
 subst ha
 refine ent hQ Tryz.func165 rfl Tryz.ntmps165 Tryz.results165 (.q (.r []) (.q (.r []) .z)) fun R hR=>?_
 replace h:=And.intro trivial h
 replace h:=AA h
 obtain⟨y1,h⟩:=h
 simp(disch:=omega) only[vm,seval,h.1]
 refine⟨Ia h.1.1 (by first|(simp(disch:=omega) only[vm,seval,h.1];done)|rfl) fun n2 hn2=>?_⟩
 obtain⟨H,h⟩:=h
 cases h
 simp(disch:=omega) only[vm,seval,H]
 refine⟨(hR _ _ _ _ _ _ (by simp(disch:=omega) only[vm,seval,H];rfl) slr ?_ (by omega) ?_).1⟩<;>first|(simp(disch:=omega) only[vm,seval,H];done)|rfl
theorem TI {a0 r} (h:Ig N a0=some r) (ha:args=[DN a0]) (hQ: ∀n',n≤n'→Gl (Q (.str r) ⟨m,n'⟩)):ACall vE 63 args ⟨m,n⟩ Q:=by
 rw[Ig]at h
 subst ha
 refine ent hQ Tryz.func63 rfl Tryz.ntmps63 Tryz.results63 (.q (.r []) (.q (.q (.r []) (.c (.q (.r []) .z) .z)) (.q .z .z))) fun R hR=>?_
 replace h:=And.intro trivial h
 replace h:=AC h
 rcases h with h|h
 obtain⟨H,h⟩:=h
 cases h
 simp(disch:=omega) only[vm,seval,H]
 refine⟨(hR _ _ _ _ _ _ (by simp(disch:=omega) only[vm,seval,H];rfl) (.cons _ slr) ?_ (by omega) ?_).1⟩<;>first|(simp(disch:=omega) only[vm,seval,H];done)|rfl
 replace h:=AR h
 obtain⟨c,h⟩:=h
 try simp only[liE,seval]at c
 replace h:=AO c h
 replace h:=AA h
 obtain⟨y1,h⟩:=h
 have cy1:=h.1.1
 replace h:=AR h
 obtain⟨c,h⟩:=h
 try simp only[liE,seval]at c
 replace h:=AO c h
 simp(disch:=omega) only[vm,seval,h.1]
 refine⟨BM [] (.take 0 (.take 1 (.take 2 (.take 3 (.take 4 (.alt 5 [3,2,1,0] (.take 6 (.alt 7 [] (.done) (.stop))) (.stop))))))) A8 (by kernel_rfl) ?_⟩
 simp(disch:=omega) only[vm,seval,h.1]
 refine⟨Mf cy1 (by first|(simp(disch:=omega) only[vm,seval,h.1];done)|rfl) fun n2 hn2=>?_⟩
 obtain⟨H,h⟩:=h
 cases h
 simp(disch:=omega) only[vm,seval,H]
 refine⟨(hR _ _ _ _ _ _ (by simp(disch:=omega) only[vm,seval,H];rfl) (.cons _ slr) ?_ (by omega) ?_).1⟩<;>first|(simp(disch:=omega) only[vm,seval,H];done)|rfl
theorem NZ {a0 a1 r} (h:Gs N a0 a1=some r) (ha:args=[.str a0,.int .i64 a1]) (hQ: ∀n',n≤n'→Gl (Q (.tuple [.int .u8 r.1,.bool r.2]) ⟨m,n'⟩)):ACall vE 90 args ⟨m,n⟩ Q:=by
 rw[Gs]at h
 subst ha
 refine ent hQ Tryz.func90 rfl Tryz.ntmps90 Tryz.results90 (.q (.r []) (.q .z (.q .z .z))) fun R hR=>?_
 replace h:=And.intro trivial h
 simp(disch:=omega) only[vm,seval,h.1]
 refine⟨AV (γ:=Unit) h [6,7,8,9,10,11,12,13,14,15,16,17,18,19,20,21,22,23,24,25,26,27,28,29,30,31] [32] (fun j1 g=>[.bool j1]) (fun j1 g=>m) (.r []) ?_ ?_⟩<;>clear h
 rintro j1 _ n4 hnn4 _ _ h
 refine AB (.c (.q (.r []) .z) .z) ?_
 replace h:=AC h
 rcases h with h|h
 obtain⟨H,h⟩:=h
 cases h
 simp(disch:=omega) only[vm,seval,H]
 refine⟨(hR _ _ _ _ _ _ (by simp(disch:=omega) only[vm,seval,H];rfl) slr ?_ (by omega) ?_).1⟩<;>first|(simp(disch:=omega) only[vm,seval,H];done)|rfl
 replace h:=AA h
 obtain⟨x12,h⟩:=h
 replace h:=AA h
 obtain⟨y13,h⟩:=h
 have cy13:=h.1.1
 replace h:=AA h
 obtain⟨x15,h⟩:=h
 replace h:=AA h
 obtain⟨y16,h⟩:=h
 have cy16:=h.1.1
 simp(disch:=omega) only[vm,seval,h.1]
 refine⟨BM [] (.take 0 (.take 1 (.take 2 (.take 3 (.take 6 (.take 7 (.take 8 (.take 9 (.alt 4 [9,8,7,6,2,1,0] (.take 5 (.alt 10 [5,8,7,6,3,2,1,0] (.take 11 (.alt 12 [] (.alt 13 [] (.done) (.stop)) (.stop))) (.stop))) (.stop)))))))))) A8 (by kernel_rfl) ?_⟩
 simp(disch:=omega) only[vm,seval,h.1]
 refine⟨Od cy13 (by first|(simp(disch:=omega) only[vm,seval,h.1];done)|rfl) fun n14 hn14=>?_⟩
 simp(disch:=omega) only[vm,seval,h.1]
 refine⟨Od cy16 (by first|(simp(disch:=omega) only[vm,seval,h.1];done)|rfl) fun n17 hn17=>?_⟩
 obtain⟨H,h⟩:=h
 cases h
 simp(disch:=omega) only[vm,seval,H]
 refine⟨(hR _ _ _ _ _ _ (by simp(disch:=omega) only[vm,seval,H];rfl) slr ?_ (by omega) ?_).1⟩<;>first|(simp(disch:=omega) only[vm,seval,H];done)|rfl
 intro k2 Jk2 hk2 h
 replace h:=AC h
 rcases h with h|h
 simp(disch:=omega) only[vm,seval,h.1]
 refine⟨hk2 true () _ _ _ _ h.2 slr ?_ ?_ ?_ (by omega)⟩<;>first|(simp(disch:=omega) only[vm,seval,h.1];done)|rfl
 replace h:=AA h
 obtain⟨x5,h⟩:=h
 replace h:=AC h
 rcases h with h|h
 simp(disch:=omega) only[vm,seval,h.1]
 refine⟨hk2 true () _ _ _ _ h.2 slr ?_ ?_ ?_ (by omega)⟩<;>first|(simp(disch:=omega) only[vm,seval,h.1];done)|rfl
 replace h:=AA h
 obtain⟨x6,h⟩:=h
 replace h:=AA h
 obtain⟨y7,h⟩:=h
 simp(disch:=omega) only[vm,seval,h.1]
 refine⟨JY h.1.1 (by first|(simp(disch:=omega) only[vm,seval,h.1];done)|rfl) fun n8 hn8=>?_⟩
 replace h:=AC h
 rcases h with h|h
 replace h:=AA h
 obtain⟨x9,h⟩:=h
 replace h:=AA h
 obtain⟨y10,h⟩:=h
 simp(disch:=omega) only[vm,seval,h.1]
 refine⟨JY h.1.1 (by first|(simp(disch:=omega) only[vm,seval,h.1];done)|rfl) fun n11 hn11=>?_⟩
 simp(disch:=omega) only[vm,seval,h.1]
 refine⟨hk2 (!y10) () _ _ _ _ h.2 slr ?_ ?_ ?_ (by omega)⟩<;>first|(simp(disch:=omega) only[vm,seval,h.1];done)|rfl
 simp(disch:=omega) only[vm,seval,h.1]
 refine⟨hk2 true () _ _ _ _ h.2 slr ?_ ?_ ?_ (by omega)⟩<;>first|(simp(disch:=omega) only[vm,seval,h.1];done)|rfl
theorem Tx {a0 a1 a2 r} (h:Ju N a0 a1 a2=some r) (ha:args=[.str a0,.int .u64 a1,.int .u64 a2]) (hQ: ∀n',n≤n'→Gl (Q (.tuple [.int .u64 r.1,.int .i64 r.2]) ⟨m,n'⟩)):ACall vE 227 args ⟨m,n⟩ Q:=by
 rw[Ju]at h
 subst ha
 refine ent hQ Tryz.func227 rfl Tryz.ntmps227 Tryz.results227 (.q (.r []) (.q (.q (.r []) (.c (.q (.r []) .z) .z)) .z)) fun R hR=>?_
 replace h:=And.intro trivial h
 replace h:=AC h
 rcases h with h|h
 obtain⟨H,h⟩:=h
 cases h
 simp(disch:=omega) only[vm,seval,H]
 refine⟨(hR _ _ _ _ _ _ (by simp(disch:=omega) only[vm,seval,H];rfl) slr ?_ (by omega) ?_).1⟩<;>first|(simp(disch:=omega) only[vm,seval,H];done)|rfl
 simp(disch:=omega) only[vm,seval,h.1]
 refine⟨AV (γ:=Unit) h [6,7,8,14,15,16,17,18,19,20,21,22,23,24,25,26,27,28,29,30,31,32,33,34,35,36,37,38,39] [] (fun j1 g=>[]) (fun j1 g=>m) (.q (.r []) .z) ?_ ?_⟩<;>clear h
 rintro j1 _ n4 hnn4 _ _ h
 refine AB (.q (.r []) .z) ?_
 simp(disch:=omega) only[vm,seval,h.1]
 refine⟨AV (γ:=Unit) h [6,7,10,11,40,41,42,43,44,45,46,47,48,49,50,51,52,53,54,55,56,57,58,59,60,61,62,63,64,65,66,67,68,69,70,71,72,73,74,75,76,77,78,79,80,81,82,83,84,85] [9] (fun j16 g=>[.int .u64 j16]) (fun j16 g=>m) (.q (.r []) .z) ?_ ?_⟩<;>clear h
 rintro j16 _ n19 hnn19 _ _ h
 refine AB (.q (.r []) .z) ?_
 obtain⟨H,h⟩:=h
 cases h
 simp(disch:=omega) only[vm,seval,H]
 refine⟨(hR _ _ _ _ _ _ (by simp(disch:=omega) only[vm,seval,H];rfl) slr ?_ (by omega) ?_).1⟩<;>first|(simp(disch:=omega) only[vm,seval,H];done)|rfl
 intro k17 Jk17 hk17 h
 replace h:=AR h
 obtain⟨hfk20,h⟩:=h
 simp(disch:=omega) only[vm,seval,h.1]
 refine⟨CB (σ:=Int) (γ:=Unit) a0 hfk20 (fun xs i s=>Cy N a1 a2 k17 xs s) (fun i s g=>[.int .u64 s,.int .i64 i]) (fun i s g=>m) [6,7,11,40,41,42,43,44,45,46,47,48,49,50,51,52,53,54,55,56,57,58,59,60,61,62,63,64,65,66,67,68,69,70,71,72,73,74,75,76,77,78,79,80,81,82,83,84,85] [9,10] 0 () h (by first|(simp(disch:=omega) only[vm,seval,h.1];done)|rfl) (by first|(simp(disch:=omega) only[vm,seval,h.1];done)|rfl) ?_ ?_⟩<;>clear h
 rintro s10 s9 _ nL1_1 hnL1_1 _ h
 change _∧Cy N a1 a2 k17 [] s9=_ at h
 rw[Cy]at h
 refine AB (.q (.q (.r []) (.c .z .z)) (.q (.q (.r []) .z) (.r []))) ?_
 simp(disch:=omega) only[vm,seval,h.1]
 refine⟨hk17 s9 () _ _ _ _ h.2 slr ?_ ?_ ?_ (by omega)⟩<;>first|(simp(disch:=omega) only[vm,seval,h.1];done)|rfl
 rintro xk20 xsk20 s10 s9 _ nL1_1 hnL1_1 _ h Jk20 hk20
 change _∧Cy N a1 a2 k17 (xk20::xsk20) s9=_ at h
 rw[Cy]at h
 refine AB (.q (.q (.r []) (.c .z .z)) (.q (.q (.r []) .z) (.r []))) ?_
 simp(disch:=omega) only[vm,seval,h.1]
 refine⟨AV (γ:=Unit) h [51,52,53,54,55,56,57,58,59,60,61] [11] (fun j21 g=>[.int .u64 j21]) (fun j21 g=>m) (.q (.r []) (.c (.r []) .z)) ?_ ?_⟩<;>clear h
 rintro j21 _ n24 hnn24 _ _ h
 refine AB (.q .z (.r [])) ?_
 simp(disch:=omega) only[vm,seval,h.1]
 refine⟨AV (γ:=Unit) h [62,63,64,65,66,67,68,69,70,71,72,73,74,75,76,77,78,79] [80] (fun j25 g=>[.bool j25]) (fun j25 g=>m) (.r []) ?_ ?_⟩<;>clear h
 rintro j25 _ n28 hnn28 _ _ h
 refine AB (.c (.q (.r []) .z) .z) ?_
 replace h:=AC h
 rcases h with h|h
 obtain⟨H,h⟩:=h
 cases h
 simp(disch:=omega) only[vm,seval,H]
 refine⟨(hR _ _ _ _ _ _ (by simp(disch:=omega) only[vm,seval,H];rfl) slr ?_ (by omega) ?_).1⟩<;>first|(simp(disch:=omega) only[vm,seval,H];done)|rfl
 simp(disch:=omega) only[vm,seval,h.1]
 refine⟨hk20 (wr .u64 ((wr .u64 (s9 * a1))+j21)) () _ _ _ _ h.2 slr ?_ ?_ ?_ (by omega)⟩<;>first|(simp(disch:=omega) only[vm,seval,h.1];done)|rfl
 intro k26 Jk26 hk26 h
 replace h:=AR h
 obtain⟨c,h⟩:=h
 try simp only[liE,seval]at c
 replace h:=AO c h
 replace h:=AC h
 rcases h with h|h
 simp(disch:=omega) only[vm,seval,h.1]
 refine⟨hk26 true () _ _ _ _ h.2 slr ?_ ?_ ?_ (by omega)⟩<;>first|(simp(disch:=omega) only[vm,seval,h.1];done)|rfl
 replace h:=AC h
 rcases h with h|h
 simp(disch:=omega) only[vm,seval,h.1]
 refine⟨hk26 true () _ _ _ _ h.2 slr ?_ ?_ ?_ (by omega)⟩<;>first|(simp(disch:=omega) only[vm,seval,h.1];done)|rfl
 simp(disch:=omega) only[vm,seval,h.1]
 refine⟨hk26 (decide (j21>a2)) () _ _ _ _ h.2 slr ?_ ?_ ?_ (by omega)⟩<;>first|(simp(disch:=omega) only[vm,seval,h.1];done)|rfl
 intro k22 Jk22 hk22 h
 replace h:=AC h
 rcases h with h|h
 simp(disch:=omega) only[vm,seval,h.1]
 refine⟨hk22 (wr .u64 ((wr .u64 ((wr .u64 (QQ .u8 (AJ xk20) 32))-97))+10)) () _ _ _ _ h.2 slr ?_ ?_ ?_ (by omega)⟩<;>first|(simp(disch:=omega) only[vm,seval,h.1];done)|rfl
 simp(disch:=omega) only[vm,seval,h.1]
 refine⟨hk22 (wr .u64 (wr .u8 ((AJ xk20)-48))) () _ _ _ _ h.2 slr ?_ ?_ ?_ (by omega)⟩<;>first|(simp(disch:=omega) only[vm,seval,h.1];done)|rfl
 intro k2 Jk2 hk2 h
 replace h:=AR h
 obtain⟨hfk5,h⟩:=h
 simp(disch:=omega) only[vm,seval,h.1]
 refine⟨CB (σ:=Unit) (γ:=Unit) a0 hfk5 (fun xs i s=>C9 N a1 k2 xs) (fun i s g=>[.int .i64 i]) (fun i s g=>m) [6,7,14,15,16,17,18,19,20,21,22,23,24,25,26,27,28,29,30,31,32,33,34,35,36,37,38,39] [8] () () h (by first|(simp(disch:=omega) only[vm,seval,h.1];done)|rfl) (by first|(simp(disch:=omega) only[vm,seval,h.1];done)|rfl) ?_ ?_⟩<;>clear h
 rintro s8 _ _ nL0_1 hnL0_1 _ h
 change _∧C9 N a1 k2 []=_ at h
 rw[C9]at h
 refine AB (.q (.q (.r []) (.c .z .z)) (.q .z (.r []))) ?_
 simp(disch:=omega) only[vm,seval,h.1]
 refine⟨hk2 () () _ _ _ _ h.2 slr ?_ ?_ ?_ (by omega)⟩<;>first|(simp(disch:=omega) only[vm,seval,h.1];done)|rfl
 rintro xk5 xsk5 s8 _ _ nL0_1 hnL0_1 _ h Jk5 hk5
 change _∧C9 N a1 k2 (xk5::xsk5)=_ at h
 rw[C9]at h
 refine AB (.q (.q (.r []) (.c .z .z)) (.q .z (.r []))) ?_
 simp(disch:=omega) only[vm,seval,h.1]
 refine⟨AV (γ:=Unit) h [20,21,22,23,24,25,26,27,28,29,30,31,32,33,34,35,36,37,38] [39] (fun j6 g=>[.bool j6]) (fun j6 g=>m) (.r []) ?_ ?_⟩<;>clear h
 rintro j6 _ n9 hnn9 _ _ h
 refine AB (.c (.q (.r []) .z) .z) ?_
 replace h:=AC h
 rcases h with h|h
 obtain⟨H,h⟩:=h
 cases h
 simp(disch:=omega) only[vm,seval,H]
 refine⟨(hR _ _ _ _ _ _ (by simp(disch:=omega) only[vm,seval,H];rfl) slr ?_ (by omega) ?_).1⟩<;>first|(simp(disch:=omega) only[vm,seval,H];done)|rfl
 simp(disch:=omega) only[vm,seval,h.1]
 refine⟨hk5 () () _ _ _ _ h.2 slr ?_ ?_ ?_ (by omega)⟩<;>first|(simp(disch:=omega) only[vm,seval,h.1];done)|rfl
 intro k7 Jk7 hk7 h
 replace h:=AC h
 rcases h with h|h
 replace h:=AA h
 obtain⟨y10,h⟩:=h
 simp(disch:=omega) only[vm,seval,h.1]
 refine⟨DW h.1.1 (by first|(simp(disch:=omega) only[vm,seval,h.1];done)|rfl) fun n11 hn11=>?_⟩
 replace h:=AC h
 rcases h with h|h
 replace h:=AC h
 rcases h with h|h
 replace h:=AA h
 obtain⟨y12,h⟩:=h
 simp(disch:=omega) only[vm,seval,h.1]
 refine⟨JY h.1.1 (by first|(simp(disch:=omega) only[vm,seval,h.1];done)|rfl) fun n13 hn13=>?_⟩
 simp(disch:=omega) only[vm,seval,h.1]
 refine⟨hk7 (!y12) () _ _ _ _ h.2 slr ?_ ?_ ?_ (by omega)⟩<;>first|(simp(disch:=omega) only[vm,seval,h.1];done)|rfl
 simp(disch:=omega) only[vm,seval,h.1]
 refine⟨hk7 false () _ _ _ _ h.2 slr ?_ ?_ ?_ (by omega)⟩<;>first|(simp(disch:=omega) only[vm,seval,h.1];done)|rfl
 simp(disch:=omega) only[vm,seval,h.1]
 refine⟨hk7 true () _ _ _ _ h.2 slr ?_ ?_ ?_ (by omega)⟩<;>first|(simp(disch:=omega) only[vm,seval,h.1];done)|rfl
 replace h:=AC h
 rcases h with h|h
 replace h:=AA h
 obtain⟨y14,h⟩:=h
 simp(disch:=omega) only[vm,seval,h.1]
 refine⟨JY h.1.1 (by first|(simp(disch:=omega) only[vm,seval,h.1];done)|rfl) fun n15 hn15=>?_⟩
 simp(disch:=omega) only[vm,seval,h.1]
 refine⟨hk7 (!y14) () _ _ _ _ h.2 slr ?_ ?_ ?_ (by omega)⟩<;>first|(simp(disch:=omega) only[vm,seval,h.1];done)|rfl
 simp(disch:=omega) only[vm,seval,h.1]
 refine⟨hk7 false () _ _ _ _ h.2 slr ?_ ?_ ?_ (by omega)⟩<;>first|(simp(disch:=omega) only[vm,seval,h.1];done)|rfl
theorem V7 {a0 r} (h:Kw N a0=some r) (ha:args=[.str a0]) (hQ: ∀n',n≤n'→Gl (Q (.bool r) ⟨m,n'⟩)):ACall vE 185 args ⟨m,n⟩ Q:=by
 rw[Kw]at h
 subst ha
 refine ent hQ Tryz.func185 rfl Tryz.ntmps185 Tryz.results185 (.q (.r []) (.q (.r []) .z)) fun R hR=>?_
 replace h:=And.intro trivial h
 replace h:=AA h
 obtain⟨y1,h⟩:=h
 simp(disch:=omega) only[vm,seval,h.1]
 refine⟨GD h.1.1 (by first|(simp(disch:=omega) only[vm,seval,h.1];done)|rfl) fun n2 hn2=>?_⟩
 simp(disch:=omega) only[vm,seval,h.1]
 refine⟨AV (γ:=Unit) h [2,5,8,9,10,11,12,13,14,15,16,17] [] (fun j3 g=>[]) (fun j3 g=>m) (.q (.r []) .z) ?_ ?_⟩<;>clear h
 rintro j3 _ n6 hnn6 _ _ h
 refine AB (.q (.r []) .z) ?_
 replace h:=AA h
 obtain⟨x10,h⟩:=h
 replace h:=AA h
 obtain⟨y11,h⟩:=h
 simp(disch:=omega) only[vm,seval,h.1]
 refine⟨Rw h.1.1 (by first|(simp(disch:=omega) only[vm,seval,h.1];done)|rfl) fun n12 hn12=>?_⟩
 obtain⟨H,h⟩:=h
 cases h
 simp(disch:=omega) only[vm,seval,H]
 refine⟨(hR _ _ _ _ _ _ (by simp(disch:=omega) only[vm,seval,H];rfl) slr ?_ (by omega) ?_).1⟩<;>first|(simp(disch:=omega) only[vm,seval,H];done)|rfl
 intro k4 Jk4 hk4 h
 replace h:=AR h
 obtain⟨hfk7,h⟩:=h
 simp(disch:=omega) only[vm,seval,h.1]
 refine⟨CB (σ:=Unit) (γ:=Unit) y1 hfk7 (fun xs i s=>Dl N k4 xs) (fun i s g=>[.int .i64 i]) (fun i s g=>m) [2,5,11,12,13,14,15,16,17] [10] () () h (by first|(simp(disch:=omega) only[vm,seval,h.1];done)|rfl) (by first|(simp(disch:=omega) only[vm,seval,h.1];done)|rfl) ?_ ?_⟩<;>clear h
 rintro s10 _ _ nL0_1 hnL0_1 _ h
 change _∧Dl N k4 []=_ at h
 rw[Dl]at h
 refine AB (.q (.r []) (.q (.c .z .z) (.q (.q (.r []) (.q (.r []) (.c (.q (.r []) .z) .z))) (.r [])))) ?_
 simp(disch:=omega) only[vm,seval,h.1]
 refine⟨hk4 () () _ _ _ _ h.2 slr ?_ ?_ ?_ (by omega)⟩<;>first|(simp(disch:=omega) only[vm,seval,h.1];done)|rfl
 rintro xk7 xsk7 s10 _ _ nL0_1 hnL0_1 _ h Jk7 hk7
 change _∧Dl N k4 (xk7::xsk7)=_ at h
 rw[Dl]at h
 refine AB (.q (.r []) (.q (.c .z .z) (.q (.q (.r []) (.q (.r []) (.c (.q (.r []) .z) .z))) (.r [])))) ?_
 replace h:=AA h
 obtain⟨y8,h⟩:=h
 simp(disch:=omega) only[vm,seval,h.1]
 refine⟨Uj h.1.1 (by first|(simp(disch:=omega) only[vm,seval,h.1];done)|rfl) fun n9 hn9=>?_⟩
 replace h:=AC h
 rcases h with h|h
 simp(disch:=omega) only[vm,seval,h.1]
 refine⟨hk7 () () _ _ _ _ h.2 slr ?_ ?_ ?_ (by omega)⟩<;>first|(simp(disch:=omega) only[vm,seval,h.1];done)|rfl
 obtain⟨H,h⟩:=h
 cases h
 simp(disch:=omega) only[vm,seval,H]
 refine⟨(hR _ _ _ _ _ _ (by simp(disch:=omega) only[vm,seval,H];rfl) slr ?_ (by omega) ?_).1⟩<;>first|(simp(disch:=omega) only[vm,seval,H];done)|rfl
theorem UF {a0 r} (h:Jo N a0=some r) (ha:args=[.str a0]) (hQ: ∀n',n≤n'→Gl (Q (.bool r) ⟨m,n'⟩)):ACall vE 128 args ⟨m,n⟩ Q:=by
 rw[Jo]at h
 subst ha
 refine ent hQ Tryz.func128 rfl Tryz.ntmps128 Tryz.results128 (.q (.r []) (.q .z .z)) fun R hR=>?_
 replace h:=And.intro trivial h
 simp(disch:=omega) only[vm,seval,h.1]
 refine⟨AV (γ:=Unit) h [6,7,8,9,10,11] [12] (fun j1 g=>[.bool j1]) (fun j1 g=>m) (.r []) ?_ ?_⟩<;>clear h
 rintro j1 _ n4 hnn4 _ _ h
 refine AB (.c (.q (.r []) .z) .z) ?_
 replace h:=AC h
 rcases h with h|h
 obtain⟨H,h⟩:=h
 cases h
 simp(disch:=omega) only[vm,seval,H]
 refine⟨(hR _ _ _ _ _ _ (by simp(disch:=omega) only[vm,seval,H];rfl) slr ?_ (by omega) ?_).1⟩<;>first|(simp(disch:=omega) only[vm,seval,H];done)|rfl
 simp(disch:=omega) only[vm,seval,h.1]
 refine⟨AV (γ:=Unit) h [2,4,5,13,14,15,16,17,18,19,20,21,22,23,24,25,26,27,28,29,30,31,32,33] [] (fun j5 g=>[]) (fun j5 g=>m) (.q (.r []) .z) ?_ ?_⟩<;>clear h
 rintro j5 _ n8 hnn8 _ _ h
 refine AB (.q (.r []) .z) ?_
 obtain⟨H,h⟩:=h
 cases h
 simp(disch:=omega) only[vm,seval,H]
 refine⟨(hR _ _ _ _ _ _ (by simp(disch:=omega) only[vm,seval,H];rfl) slr ?_ (by omega) ?_).1⟩<;>first|(simp(disch:=omega) only[vm,seval,H];done)|rfl
 intro k6 Jk6 hk6 h
 replace h:=AA h
 obtain⟨y9,h⟩:=h
 simp(disch:=omega) only[vm,seval,h.1]
 refine⟨GD h.1.1 (by first|(simp(disch:=omega) only[vm,seval,h.1];done)|rfl) fun n10 hn10=>?_⟩
 replace h:=AR h
 obtain⟨hfk11,h⟩:=h
 simp(disch:=omega) only[vm,seval,h.1]
 refine⟨CB (σ:=Unit) (γ:=Unit) y9 hfk11 (fun xs i s=>DR N k6 xs) (fun i s g=>[.int .i64 i]) (fun i s g=>m) [2,4,5,17,18,19,20,21,22,23,24,25,26,27,28,29,30,31,32,33] [16] () () h (by first|(simp(disch:=omega) only[vm,seval,h.1];done)|rfl) (by first|(simp(disch:=omega) only[vm,seval,h.1];done)|rfl) ?_ ?_⟩<;>clear h
 rintro s16 _ _ nL0_1 hnL0_1 _ h
 change _∧DR N k6 []=_ at h
 rw[DR]at h
 refine AB (.q (.r []) (.q (.c .z .z) .z)) ?_
 simp(disch:=omega) only[vm,seval,h.1]
 refine⟨hk6 () () _ _ _ _ h.2 slr ?_ ?_ ?_ (by omega)⟩<;>first|(simp(disch:=omega) only[vm,seval,h.1];done)|rfl
 rintro xk11 xsk11 s16 _ _ nL0_1 hnL0_1 _ h Jk11 hk11
 change _∧DR N k6 (xk11::xsk11)=_ at h
 rw[DR]at h
 refine AB (.q (.r []) (.q (.c .z .z) .z)) ?_
 simp(disch:=omega) only[vm,seval,h.1]
 refine⟨AV (γ:=Unit) h [2,4,5,18,19,20,21,22,23,24,25,26,27,28,29,30,31,32] [] (fun j12 g=>[]) (fun j12 g=>m) (.q (.r []) (.q (.q (.r []) (.c (.q (.r []) .z) .z)) (.q (.r []) .z))) ?_ ?_⟩<;>clear h
 rintro j12 _ n15 hnn15 _ _ h
 refine AB (.r []) ?_
 simp(disch:=omega) only[vm,seval,h.1]
 refine⟨hk11 () () _ _ _ _ h.2 slr ?_ ?_ ?_ (by omega)⟩<;>first|(simp(disch:=omega) only[vm,seval,h.1];done)|rfl
 intro k13 Jk13 hk13 h
 replace h:=AC h
 rcases h with h|h
 obtain⟨H,h⟩:=h
 cases h
 simp(disch:=omega) only[vm,seval,H]
 refine⟨(hR _ _ _ _ _ _ (by simp(disch:=omega) only[vm,seval,H];rfl) slr ?_ (by omega) ?_).1⟩<;>first|(simp(disch:=omega) only[vm,seval,H];done)|rfl
 replace h:=AR h
 obtain⟨hfk16,h⟩:=h
 simp(disch:=omega) only[vm,seval,h.1]
 refine⟨CB (σ:=Unit) (γ:=Unit) xk11 hfk16 (fun xs i s=>DL N k13 xs) (fun i s g=>[.int .i64 i]) (fun i s g=>m) [2,22,23,24,25,26,27,28,29,30,31,32] [5] () () h (by first|(simp(disch:=omega) only[vm,seval,h.1];done)|rfl) (by first|(simp(disch:=omega) only[vm,seval,h.1];done)|rfl) ?_ ?_⟩<;>clear h
 rintro s5 _ _ nL1_2 hnL1_2 _ h
 change _∧DL N k13 []=_ at h
 rw[DL]at h
 refine AB (.q (.q (.r []) (.c .z .z)) (.q (.q (.r []) (.c (.q (.r []) .z) .z)) (.r []))) ?_
 simp(disch:=omega) only[vm,seval,h.1]
 refine⟨hk13 () () _ _ _ _ h.2 slr ?_ ?_ ?_ (by omega)⟩<;>first|(simp(disch:=omega) only[vm,seval,h.1];done)|rfl
 rintro xk16 xsk16 s5 _ _ nL1_2 hnL1_2 _ h Jk16 hk16
 change _∧DL N k13 (xk16::xsk16)=_ at h
 rw[DL]at h
 refine AB (.q (.q (.r []) (.c .z .z)) (.q (.q (.r []) (.c (.q (.r []) .z) .z)) (.r []))) ?_
 replace h:=AA h
 obtain⟨y17,h⟩:=h
 simp(disch:=omega) only[vm,seval,h.1]
 refine⟨Z5 h.1.1 (by first|(simp(disch:=omega) only[vm,seval,h.1];done)|rfl) fun n18 hn18=>?_⟩
 replace h:=AC h
 rcases h with h|h
 simp(disch:=omega) only[vm,seval,h.1]
 refine⟨hk16 () () _ _ _ _ h.2 slr ?_ ?_ ?_ (by omega)⟩<;>first|(simp(disch:=omega) only[vm,seval,h.1];done)|rfl
 obtain⟨H,h⟩:=h
 cases h
 simp(disch:=omega) only[vm,seval,H]
 refine⟨(hR _ _ _ _ _ _ (by simp(disch:=omega) only[vm,seval,H];rfl) slr ?_ (by omega) ?_).1⟩<;>first|(simp(disch:=omega) only[vm,seval,H];done)|rfl
 intro k2 Jk2 hk2 h
 replace h:=AC h
 rcases h with h|h
 simp(disch:=omega) only[vm,seval,h.1]
 refine⟨hk2 true () _ _ _ _ h.2 slr ?_ ?_ ?_ (by omega)⟩<;>first|(simp(disch:=omega) only[vm,seval,h.1];done)|rfl
 simp(disch:=omega) only[vm,seval,h.1]
 refine⟨hk2 (decide ((a0.length:Int)>64)) () _ _ _ _ h.2 slr ?_ ?_ ?_ (by omega)⟩<;>first|(simp(disch:=omega) only[vm,seval,h.1];done)|rfl
end Go.Proofs.YtjgdhjpafjpjgaaGreatDoor
