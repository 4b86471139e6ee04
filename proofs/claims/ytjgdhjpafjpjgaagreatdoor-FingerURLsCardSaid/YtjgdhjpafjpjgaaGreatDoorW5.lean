import Derived.Test.YtjgdhjpafjpjgaaGreatDoorVmFacts
import Derived.Test.YtjgdhjpafjpjgaaGreatDoorDefs
import Derived.Test.YtjgdhjpafjpjgaaGreatDoorVM2
import Derived.Test.YtjgdhjpafjpjgaaGreatDoorW0
import Derived.Test.YtjgdhjpafjpjgaaGreatDoorW1
import Derived.Test.YtjgdhjpafjpjgaaGreatDoorW2
import Derived.Test.YtjgdhjpafjpjgaaGreatDoorW3
set_option linter.unusedVariables false
set_option linter.unusedSimpArgs false
set_option maxHeartbeats 4000000
set_option maxRecDepth 100000
set_option linter.defProp false
namespace Go.Proofs.YtjgdhjpafjpjgaaGreatDoor
open Go.VM
variable{N n:Nat}{m:MS}{Q:PQ}{args:List AVal}
theorem Ke {a0 a1 r} (h:Fu N a0 a1=some r) (ha:args=[.str a0,.str a1]) (hQ: ∀n',n≤n'→Gl (Q (.str r) ⟨m,n'⟩)):ACall vE 36 args ⟨m,n⟩ Q:=by
 rw[Fu]at h
 subst ha
 refine ent hQ Tryz.func36 rfl Tryz.ntmps36 Tryz.results36 (.q (.r []) (.q (.r []) .z)) fun R hR=>?_
 replace h:=And.intro trivial h
 simp(disch:=omega) only[vm,seval,h.1]
 refine⟨AV (γ:=Unit) h [6,7,8,9,10,11,12,13,14,15,16,17,18,19,20,21,22,23,24,25,26,27,28,29,30,31,32,33,34,35,36,37,38,39,40,41,42] [5] (fun j1 g=>[.str j1]) (fun j1 g=>m) (.q (.r []) .z) ?_ ?_⟩<;>clear h
 rintro j1 _ n4 hnn4 _ _ h
 refine AB (.q (.r []) .z) ?_
 obtain⟨H,h⟩:=h
 cases h
 simp(disch:=omega) only[vm,seval,H]
 refine⟨(hR _ _ _ _ _ _ (by simp(disch:=omega) only[vm,seval,H];rfl) slr ?_ (by omega) ?_).1⟩<;>first|(simp(disch:=omega) only[vm,seval,H];done)|rfl
 intro k2 Jk2 hk2 h
 replace h:=AR h
 obtain⟨hfk5,h⟩:=h
 simp(disch:=omega) only[vm,seval,h.1]
 refine⟨CB (σ:=(List UInt8)) (γ:=Unit) a0 hfk5 (fun xs i s=>BX N a0 a1 k2 xs i s) (fun i s g=>[.str s,.int .i64 i]) (fun i s g=>m) [7,8,9,10,11,12,13,14,15,16,17,18,19,20,21,22,23,24,25,26,27,28,29,30,31,32,33,34,35,36,37,38,39,40,41,42] [5,6] [] () h (by first|(simp(disch:=omega) only[vm,seval,h.1];done)|rfl) (by first|(simp(disch:=omega) only[vm,seval,h.1];done)|rfl) ?_ ?_⟩<;>clear h
 rintro s6 s5 _ nL0_1 hnL0_1 _ h
 change _∧BX N a0 a1 k2 [] s6 s5=_ at h
 rw[BX]at h
 refine AB (.q (.q (.r []) (.c .z .z)) .z) ?_
 simp(disch:=omega) only[vm,seval,h.1]
 refine⟨hk2 s5 () _ _ _ _ h.2 slr ?_ ?_ ?_ (by omega)⟩<;>first|(simp(disch:=omega) only[vm,seval,h.1];done)|rfl
 rintro xk5 xsk5 s6 s5 _ nL0_1 hnL0_1 _ h Jk5 hk5
 change _∧BX N a0 a1 k2 (xk5::xsk5) s6 s5=_ at h
 rw[BX]at h
 refine AB (.q (.q (.r []) (.c .z .z)) .z) ?_
 simp(disch:=omega) only[vm,seval,h.1]
 refine⟨AV (γ:=Unit) h [13,14,15,16,17,18,19,20,21,22,23,24,25,26,27,28,29,30,31,32,33,34,35,36,37,38,39,40,41,42] [5] (fun j6 g=>[.str j6]) (fun j6 g=>m) .z ?_ ?_⟩<;>clear h
 rintro j6 _ n9 hnn9 _ _ h
 refine AB (.r []) ?_
 simp(disch:=omega) only[vm,seval,h.1]
 refine⟨hk5 j6 () _ _ _ _ h.2 slr ?_ ?_ ?_ (by omega)⟩<;>first|(simp(disch:=omega) only[vm,seval,h.1];done)|rfl
 intro k7 Jk7 hk7 h
 simp(disch:=omega) only[vm,seval,h.1]
 refine⟨AV (γ:=Unit) h [13,14,15,16,17,18,19,20,21,22,23,24,25,26,27,28] [29] (fun j10 g=>[.bool j10]) (fun j10 g=>m) (.r []) ?_ ?_⟩<;>clear h
 rintro j10 _ n13 hnn13 _ _ h
 refine AB (.c (.r []) (.r [])) ?_
 replace h:=AC h
 rcases h with h|h
 replace h:=AA h
 obtain⟨x18,h⟩:=h
 replace h:=AR h
 obtain⟨c,h⟩:=h
 try simp only[liE,seval]at c
 replace h:=AO c h
 simp(disch:=omega) only[vm,seval,h.1]
 refine⟨hk7 (s5++x18) () _ _ _ _ h.2 slr ?_ ?_ ?_ (by omega)⟩<;>first|(simp(disch:=omega) only[vm,seval,h.1];done)|rfl
 replace h:=AA h
 obtain⟨y19,h⟩:=h
 simp(disch:=omega) only[vm,seval,h.1]
 refine⟨KX h.1.1 (by first|(simp(disch:=omega) only[vm,seval,h.1];done)|rfl) fun n20 hn20=>?_⟩
 replace h:=AR h
 obtain⟨c,h⟩:=h
 try simp only[liE,seval]at c
 replace h:=AO c h
 simp(disch:=omega) only[vm,seval,h.1]
 refine⟨hk7 (s5++y19) () _ _ _ _ h.2 slr ?_ ?_ ?_ (by omega)⟩<;>first|(simp(disch:=omega) only[vm,seval,h.1];done)|rfl
 intro k11 Jk11 hk11 h
 replace h:=AA h
 obtain⟨y14,h⟩:=h
 simp(disch:=omega) only[vm,seval,h.1]
 refine⟨EL h.1.1 (by first|(simp(disch:=omega) only[vm,seval,h.1];done)|rfl) fun n15 hn15=>?_⟩
 replace h:=AC h
 rcases h with h|h
 simp(disch:=omega) only[vm,seval,h.1]
 refine⟨hk11 true () _ _ _ _ h.2 slr ?_ ?_ ?_ (by omega)⟩<;>first|(simp(disch:=omega) only[vm,seval,h.1];done)|rfl
 replace h:=AC h
 rcases h with h|h
 replace h:=AA h
 obtain⟨y16,h⟩:=h
 simp(disch:=omega) only[vm,seval,h.1]
 refine⟨Gi h.1.1 (by first|(simp(disch:=omega) only[vm,seval,h.1];done)|rfl) fun n17 hn17=>?_⟩
 simp(disch:=omega) only[vm,seval,h.1]
 refine⟨hk11 y16 () _ _ _ _ h.2 slr ?_ ?_ ?_ (by omega)⟩<;>first|(simp(disch:=omega) only[vm,seval,h.1];done)|rfl
 simp(disch:=omega) only[vm,seval,h.1]
 refine⟨hk11 false () _ _ _ _ h.2 slr ?_ ?_ ?_ (by omega)⟩<;>first|(simp(disch:=omega) only[vm,seval,h.1];done)|rfl
theorem Tz {a0 r} (h:Jp N a0=some r) (ha:args=[.str a0]) (hQ: ∀n',n≤n'→Gl (Q (.tuple [QP r.1,.int .i64 r.2]) ⟨m,n'⟩)):ACall vE 177 args ⟨m,n⟩ Q:=by
 rw[Jp]at h
 subst ha
 refine ent hQ Tryz.func177 rfl Tryz.ntmps177 Tryz.results177 (.q (.r []) (.q (.q (.r []) (.c (.q (.r []) .z) .z)) (.q (.r []) .z))) fun R hR=>?_
 replace h:=And.intro trivial h
 replace h:=AC h
 rcases h with h|h
 obtain⟨H,h⟩:=h
 cases h
 simp(disch:=omega) only[vm,seval,H]
 refine⟨(hR _ _ _ _ _ _ (by simp(disch:=omega) only[vm,seval,H];rfl) (.cons _ slr) ?_ (by omega) ?_).1⟩<;>first|(simp(disch:=omega) only[vm,seval,H];done)|rfl
 simp(disch:=omega) only[vm,seval,h.1]
 refine⟨AV (γ:=Unit) h [5,13,14,15,16,17,18,19,20,21,22,23,24,25,26,27] [0] (fun j1 g=>[.str j1.1]) (fun j1 g=>((n+1),[.str [],.str [],.str [],.str [],.str j1.2.1,.bool false,.bool false,.bool false,.bool j1.2.2])::(n,[.str [],.str [],.str [],.str [],.str [],.bool false,.bool false,.bool false,.bool false])::m) (.q (.r []) (.q (.r []) (.c .z .z))) ?_ ?_⟩<;>clear h
 rintro j1 _ n4 hnn4 _ _ h
 refine AB .z ?_
 simp(disch:=omega) only[vm,seval,h.1]
 refine⟨AV (γ:=Unit) h [6,28,29,30,31,32,33,34,35,36,37,38,39,40,41,42] [0] (fun j9 g=>[.str j9.1]) (fun j9 g=>((n+1),[.str [],.str [],.str [],.str j9.2.1,.str j1.2.1,.bool false,.bool false,.bool j9.2.2,.bool j1.2.2])::(n,[.str [],.str [],.str [],.str [],.str [],.bool false,.bool false,.bool false,.bool false])::m) (.q (.r []) (.q (.r []) (.c .z .z))) ?_ ?_⟩<;>clear h
 rintro j9 _ n12 hnn12 _ _ h
 refine AB .z ?_
 simp(disch:=omega) only[vm,seval,h.1]
 refine⟨AV (γ:=Unit) h [3,7,43,44,45,46,47,48,49,50,51,52,53,54,55,56,57,58,59,60,61,62,63,64,65,66,67,68,69] [0] (fun j17 g=>[.str j17.1]) (fun j17 g=>((n+1),[.str j17.2.1,.str [],.str [],.str j9.2.1,.str j1.2.1,.bool j17.2.2,.bool false,.bool j9.2.2,.bool j1.2.2])::(n,[.str [],.str [],.str [],.str [],.str [],.bool false,.bool false,.bool false,.bool false])::m) (.q (.r []) .z) ?_ ?_⟩<;>clear h
 rintro j17 _ n20 hnn20 _ _ h
 refine AB .z ?_
 simp(disch:=omega) only[vm,seval,h.1]
 refine⟨AV (γ:=Unit) h [8,70,71,72,73,74,75,76,77,78,79,80,81,82,83] [0] (fun j32 g=>[.str j32.1]) (fun j32 g=>((n+1),[.str j17.2.1,.str j32.2.1,.str [],.str j9.2.1,.str j1.2.1,.bool j17.2.2,.bool j32.2.2,.bool j9.2.2,.bool j1.2.2])::(n,[.str [],.str [],.str [],.str [],.str [],.bool false,.bool false,.bool false,.bool false])::m) (.q (.r []) (.c (.q (.r []) .z) .z)) ?_ ?_⟩<;>clear h
 rintro j32 _ n35 hnn35 _ _ h
 refine AB (.q (.r []) (.q (.r []) .z)) ?_
 obtain⟨H,h⟩:=h
 cases h
 simp(disch:=omega) only[vm,seval,H]
 refine⟨(hR _ _ _ _ _ _ (by simp(disch:=omega) only[vm,seval,H];rfl) (.cons _ (.cons _ slr)) ?_ (by omega) ?_).1⟩<;>first|(simp(disch:=omega) only[vm,seval,H];done)|rfl
 intro k33 Jk33 hk33 h
 replace h:=AA h
 obtain⟨y36,h⟩:=h
 simp(disch:=omega) only[vm,seval,h.1]
 refine⟨FL h.1.1 (by first|(simp(disch:=omega) only[vm,seval,h.1];done)|rfl) fun n37 hn37=>?_⟩
 replace h:=AC h
 rcases h with h|h
 replace h:=AA h
 obtain⟨x38,h⟩:=h
 replace h:=AA h
 obtain⟨y39,h⟩:=h
 simp(disch:=omega) only[vm,seval,h.1]
 refine⟨Ck h.1.1 (by first|(simp(disch:=omega) only[vm,seval,h.1];done)|rfl) fun n40 hn40=>?_⟩
 replace h:=AA h
 obtain⟨x41,h⟩:=h
 replace h:=AA h
 obtain⟨x42,h⟩:=h
 simp(disch:=omega) only[vm,seval,h.1]
 refine⟨BM [] (.take 0 (.take 1 (.take 2 (.take 3 (.take 4 (.take 5 (.take 6 (.alt 7 [5,4,3] (.take 8 (.alt 9 [5,4,3] (.alt 10 [] (.done) (.stop)) (.stop))) (.stop))))))))) A8 (by kernel_rfl) ?_⟩
 simp(disch:=omega) only[vm,seval,h.1]
 refine⟨hk33 (x42,x41,true) () _ _ _ _ h.2 slr ?_ ?_ ?_ (by omega)⟩<;>first|(simp(disch:=omega) only[vm,seval,h.1];done)|rfl
 simp(disch:=omega) only[vm,seval,h.1]
 refine⟨hk33 (j17.1,[],false) () _ _ _ _ h.2 slr ?_ ?_ ?_ (by omega)⟩<;>first|(simp(disch:=omega) only[vm,seval,h.1];done)|rfl
 intro k18 Jk18 hk18 h
 replace h:=AA h
 obtain⟨y21,h⟩:=h
 simp(disch:=omega) only[vm,seval,h.1]
 refine⟨Ck h.1.1 (by first|(simp(disch:=omega) only[vm,seval,h.1];done)|rfl) fun n22 hn22=>?_⟩
 simp(disch:=omega) only[vm,seval,h.1]
 refine⟨AV (γ:=Unit) h [45,46,47,48,49,50,51,52,53] [54] (fun j23 g=>[.bool j23]) (fun j23 g=>((n+1),[.str [],.str [],.str [],.str j9.2.1,.str j1.2.1,.bool false,.bool false,.bool j9.2.2,.bool j1.2.2])::(n,[.str [],.str [],.str [],.str [],.str [],.bool false,.bool false,.bool false,.bool false])::m) (.r []) ?_ ?_⟩<;>clear h
 rintro j23 _ n26 hnn26 _ _ h
 refine AB (.c (.q (.q (.r []) (.c (.q (.r []) .z) .z)) .z) .z) ?_
 replace h:=AC h
 rcases h with h|h
 replace h:=AA h
 obtain⟨x28,h⟩:=h
 replace h:=AA h
 obtain⟨y29,h⟩:=h
 simp(disch:=omega) only[vm,seval,h.1]
 refine⟨Td h.1.1 (by first|(simp(disch:=omega) only[vm,seval,h.1];done)|rfl) fun n30 hn30=>?_⟩
 replace h:=AC h
 rcases h with h|h
 replace h:=AA h
 obtain⟨x31,h⟩:=h
 simp(disch:=omega) only[vm,seval,h.1]
 refine⟨BM [] (.take 0 (.take 1 (.take 2 (.take 3 (.take 4 (.take 5 (.take 6 (.take 7 (.alt 8 [6,5,4,3] (.take 9 (.alt 10 [6,5,4,3] (.alt 11 [] (.done) (.stop)) (.stop))) (.stop)))))))))) A8 (by kernel_rfl) ?_⟩
 simp(disch:=omega) only[vm,seval,h.1]
 refine⟨hk18 (x31,x28,true) () _ _ _ _ h.2 slr ?_ ?_ ?_ (by omega)⟩<;>first|(simp(disch:=omega) only[vm,seval,h.1];done)|rfl
 obtain⟨H,h⟩:=h
 cases h
 simp(disch:=omega) only[vm,seval,H]
 refine⟨(hR _ _ _ _ _ _ (by simp(disch:=omega) only[vm,seval,H];rfl) (.cons _ (.cons _ slr)) ?_ (by omega) ?_).1⟩<;>first|(simp(disch:=omega) only[vm,seval,H];done)|rfl
 simp(disch:=omega) only[vm,seval,h.1]
 refine⟨hk18 (j9.1,[],false) () _ _ _ _ h.2 slr ?_ ?_ ?_ (by omega)⟩<;>first|(simp(disch:=omega) only[vm,seval,h.1];done)|rfl
 intro k24 Jk24 hk24 h
 replace h:=AC h
 rcases h with h|h
 replace h:=AA h
 obtain⟨x27,h⟩:=h
 simp(disch:=omega) only[vm,seval,h.1]
 refine⟨hk24 ((AJ x27)==58) () _ _ _ _ h.2 slr ?_ ?_ ?_ (by omega)⟩<;>first|(simp(disch:=omega) only[vm,seval,h.1];done)|rfl
 simp(disch:=omega) only[vm,seval,h.1]
 refine⟨hk24 false () _ _ _ _ h.2 slr ?_ ?_ ?_ (by omega)⟩<;>first|(simp(disch:=omega) only[vm,seval,h.1];done)|rfl
 intro k10 Jk10 hk10 h
 replace h:=AA h
 obtain⟨y13,h⟩:=h
 simp(disch:=omega) only[vm,seval,h.1]
 refine⟨Ck h.1.1 (by first|(simp(disch:=omega) only[vm,seval,h.1];done)|rfl) fun n14 hn14=>?_⟩
 replace h:=AC h
 rcases h with h|h
 replace h:=AA h
 obtain⟨x15,h⟩:=h
 replace h:=AA h
 obtain⟨x16,h⟩:=h
 simp(disch:=omega) only[vm,seval,h.1]
 refine⟨BM [] (.take 0 (.take 1 (.take 2 (.take 3 (.take 4 (.take 5 (.take 6 (.take 7 (.alt 8 [6,5,4] (.take 9 (.alt 10 [6,5,4] (.alt 11 [] (.done) (.stop)) (.stop))) (.stop)))))))))) A8 (by kernel_rfl) ?_⟩
 simp(disch:=omega) only[vm,seval,h.1]
 refine⟨hk10 (x16,x15,true) () _ _ _ _ h.2 slr ?_ ?_ ?_ (by omega)⟩<;>first|(simp(disch:=omega) only[vm,seval,h.1];done)|rfl
 simp(disch:=omega) only[vm,seval,h.1]
 refine⟨hk10 (j1.1,[],false) () _ _ _ _ h.2 slr ?_ ?_ ?_ (by omega)⟩<;>first|(simp(disch:=omega) only[vm,seval,h.1];done)|rfl
 intro k2 Jk2 hk2 h
 replace h:=AA h
 obtain⟨y5,h⟩:=h
 simp(disch:=omega) only[vm,seval,h.1]
 refine⟨Ck h.1.1 (by first|(simp(disch:=omega) only[vm,seval,h.1];done)|rfl) fun n6 hn6=>?_⟩
 replace h:=AC h
 rcases h with h|h
 replace h:=AA h
 obtain⟨x7,h⟩:=h
 replace h:=AA h
 obtain⟨x8,h⟩:=h
 simp(disch:=omega) only[vm,seval,h.1]
 refine⟨BM [] (.take 0 (.take 1 (.take 2 (.take 3 (.take 4 (.take 5 (.take 6 (.take 7 (.alt 8 [6,5,4] (.take 9 (.alt 10 [6,5,4] (.alt 11 [] (.done) (.stop)) (.stop))) (.stop)))))))))) A8 (by kernel_rfl) ?_⟩
 simp(disch:=omega) only[vm,seval,h.1]
 refine⟨hk2 (x8,x7,true) () _ _ _ _ h.2 slr ?_ ?_ ?_ (by omega)⟩<;>first|(simp(disch:=omega) only[vm,seval,h.1];done)|rfl
 simp(disch:=omega) only[vm,seval,h.1]
 refine⟨hk2 (a0,[],false) () _ _ _ _ h.2 slr ?_ ?_ ?_ (by omega)⟩<;>first|(simp(disch:=omega) only[vm,seval,h.1];done)|rfl
theorem Ou {a0 r} (h:Eg N a0=some r) (ha:args=[.str a0]) (hQ: ∀n',n≤n'→Gl (Q (.str r) ⟨m,n'⟩)):ACall vE 179 args ⟨m,n⟩ Q:=by
 rw[Eg]at h
 subst ha
 refine ent hQ Tryz.func179 rfl Tryz.ntmps179 Tryz.results179 (.q (.r []) (.q (.r []) .z)) fun R hR=>?_
 replace h:=And.intro trivial h
 simp(disch:=omega) only[vm,seval,h.1]
 refine⟨AV (γ:=Unit) h [3,5,7,8,9,10,11,12,13,14,15,16,17,18,19,20,21,22,23,24,25,26,27,28,29,30,31,32,33,34,35,36,37,38,39,40,41,42,43,44,45,46,47,48,49,50,51,52,53,54,55,56,57] [4] (fun j1 g=>[.str j1]) (fun j1 g=>m) .z ?_ ?_⟩<;>clear h
 rintro j1 _ n4 hnn4 _ _ h
 refine AB (.q (.r []) .z) ?_
 obtain⟨H,h⟩:=h
 cases h
 simp(disch:=omega) only[vm,seval,H]
 refine⟨(hR _ _ _ _ _ _ (by simp(disch:=omega) only[vm,seval,H];rfl) slr ?_ (by omega) ?_).1⟩<;>first|(simp(disch:=omega) only[vm,seval,H];done)|rfl
 intro k2 Jk2 hk2 h
 simp(disch:=omega) only[vm,seval,h.1]
 refine⟨Ka (σ:=(List UInt8)×(List UInt8)) (γ:=Unit) (fun k s=>Al N k2 k s.1 s.2) (fun s g=>[.str s.1,.str s.2]) (fun s g=>m) [5,7,8,9,10,11,12,13,14,15,16,17,18,19,20,21,22,23,24,25,26,27,28,29,30,31,32,33,34,35,36,37,38,39,40,41,42,43,44,45,46,47,48,49,50,51,52,53,54,55,56,57] [3,4] (a0,[]) () h (fun _=>rfl) (by first|(simp(disch:=omega) only[vm,seval,h.1];done)|rfl) (by first|(simp(disch:=omega) only[vm,seval,h.1];done)|rfl) ?_⟩
 clear h
 rintro k5 ⟨s3,s4⟩ _ nL0_1 hnL0_1 _ h Jk5 hk5
 change _∧Al N k2 (k5+1) s3 s4=_ at h
 rw[Al]at h
 refine AB (.q (.q (.r []) (.c .z .z)) (.q (.r []) (.c (.r []) (.q (.r []) (.c (.r []) (.q (.r []) (.c (.r []) (.q (.r []) (.c (.r []) (.q (.r []) (.c .z (.q (.r []) (.c (.r []) .z))))))))))))) ?_
 replace h:=AC h
 rcases h with h|h
 simp(disch:=omega) only[vm,seval,h.1]
 refine⟨hk2 s4 () _ _ _ _ h.2 slr ?_ ?_ ?_ (by omega)⟩<;>first|(simp(disch:=omega) only[vm,seval,h.1];done)|rfl
 replace h:=AA h
 obtain⟨y6,h⟩:=h
 simp(disch:=omega) only[vm,seval,h.1]
 refine⟨FL h.1.1 (by first|(simp(disch:=omega) only[vm,seval,h.1];done)|rfl) fun n7 hn7=>?_⟩
 replace h:=AC h
 rcases h with h|h
 replace h:=AA h
 obtain⟨x8,h⟩:=h
 simp(disch:=omega) only[vm,seval,h.1]
 refine⟨hk5 (x8,s4) () _ _ _ _ h.2 slr ?_ ?_ ?_ (by omega)⟩<;>first|(simp(disch:=omega) only[vm,seval,h.1];done)|rfl
 replace h:=AA h
 obtain⟨y9,h⟩:=h
 simp(disch:=omega) only[vm,seval,h.1]
 refine⟨FL h.1.1 (by first|(simp(disch:=omega) only[vm,seval,h.1];done)|rfl) fun n10 hn10=>?_⟩
 replace h:=AC h
 rcases h with h|h
 replace h:=AA h
 obtain⟨x11,h⟩:=h
 simp(disch:=omega) only[vm,seval,h.1]
 refine⟨hk5 (x11,s4) () _ _ _ _ h.2 slr ?_ ?_ ?_ (by omega)⟩<;>first|(simp(disch:=omega) only[vm,seval,h.1];done)|rfl
 replace h:=AA h
 obtain⟨y12,h⟩:=h
 simp(disch:=omega) only[vm,seval,h.1]
 refine⟨FL h.1.1 (by first|(simp(disch:=omega) only[vm,seval,h.1];done)|rfl) fun n13 hn13=>?_⟩
 replace h:=AC h
 rcases h with h|h
 replace h:=AA h
 obtain⟨x14,h⟩:=h
 simp(disch:=omega) only[vm,seval,h.1]
 refine⟨hk5 (x14,s4) () _ _ _ _ h.2 slr ?_ ?_ ?_ (by omega)⟩<;>first|(simp(disch:=omega) only[vm,seval,h.1];done)|rfl
 replace h:=AC h
 rcases h with h|h
 simp(disch:=omega) only[vm,seval,h.1]
 refine⟨hk5 (([47]:List UInt8),s4) () _ _ _ _ h.2 slr ?_ ?_ ?_ (by omega)⟩<;>first|(simp(disch:=omega) only[vm,seval,h.1];done)|rfl
 replace h:=AA h
 obtain⟨y15,h⟩:=h
 simp(disch:=omega) only[vm,seval,h.1]
 refine⟨FL h.1.1 (by first|(simp(disch:=omega) only[vm,seval,h.1];done)|rfl) fun n16 hn16=>?_⟩
 replace h:=AC h
 rcases h with h|h
 replace h:=AA h
 obtain⟨x17,h⟩:=h
 replace h:=AA h
 obtain⟨y18,h⟩:=h
 have cy18:=h.1.1
 simp(disch:=omega) only[vm,seval,h.1]
 refine⟨BM [] (.take 0 (.take 1 (.take 2 (.alt 3 [1,0] (.alt 4 [2] (.alt 5 [] (.done) (.stop)) (.stop)) (.stop))))) A8 (by kernel_rfl) ?_⟩
 simp(disch:=omega) only[vm,seval,h.1]
 refine⟨Md cy18 (by first|(simp(disch:=omega) only[vm,seval,h.1];done)|rfl) fun n19 hn19=>?_⟩
 simp(disch:=omega) only[vm,seval,h.1]
 refine⟨hk5 (x17,y18) () _ _ _ _ h.2 slr ?_ ?_ ?_ (by omega)⟩<;>first|(simp(disch:=omega) only[vm,seval,h.1];done)|rfl
 replace h:=AC h
 rcases h with h|h
 replace h:=AA h
 obtain⟨y20,h⟩:=h
 simp(disch:=omega) only[vm,seval,h.1]
 refine⟨Md h.1.1 (by first|(simp(disch:=omega) only[vm,seval,h.1];done)|rfl) fun n21 hn21=>?_⟩
 simp(disch:=omega) only[vm,seval,h.1]
 refine⟨hk5 (([47]:List UInt8),y20) () _ _ _ _ h.2 slr ?_ ?_ ?_ (by omega)⟩<;>first|(simp(disch:=omega) only[vm,seval,h.1];done)|rfl
 simp(disch:=omega) only[vm,seval,h.1]
 refine⟨AV (γ:=Unit) h [52,53,54,55,56,57] [51] (fun j22 g=>[.bool j22]) (fun j22 g=>m) (.r []) ?_ ?_⟩<;>clear h
 rintro j22 _ n25 hnn25 _ _ h
 refine AB (.c (.r []) (.q (.r []) .z)) ?_
 replace h:=AC h
 rcases h with h|h
 simp(disch:=omega) only[vm,seval,h.1]
 refine⟨hk5 ([],s4) () _ _ _ _ h.2 slr ?_ ?_ ?_ (by omega)⟩<;>first|(simp(disch:=omega) only[vm,seval,h.1];done)|rfl
 replace h:=AA h
 obtain⟨x26,h⟩:=h
 replace h:=AA h
 obtain⟨y27,h⟩:=h
 simp(disch:=omega) only[vm,seval,h.1]
 refine⟨Ck h.1.1 (by first|(simp(disch:=omega) only[vm,seval,h.1];done)|rfl) fun n28 hn28=>?_⟩
 replace h:=AA h
 obtain⟨x29,h⟩:=h
 replace h:=AA h
 obtain⟨x30,h⟩:=h
 replace h:=AR h
 obtain⟨c,h⟩:=h
 try simp only[liE,seval]at c
 replace h:=AO c h
 simp(disch:=omega) only[vm,seval,h.1]
 refine⟨BM [] (.take 0 (.take 1 (.take 2 (.take 3 (.take 4 (.take 5 (.take 6 (.take 7 (.alt 8 [7,6,5,3] (.alt 9 [] (.done) (.stop)) (.stop)))))))))) A8 (by kernel_rfl) ?_⟩
 simp(disch:=omega) only[vm,seval,h.1]
 refine⟨hk5 (x29,(s4++x30)) () _ _ _ _ h.2 slr ?_ ?_ ?_ (by omega)⟩<;>first|(simp(disch:=omega) only[vm,seval,h.1];done)|rfl
 intro k23 Jk23 hk23 h
 replace h:=AC h
 rcases h with h|h
 simp(disch:=omega) only[vm,seval,h.1]
 refine⟨hk23 true () _ _ _ _ h.2 slr ?_ ?_ ?_ (by omega)⟩<;>first|(simp(disch:=omega) only[vm,seval,h.1];done)|rfl
 simp(disch:=omega) only[vm,seval,h.1]
 refine⟨hk23 (s3==([46,46]:List UInt8)) () _ _ _ _ h.2 slr ?_ ?_ ?_ (by omega)⟩<;>first|(simp(disch:=omega) only[vm,seval,h.1];done)|rfl
theorem Mo {a0 r} (h:GH N a0=some r) (ha:args=[.str a0]) (hQ: ∀n',n≤n'→Gl (Q (.str r) ⟨m,n'⟩)):ACall vE 174 args ⟨m,n⟩ Q:=by
 rw[GH]at h
 subst ha
 refine ent hQ Tryz.func174 rfl Tryz.ntmps174 Tryz.results174 (.q (.r []) (.q (.r []) .z)) fun R hR=>?_
 replace h:=And.intro trivial h
 simp(disch:=omega) only[vm,seval,h.1]
 refine⟨AV (γ:=Unit) h [4,5,6,7,8,9,10,11,12,13,14,15,16,17,18,19,20,21,22,23,24,25,26,27] [3] (fun j1 g=>[.str j1]) (fun j1 g=>m) (.q (.r []) .z) ?_ ?_⟩<;>clear h
 rintro j1 _ n4 hnn4 _ _ h
 refine AB (.q (.r []) .z) ?_
 obtain⟨H,h⟩:=h
 cases h
 simp(disch:=omega) only[vm,seval,H]
 refine⟨(hR _ _ _ _ _ _ (by simp(disch:=omega) only[vm,seval,H];rfl) slr ?_ (by omega) ?_).1⟩<;>first|(simp(disch:=omega) only[vm,seval,H];done)|rfl
 intro k2 Jk2 hk2 h
 replace h:=AR h
 obtain⟨hfk5,h⟩:=h
 simp(disch:=omega) only[vm,seval,h.1]
 refine⟨CB (σ:=(List UInt8)) (γ:=Unit) a0 hfk5 (fun xs i s=>Bp N a0 k2 xs i s) (fun i s g=>[.str s,.int .i64 i]) (fun i s g=>m) [5,6,7,8,9,10,11,12,13,14,15,16,17,18,19,20,21,22,23,24,25,26,27] [3,4] [] () h (by first|(simp(disch:=omega) only[vm,seval,h.1];done)|rfl) (by first|(simp(disch:=omega) only[vm,seval,h.1];done)|rfl) ?_ ?_⟩<;>clear h
 rintro s4 s3 _ nL0_1 hnL0_1 _ h
 change _∧Bp N a0 k2 [] s4 s3=_ at h
 rw[Bp]at h
 refine AB (.q (.q (.r []) (.c .z .z)) .z) ?_
 simp(disch:=omega) only[vm,seval,h.1]
 refine⟨hk2 s3 () _ _ _ _ h.2 slr ?_ ?_ ?_ (by omega)⟩<;>first|(simp(disch:=omega) only[vm,seval,h.1];done)|rfl
 rintro xk5 xsk5 s4 s3 _ nL0_1 hnL0_1 _ h Jk5 hk5
 change _∧Bp N a0 k2 (xk5::xsk5) s4 s3=_ at h
 rw[Bp]at h
 refine AB (.q (.q (.r []) (.c .z .z)) .z) ?_
 simp(disch:=omega) only[vm,seval,h.1]
 refine⟨AV (γ:=Unit) h [11,12,13,14,15,16,17,18,19,20,21,22,23,24,25,26,27] [3] (fun j6 g=>[.str j6]) (fun j6 g=>m) (.q (.r []) (.c (.r []) (.r []))) ?_ ?_⟩<;>clear h
 rintro j6 _ n9 hnn9 _ _ h
 refine AB (.r []) ?_
 simp(disch:=omega) only[vm,seval,h.1]
 refine⟨hk5 j6 () _ _ _ _ h.2 slr ?_ ?_ ?_ (by omega)⟩<;>first|(simp(disch:=omega) only[vm,seval,h.1];done)|rfl
 intro k7 Jk7 hk7 h
 replace h:=AA h
 obtain⟨y10,h⟩:=h
 simp(disch:=omega) only[vm,seval,h.1]
 refine⟨OW h.1.1 (by first|(simp(disch:=omega) only[vm,seval,h.1];done)|rfl) fun n11 hn11=>?_⟩
 replace h:=AC h
 rcases h with h|h
 replace h:=AA h
 obtain⟨x12,h⟩:=h
 replace h:=AR h
 obtain⟨c,h⟩:=h
 try simp only[liE,seval]at c
 replace h:=AO c h
 simp(disch:=omega) only[vm,seval,h.1]
 refine⟨hk7 (s3++x12) () _ _ _ _ h.2 slr ?_ ?_ ?_ (by omega)⟩<;>first|(simp(disch:=omega) only[vm,seval,h.1];done)|rfl
 replace h:=AA h
 obtain⟨y13,h⟩:=h
 simp(disch:=omega) only[vm,seval,h.1]
 refine⟨KX h.1.1 (by first|(simp(disch:=omega) only[vm,seval,h.1];done)|rfl) fun n14 hn14=>?_⟩
 replace h:=AR h
 obtain⟨c,h⟩:=h
 try simp only[liE,seval]at c
 replace h:=AO c h
 simp(disch:=omega) only[vm,seval,h.1]
 refine⟨hk7 (s3++y13) () _ _ _ _ h.2 slr ?_ ?_ ?_ (by omega)⟩<;>first|(simp(disch:=omega) only[vm,seval,h.1];done)|rfl
theorem AD7 {a0 r}{i0:Nat} (h:N9 N a0=some r) (ha:args=[.ptr i0 0]) (hi0:Bh m i0=some ([.slice 1 (List.map (AVal.int .u8) a0.l) false])) (hQ: ∀n',n≤n'→Gl (Q (.str r.1) ⟨CE m i0 ([.slice 1 (List.map (AVal.int .u8) r.2.l) false]),n'⟩)):ACall vE 73 args ⟨m,n⟩ Q:=by
 rw[N9]at h
 subst ha
 refine ACall.front hi0 fun hin=>ent (fun n' k=>⟨_,rfl,(hQ n' k).go⟩) Tryz.func73 rfl Tryz.ntmps73 Tryz.results73 (.q (.r []) (.q (.r []) .z)) fun R hR=>?_
 replace h:=And.intro trivial h
 refine LZ h ?_
 clear h
 intro l1 c h
 replace c:=congrArg (List.map AVal.str) c
 simp only[List.map_cons,List.map_nil,eE]at c
 replace h:=AO c h
 replace h:=AA h
 obtain⟨y2,h⟩:=h
 simp(disch:=omega) only[vm,seval,h.1]
 refine⟨D8 h.1.1 (by first|(simp(disch:=omega) only[vm,seval,h.1];done)|rfl) (i0:=i0) (by simp(disch:=omega) only[vm,seval,h.1]) fun n3 hn3=>?_⟩
 obtain⟨H,h⟩:=h
 cases h
 simp(disch:=omega) only[vm,seval,H]
 refine⟨(hR _ _ _ _ _ _ (by simp(disch:=omega) only[vm,seval,H];rfl) slr ?_ (by omega) ?_).1⟩<;>first|(simp(disch:=omega) only[vm,seval,H];done)|rfl
end Go.Proofs.YtjgdhjpafjpjgaaGreatDoor
