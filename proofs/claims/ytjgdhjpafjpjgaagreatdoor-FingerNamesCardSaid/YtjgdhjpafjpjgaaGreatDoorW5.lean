import Derived.Test.YtjgdhjpafjpjgaaGreatDoorVmFacts
import Derived.Test.YtjgdhjpafjpjgaaGreatDoorDefs
import Derived.Test.YtjgdhjpafjpjgaaGreatDoorVM2
import Derived.Test.YtjgdhjpafjpjgaaGreatDoorW0
import Derived.Test.YtjgdhjpafjpjgaaGreatDoorW1
import Derived.Test.YtjgdhjpafjpjgaaGreatDoorW2
import Derived.Test.YtjgdhjpafjpjgaaGreatDoorW3
set_option linter.unusedVariables false
set_option linter.unusedSimpArgs false
set_option maxHeartbeats 4000000
set_option maxRecDepth 100000
set_option linter.defProp false
namespace Go.Proofs.YtjgdhjpafjpjgaaGreatDoor
open Go.VM
variable{N n:Nat}{m:MS}{Q:PQ}{args:List AVal}
theorem Ni {a0 a1 r} (h:Hq N a0 a1=some r) (ha:args=[.str a0,.str a1]) (hQ: ∀n',n≤n'→Gl (Q (.str r) ⟨m,n'⟩)):ACall vE 36 args ⟨m,n⟩ Q:=by
 rw[Hq]at h
 subst ha
 refine ent hQ Tryz.func36 rfl Tryz.ntmps36 Tryz.results36 (.q (.r []) (.q (.r []) .z)) fun R hR=>?_
 replace h:=And.intro trivial h
 simp(disch:=omega) only[vm,seval,h.1]
 refine⟨AQ (γ:=Unit) h [6,7,8,9,10,11,12,13,14,15,16,17,18,19,20,21,22,23,24,25,26,27,28,29,30,31,32,33,34,35,36,37,38,39,40,41,42] [5] (fun j1 g=>[.str j1]) (fun j1 g=>m) (.q (.r []) .z) ?_ ?_⟩<;>clear h
 rintro j1 _ n4 hnn4 _ _ h
 refine AB (.q (.r []) .z) ?_
 exact tR
 intro k2 Jk2 hk2 h
 obtain⟨hfk5,h⟩:=AR h
 simp(disch:=omega) only[vm,seval,h.1]
 refine⟨BM (σ:=(List UInt8)) (γ:=Unit) a0 hfk5 (fun xs i s=>Bc N a0 a1 k2 xs i s) (fun i s g=>[.str s,.int .i64 i]) (fun i s g=>m) [7,8,9,10,11,12,13,14,15,16,17,18,19,20,21,22,23,24,25,26,27,28,29,30,31,32,33,34,35,36,37,38,39,40,41,42] [5,6] [] () h tD tD ?_ ?_⟩<;>clear h
 rintro s6 s5 _ nL0_1 hnL0_1 _ h
 change _∧Bc N a0 a1 k2 [] s6 s5=_ at h
 rw[Bc]at h
 refine AB (.q (.q (.r []) (.c .z .z)) .z) ?_
 exact tJ (hk2 s5 ())
 rintro xk5 xsk5 s6 s5 _ nL0_1 hnL0_1 _ h Jk5 hk5
 change _∧Bc N a0 a1 k2 (xk5::xsk5) s6 s5=_ at h
 rw[Bc]at h
 refine AB (.q (.q (.r []) (.c .z .z)) .z) ?_
 simp(disch:=omega) only[vm,seval,h.1]
 refine⟨AQ (γ:=Unit) h [13,14,15,16,17,18,19,20,21,22,23,24,25,26,27,28,29,30,31,32,33,34,35,36,37,38,39,40,41,42] [5] (fun j6 g=>[.str j6]) (fun j6 g=>m) .z ?_ ?_⟩<;>clear h
 rintro j6 _ n9 hnn9 _ _ h
 refine AB (.r []) ?_
 exact tJ (hk5 j6 ())
 intro k7 Jk7 hk7 h
 simp(disch:=omega) only[vm,seval,h.1]
 refine⟨AQ (γ:=Unit) h [13,14,15,16,17,18,19,20,21,22,23,24,25,26,27,28] [29] (fun j10 g=>[.bool j10]) (fun j10 g=>m) (.r []) ?_ ?_⟩<;>clear h
 rintro j10 _ n13 hnn13 _ _ h
 refine AB (.c (.r []) (.r [])) ?_
 rcases AC h with h|h
 obtain⟨x18,h⟩:=AA h
 obtain⟨c,h⟩:=AR h
 try simp only[liE,seval]at c
 replace h:=AP c h
 exact tJ (hk7 (s5++x18) ())
 obtain⟨y19,h⟩:=AA h
 simp(disch:=omega) only[vm,seval,h.1]
 refine⟨K5 h.1.1 tD fun n20 hn20=>?_⟩
 obtain⟨c,h⟩:=AR h
 try simp only[liE,seval]at c
 replace h:=AP c h
 exact tJ (hk7 (s5++y19) ())
 intro k11 Jk11 hk11 h
 obtain⟨y14,h⟩:=AA h
 simp(disch:=omega) only[vm,seval,h.1]
 refine⟨Eb h.1.1 tD fun n15 hn15=>?_⟩
 rcases AC h with h|h
 exact tJ (hk11 true ())
 rcases AC h with h|h
 obtain⟨y16,h⟩:=AA h
 simp(disch:=omega) only[vm,seval,h.1]
 refine⟨Gz h.1.1 tD fun n17 hn17=>?_⟩
 exact tJ (hk11 y16 ())
 exact tJ (hk11 false ())
theorem U6 {a0 r} (h:Jz N a0=some r) (ha:args=[.str a0]) (hQ: ∀n',n≤n'→Gl (Q (.tuple [RH r.1,.int .i64 r.2]) ⟨m,n'⟩)):ACall vE 177 args ⟨m,n⟩ Q:=by
 rw[Jz]at h
 subst ha
 refine ent hQ Tryz.func177 rfl Tryz.ntmps177 Tryz.results177 (.q (.r []) (.q (.q (.r []) (.c (.q (.r []) .z) .z)) (.q (.r []) .z))) fun R hR=>?_
 replace h:=And.intro trivial h
 rcases AC h with h|h
 exact tR
 simp(disch:=omega) only[vm,seval,h.1]
 refine⟨AQ (γ:=Unit) h [5,13,14,15,16,17,18,19,20,21,22,23,24,25,26,27] [0] (fun j1 g=>[.str j1.1]) (fun j1 g=>((n+1),[.str [],.str [],.str [],.str [],.str j1.2.1,.bool false,.bool false,.bool false,.bool j1.2.2])::(n,[.str [],.str [],.str [],.str [],.str [],.bool false,.bool false,.bool false,.bool false])::m) (.q (.r []) (.q (.r []) (.c .z .z))) ?_ ?_⟩<;>clear h
 rintro j1 _ n4 hnn4 _ _ h
 refine AB .z ?_
 simp(disch:=omega) only[vm,seval,h.1]
 refine⟨AQ (γ:=Unit) h [6,28,29,30,31,32,33,34,35,36,37,38,39,40,41,42] [0] (fun j9 g=>[.str j9.1]) (fun j9 g=>((n+1),[.str [],.str [],.str [],.str j9.2.1,.str j1.2.1,.bool false,.bool false,.bool j9.2.2,.bool j1.2.2])::(n,[.str [],.str [],.str [],.str [],.str [],.bool false,.bool false,.bool false,.bool false])::m) (.q (.r []) (.q (.r []) (.c .z .z))) ?_ ?_⟩<;>clear h
 rintro j9 _ n12 hnn12 _ _ h
 refine AB .z ?_
 simp(disch:=omega) only[vm,seval,h.1]
 refine⟨AQ (γ:=Unit) h [3,7,43,44,45,46,47,48,49,50,51,52,53,54,55,56,57,58,59,60,61,62,63,64,65,66,67,68,69] [0] (fun j17 g=>[.str j17.1]) (fun j17 g=>((n+1),[.str j17.2.1,.str [],.str [],.str j9.2.1,.str j1.2.1,.bool j17.2.2,.bool false,.bool j9.2.2,.bool j1.2.2])::(n,[.str [],.str [],.str [],.str [],.str [],.bool false,.bool false,.bool false,.bool false])::m) (.q (.r []) .z) ?_ ?_⟩<;>clear h
 rintro j17 _ n20 hnn20 _ _ h
 refine AB .z ?_
 simp(disch:=omega) only[vm,seval,h.1]
 refine⟨AQ (γ:=Unit) h [8,70,71,72,73,74,75,76,77,78,79,80,81,82,83] [0] (fun j32 g=>[.str j32.1]) (fun j32 g=>((n+1),[.str j17.2.1,.str j32.2.1,.str [],.str j9.2.1,.str j1.2.1,.bool j17.2.2,.bool j32.2.2,.bool j9.2.2,.bool j1.2.2])::(n,[.str [],.str [],.str [],.str [],.str [],.bool false,.bool false,.bool false,.bool false])::m) (.q (.r []) (.c (.q (.r []) .z) .z)) ?_ ?_⟩<;>clear h
 rintro j32 _ n35 hnn35 _ _ h
 refine AB (.q (.r []) (.q (.r []) .z)) ?_
 exact tR
 intro k33 Jk33 hk33 h
 obtain⟨y36,h⟩:=AA h
 simp(disch:=omega) only[vm,seval,h.1]
 refine⟨Fw h.1.1 tD fun n37 hn37=>?_⟩
 rcases AC h with h|h
 obtain⟨x38,h⟩:=AA h
 obtain⟨y39,h⟩:=AA h
 simp(disch:=omega) only[vm,seval,h.1]
 refine⟨Cq h.1.1 tD fun n40 hn40=>?_⟩
 obtain⟨x41,h⟩:=AA h
 obtain⟨x42,h⟩:=AA h
 simp(disch:=omega) only[vm,seval,h.1]
 refine⟨BI [] (.take 0 (.take 1 (.take 2 (.take 3 (.take 4 (.take 5 (.take 6 (.alt 7 [5,4,3] (.take 8 (.alt 9 [5,4,3] (.alt 10 [] (.done) (.stop)) (.stop))) (.stop))))))))) Au (by kernel_rfl) ?_⟩
 exact tJ (hk33 (x42,x41,true) ())
 exact tJ (hk33 (j17.1,[],false) ())
 intro k18 Jk18 hk18 h
 obtain⟨y21,h⟩:=AA h
 simp(disch:=omega) only[vm,seval,h.1]
 refine⟨Cq h.1.1 tD fun n22 hn22=>?_⟩
 simp(disch:=omega) only[vm,seval,h.1]
 refine⟨AQ (γ:=Unit) h [45,46,47,48,49,50,51,52,53] [54] (fun j23 g=>[.bool j23]) (fun j23 g=>((n+1),[.str [],.str [],.str [],.str j9.2.1,.str j1.2.1,.bool false,.bool false,.bool j9.2.2,.bool j1.2.2])::(n,[.str [],.str [],.str [],.str [],.str [],.bool false,.bool false,.bool false,.bool false])::m) (.r []) ?_ ?_⟩<;>clear h
 rintro j23 _ n26 hnn26 _ _ h
 refine AB (.c (.q (.q (.r []) (.c (.q (.r []) .z) .z)) .z) .z) ?_
 rcases AC h with h|h
 obtain⟨x28,h⟩:=AA h
 obtain⟨y29,h⟩:=AA h
 simp(disch:=omega) only[vm,seval,h.1]
 refine⟨Tp h.1.1 tD fun n30 hn30=>?_⟩
 rcases AC h with h|h
 obtain⟨x31,h⟩:=AA h
 simp(disch:=omega) only[vm,seval,h.1]
 refine⟨BI [] (.take 0 (.take 1 (.take 2 (.take 3 (.take 4 (.take 5 (.take 6 (.take 7 (.alt 8 [6,5,4,3] (.take 9 (.alt 10 [6,5,4,3] (.alt 11 [] (.done) (.stop)) (.stop))) (.stop)))))))))) Au (by kernel_rfl) ?_⟩
 exact tJ (hk18 (x31,x28,true) ())
 exact tR
 exact tJ (hk18 (j9.1,[],false) ())
 intro k24 Jk24 hk24 h
 rcases AC h with h|h
 obtain⟨x27,h⟩:=AA h
 exact tJ (hk24 ((AL x27)==58) ())
 exact tJ (hk24 false ())
 intro k10 Jk10 hk10 h
 obtain⟨y13,h⟩:=AA h
 simp(disch:=omega) only[vm,seval,h.1]
 refine⟨Cq h.1.1 tD fun n14 hn14=>?_⟩
 rcases AC h with h|h
 obtain⟨x15,h⟩:=AA h
 obtain⟨x16,h⟩:=AA h
 simp(disch:=omega) only[vm,seval,h.1]
 refine⟨BI [] (.take 0 (.take 1 (.take 2 (.take 3 (.take 4 (.take 5 (.take 6 (.take 7 (.alt 8 [6,5,4] (.take 9 (.alt 10 [6,5,4] (.alt 11 [] (.done) (.stop)) (.stop))) (.stop)))))))))) Au (by kernel_rfl) ?_⟩
 exact tJ (hk10 (x16,x15,true) ())
 exact tJ (hk10 (j1.1,[],false) ())
 intro k2 Jk2 hk2 h
 obtain⟨y5,h⟩:=AA h
 simp(disch:=omega) only[vm,seval,h.1]
 refine⟨Cq h.1.1 tD fun n6 hn6=>?_⟩
 rcases AC h with h|h
 obtain⟨x7,h⟩:=AA h
 obtain⟨x8,h⟩:=AA h
 simp(disch:=omega) only[vm,seval,h.1]
 refine⟨BI [] (.take 0 (.take 1 (.take 2 (.take 3 (.take 4 (.take 5 (.take 6 (.take 7 (.alt 8 [6,5,4] (.take 9 (.alt 10 [6,5,4] (.alt 11 [] (.done) (.stop)) (.stop))) (.stop)))))))))) Au (by kernel_rfl) ?_⟩
 exact tJ (hk2 (x8,x7,true) ())
 exact tJ (hk2 (a0,[],false) ())
theorem PY {a0 r} (h:Ey N a0=some r) (ha:args=[.str a0]) (hQ: ∀n',n≤n'→Gl (Q (.str r) ⟨m,n'⟩)):ACall vE 179 args ⟨m,n⟩ Q:=by
 rw[Ey]at h
 subst ha
 refine ent hQ Tryz.func179 rfl Tryz.ntmps179 Tryz.results179 (.q (.r []) (.q (.r []) .z)) fun R hR=>?_
 replace h:=And.intro trivial h
 simp(disch:=omega) only[vm,seval,h.1]
 refine⟨AQ (γ:=Unit) h [3,5,7,8,9,10,11,12,13,14,15,16,17,18,19,20,21,22,23,24,25,26,27,28,29,30,31,32,33,34,35,36,37,38,39,40,41,42,43,44,45,46,47,48,49,50,51,52,53,54,55,56,57] [4] (fun j1 g=>[.str j1]) (fun j1 g=>m) .z ?_ ?_⟩<;>clear h
 rintro j1 _ n4 hnn4 _ _ h
 refine AB (.q (.r []) .z) ?_
 exact tR
 intro k2 Jk2 hk2 h
 simp(disch:=omega) only[vm,seval,h.1]
 refine⟨Kq (σ:=(List UInt8)×(List UInt8)) (γ:=Unit) (fun k s=>Ap N k2 k s.1 s.2) (fun s g=>[.str s.1,.str s.2]) (fun s g=>m) [5,7,8,9,10,11,12,13,14,15,16,17,18,19,20,21,22,23,24,25,26,27,28,29,30,31,32,33,34,35,36,37,38,39,40,41,42,43,44,45,46,47,48,49,50,51,52,53,54,55,56,57] [3,4] (a0,[]) () h (fun _=>rfl) tD tD ?_⟩
 clear h
 rintro k5 ⟨s3,s4⟩ _ nL0_1 hnL0_1 _ h Jk5 hk5
 change _∧Ap N k2 (k5+1) s3 s4=_ at h
 rw[Ap]at h
 refine AB (.q (.q (.r []) (.c .z .z)) (.q (.r []) (.c (.r []) (.q (.r []) (.c (.r []) (.q (.r []) (.c (.r []) (.q (.r []) (.c (.r []) (.q (.r []) (.c .z (.q (.r []) (.c (.r []) .z))))))))))))) ?_
 rcases AC h with h|h
 exact tJ (hk2 s4 ())
 obtain⟨y6,h⟩:=AA h
 simp(disch:=omega) only[vm,seval,h.1]
 refine⟨Fw h.1.1 tD fun n7 hn7=>?_⟩
 rcases AC h with h|h
 obtain⟨x8,h⟩:=AA h
 exact tJ (hk5 (x8,s4) ())
 obtain⟨y9,h⟩:=AA h
 simp(disch:=omega) only[vm,seval,h.1]
 refine⟨Fw h.1.1 tD fun n10 hn10=>?_⟩
 rcases AC h with h|h
 obtain⟨x11,h⟩:=AA h
 exact tJ (hk5 (x11,s4) ())
 obtain⟨y12,h⟩:=AA h
 simp(disch:=omega) only[vm,seval,h.1]
 refine⟨Fw h.1.1 tD fun n13 hn13=>?_⟩
 rcases AC h with h|h
 obtain⟨x14,h⟩:=AA h
 exact tJ (hk5 (x14,s4) ())
 rcases AC h with h|h
 exact tJ (hk5 (([47]:List UInt8),s4) ())
 obtain⟨y15,h⟩:=AA h
 simp(disch:=omega) only[vm,seval,h.1]
 refine⟨Fw h.1.1 tD fun n16 hn16=>?_⟩
 rcases AC h with h|h
 obtain⟨x17,h⟩:=AA h
 obtain⟨y18,h⟩:=AA h
 have cy18:=h.1.1
 simp(disch:=omega) only[vm,seval,h.1]
 refine⟨BI [] (.take 0 (.take 1 (.take 2 (.alt 3 [1,0] (.alt 4 [2] (.alt 5 [] (.done) (.stop)) (.stop)) (.stop))))) Au (by kernel_rfl) ?_⟩
 simp(disch:=omega) only[vm,seval,h.1]
 refine⟨NE cy18 tD fun n19 hn19=>?_⟩
 exact tJ (hk5 (x17,y18) ())
 rcases AC h with h|h
 obtain⟨y20,h⟩:=AA h
 simp(disch:=omega) only[vm,seval,h.1]
 refine⟨NE h.1.1 tD fun n21 hn21=>?_⟩
 exact tJ (hk5 (([47]:List UInt8),y20) ())
 simp(disch:=omega) only[vm,seval,h.1]
 refine⟨AQ (γ:=Unit) h [52,53,54,55,56,57] [51] (fun j22 g=>[.bool j22]) (fun j22 g=>m) (.r []) ?_ ?_⟩<;>clear h
 rintro j22 _ n25 hnn25 _ _ h
 refine AB (.c (.r []) (.q (.r []) .z)) ?_
 rcases AC h with h|h
 exact tJ (hk5 ([],s4) ())
 obtain⟨x26,h⟩:=AA h
 obtain⟨y27,h⟩:=AA h
 simp(disch:=omega) only[vm,seval,h.1]
 refine⟨Cq h.1.1 tD fun n28 hn28=>?_⟩
 obtain⟨x29,h⟩:=AA h
 obtain⟨x30,h⟩:=AA h
 obtain⟨c,h⟩:=AR h
 try simp only[liE,seval]at c
 replace h:=AP c h
 simp(disch:=omega) only[vm,seval,h.1]
 refine⟨BI [] (.take 0 (.take 1 (.take 2 (.take 3 (.take 4 (.take 5 (.take 6 (.take 7 (.alt 8 [7,6,5,3] (.alt 9 [] (.done) (.stop)) (.stop)))))))))) Au (by kernel_rfl) ?_⟩
 exact tJ (hk5 (x29,(s4++x30)) ())
 intro k23 Jk23 hk23 h
 rcases AC h with h|h
 exact tJ (hk23 true ())
 exact tJ (hk23 (s3==([46,46]:List UInt8)) ())
theorem ND {a0 r} (h:GX N a0=some r) (ha:args=[.str a0]) (hQ: ∀n',n≤n'→Gl (Q (.str r) ⟨m,n'⟩)):ACall vE 174 args ⟨m,n⟩ Q:=by
 rw[GX]at h
 subst ha
 refine ent hQ Tryz.func174 rfl Tryz.ntmps174 Tryz.results174 (.q (.r []) (.q (.r []) .z)) fun R hR=>?_
 replace h:=And.intro trivial h
 simp(disch:=omega) only[vm,seval,h.1]
 refine⟨AQ (γ:=Unit) h [4,5,6,7,8,9,10,11,12,13,14,15,16,17,18,19,20,21,22,23,24,25,26,27] [3] (fun j1 g=>[.str j1]) (fun j1 g=>m) (.q (.r []) .z) ?_ ?_⟩<;>clear h
 rintro j1 _ n4 hnn4 _ _ h
 refine AB (.q (.r []) .z) ?_
 exact tR
 intro k2 Jk2 hk2 h
 obtain⟨hfk5,h⟩:=AR h
 simp(disch:=omega) only[vm,seval,h.1]
 refine⟨BM (σ:=(List UInt8)) (γ:=Unit) a0 hfk5 (fun xs i s=>Bv N a0 k2 xs i s) (fun i s g=>[.str s,.int .i64 i]) (fun i s g=>m) [5,6,7,8,9,10,11,12,13,14,15,16,17,18,19,20,21,22,23,24,25,26,27] [3,4] [] () h tD tD ?_ ?_⟩<;>clear h
 rintro s4 s3 _ nL0_1 hnL0_1 _ h
 change _∧Bv N a0 k2 [] s4 s3=_ at h
 rw[Bv]at h
 refine AB (.q (.q (.r []) (.c .z .z)) .z) ?_
 exact tJ (hk2 s3 ())
 rintro xk5 xsk5 s4 s3 _ nL0_1 hnL0_1 _ h Jk5 hk5
 change _∧Bv N a0 k2 (xk5::xsk5) s4 s3=_ at h
 rw[Bv]at h
 refine AB (.q (.q (.r []) (.c .z .z)) .z) ?_
 simp(disch:=omega) only[vm,seval,h.1]
 refine⟨AQ (γ:=Unit) h [11,12,13,14,15,16,17,18,19,20,21,22,23,24,25,26,27] [3] (fun j6 g=>[.str j6]) (fun j6 g=>m) (.q (.r []) (.c (.r []) (.r []))) ?_ ?_⟩<;>clear h
 rintro j6 _ n9 hnn9 _ _ h
 refine AB (.r []) ?_
 exact tJ (hk5 j6 ())
 intro k7 Jk7 hk7 h
 obtain⟨y10,h⟩:=AA h
 simp(disch:=omega) only[vm,seval,h.1]
 refine⟨Ox h.1.1 tD fun n11 hn11=>?_⟩
 rcases AC h with h|h
 obtain⟨x12,h⟩:=AA h
 obtain⟨c,h⟩:=AR h
 try simp only[liE,seval]at c
 replace h:=AP c h
 exact tJ (hk7 (s3++x12) ())
 obtain⟨y13,h⟩:=AA h
 simp(disch:=omega) only[vm,seval,h.1]
 refine⟨K5 h.1.1 tD fun n14 hn14=>?_⟩
 obtain⟨c,h⟩:=AR h
 try simp only[liE,seval]at c
 replace h:=AP c h
 exact tJ (hk7 (s3++y13) ())
theorem AE3 {a0 r}{i0:Nat} (h:OM N a0=some r) (ha:args=[.ptr i0 0]) (hi0:Bo m i0=some ([.slice 1 (List.map (AVal.int .u8) a0.l) false])) (hQ: ∀n',n≤n'→Gl (Q (.str r.1) ⟨CJ m i0 ([.slice 1 (List.map (AVal.int .u8) r.2.l) false]),n'⟩)):ACall vE 73 args ⟨m,n⟩ Q:=by
 rw[OM]at h
 subst ha
 refine ACall.front hi0 fun hin=>ent (fun n' k=>⟨_,rfl,(hQ n' k).go⟩) Tryz.func73 rfl Tryz.ntmps73 Tryz.results73 (.q (.r []) (.q (.r []) .z)) fun R hR=>?_
 replace h:=And.intro trivial h
 refine L6 h ?_
 clear h
 intro l1 c h
 replace c:=congrArg (List.map AVal.str) c
 simp only[List.map_cons,List.map_nil,eE]at c
 replace h:=AP c h
 obtain⟨y2,h⟩:=AA h
 simp(disch:=omega) only[vm,seval,h.1]
 refine⟨EK h.1.1 tD (i0:=i0) (by simp(disch:=omega) only[vm,seval,h.1]) fun n3 hn3=>?_⟩
 exact tR
end Go.Proofs.YtjgdhjpafjpjgaaGreatDoor
