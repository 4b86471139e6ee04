import Derived.Test.YtjgdhjpafjpjgaaGreatDoorVmFacts
import Derived.Test.YtjgdhjpafjpjgaaGreatDoorDefs
import Derived.Test.YtjgdhjpafjpjgaaGreatDoorVM2
import Derived.Test.YtjgdhjpafjpjgaaGreatDoorW0
import Derived.Test.YtjgdhjpafjpjgaaGreatDoorW1
import Derived.Test.YtjgdhjpafjpjgaaGreatDoorW2
set_option linter.unusedVariables false
set_option linter.unusedSimpArgs false
set_option maxHeartbeats 4000000
set_option maxRecDepth 100000
set_option linter.defProp false
namespace Go.Proofs.YtjgdhjpafjpjgaaGreatDoor
open Go.VM
variable{N n:Nat}{m:MS}{Q:PQ}{args:List AVal}
theorem Kr {a0 a1 r} (h:EU N a0 a1=some r) (ha:args=[.str a0,.str a1]) (hQ: ∀n',n≤n'→Gl (Q (.tuple [.str r.1,.str r.2.1,.bool r.2.2]) ⟨m,n'⟩)):ACall vE 88 args ⟨m,n⟩ Q:=by
 rw[EU]at h
 subst ha
 refine ent hQ Tryz.func88 rfl Tryz.ntmps88 Tryz.results88 (.q (.r []) (.q (.q (.r []) (.q (.r []) (.c (.q .z .z) .z))) (.q (.r []) .z))) fun R hR=>?_
 replace h:=And.intro trivial h
 obtain⟨y1,h⟩:=AA h
 simp(disch:=omega) only[vm,seval,h.1]
 refine⟨GU h.1.1 tD fun n2 hn2=>?_⟩
 rcases AC h with h|h
 obtain⟨x3,h⟩:=AA h
 obtain⟨x4,h⟩:=AA h
 simp(disch:=omega) only[vm,seval,h.1]
 refine⟨BI [] (.take 0 (.take 1 (.take 2 (.take 3 (.take 4 (.take 5 (.take 6 (.take 7 (.take 8 (.alt 9 [8,7,6,5,4,3] (.alt 10 [] (.alt 11 [] (.done) (.stop)) (.stop)) (.stop))))))))))) Au (by kernel_rfl) ?_⟩
 exact tR
 exact tR
theorem U5 {a0 a1 r} (h:NZ N a0 a1=some r) (ha:args=[.int .u8 a0,.str a1]) (hQ: ∀n',n≤n'→Gl (Q (.bool r) ⟨m,n'⟩)):ACall vE 133 args ⟨m,n⟩ Q:=by
 rw[NZ]at h
 subst ha
 refine ent hQ Tryz.func133 rfl Tryz.ntmps133 Tryz.results133 (.q (.r []) (.q (.r []) .z)) fun R hR=>?_
 replace h:=And.intro trivial h
 obtain⟨y1,h⟩:=AA h
 simp(disch:=omega) only[vm,seval,h.1]
 refine⟨Bq h.1.1 tD fun n2 hn2=>?_⟩
 exact tR
theorem Le {a0 a1 r} (h:FI N a0 a1=some r) (ha:args=[.str a0,.int .i64 a1]) (hQ: ∀n',n≤n'→Gl (Q (.tuple [.int .u8 r.1,.bool r.2]) ⟨m,n'⟩)):ACall vE 89 args ⟨m,n⟩ Q:=by
 rw[FI]at h
 subst ha
 refine ent hQ Tryz.func89 rfl Tryz.ntmps89 Tryz.results89 (.q (.r []) (.q .z (.q .z .z))) fun R hR=>?_
 replace h:=And.intro trivial h
 simp(disch:=omega) only[vm,seval,h.1]
 refine⟨AQ (γ:=Unit) h [6,7,8,9,10,11,12,13,14,15,16,17,18,19,20,21,22,23,24,25] [26] (fun j1 g=>[.bool j1]) (fun j1 g=>m) (.r []) ?_ ?_⟩<;>clear h
 rintro j1 _ n4 hnn4 _ _ h
 refine AB (.c (.q (.r []) .z) .z) ?_
 rcases AC h with h|h
 exact tR
 obtain⟨x11,h⟩:=AA h
 obtain⟨y12,h⟩:=AA h
 have cy12:=h.1.1
 obtain⟨x14,h⟩:=AA h
 obtain⟨y15,h⟩:=AA h
 have cy15:=h.1.1
 simp(disch:=omega) only[vm,seval,h.1]
 refine⟨BI [] (.take 0 (.take 1 (.take 2 (.take 3 (.take 6 (.take 7 (.take 8 (.take 9 (.alt 4 [9,8,7,6,2,1,0] (.take 5 (.alt 10 [5,8,7,6,3,2,1,0] (.take 11 (.alt 12 [] (.alt 13 [] (.done) (.stop)) (.stop))) (.stop))) (.stop)))))))))) Au (by kernel_rfl) ?_⟩
 simp(disch:=omega) only[vm,seval,h.1]
 refine⟨NB cy12 tD fun n13 hn13=>?_⟩
 simp(disch:=omega) only[vm,seval,h.1]
 refine⟨NB cy15 tD fun n16 hn16=>?_⟩
 exact tR
 intro k2 Jk2 hk2 h
 rcases AC h with h|h
 exact tJ (hk2 true ())
 obtain⟨x5,h⟩:=AA h
 obtain⟨y6,h⟩:=AA h
 simp(disch:=omega) only[vm,seval,h.1]
 refine⟨Oy h.1.1 tD fun n7 hn7=>?_⟩
 rcases AC h with h|h
 obtain⟨x8,h⟩:=AA h
 obtain⟨y9,h⟩:=AA h
 simp(disch:=omega) only[vm,seval,h.1]
 refine⟨Oy h.1.1 tD fun n10 hn10=>?_⟩
 exact tJ (hk2 (!y9) ())
 exact tJ (hk2 true ())
theorem Nz {a0 r} (h:Hd N a0=some r) (ha:args=[.str a0]) (hQ: ∀n',n≤n'→Gl (Q (.bool r) ⟨m,n'⟩)):ACall vE 236 args ⟨m,n⟩ Q:=by
 rw[Hd]at h
 subst ha
 refine ent hQ Tryz.func236 rfl Tryz.ntmps236 Tryz.results236 (.q (.r []) (.q (.r []) .z)) fun R hR=>?_
 replace h:=And.intro trivial h
 rcases AC h with h|h
 exact tR
 obtain⟨y1,h⟩:=AA h
 simp(disch:=omega) only[vm,seval,h.1]
 refine⟨KR h.1.1 tD fun n2 hn2=>?_⟩
 exact tR
theorem KE {a0 a1 a2 r} (h:Dv N a0 a1 a2=some r) (ha:args=[.str a0,.int .u64 a1,.int .u64 a2,.fn (.func 192) [] []]) (hQ: ∀n',n≤n'→Gl (Q (.tuple [.int .u64 r.1,.int .i64 r.2]) ⟨m,n'⟩)):ACall vE 253 args ⟨m,n⟩ Q:=by
 rw[Dv]at h
 subst ha
 refine ent hQ Tryz.func253 rfl Tryz.ntmps253 Tryz.results253 (.q (.r []) (.q (.q (.r []) (.c (.q (.r []) .z) .z)) .z)) fun R hR=>?_
 replace h:=And.intro trivial h
 rcases AC h with h|h
 exact tR
 simp(disch:=omega) only[vm,seval,h.1]
 refine⟨AQ (γ:=Unit) h [8,9,10,16,17,18,19,20,21,22,23,24,25,26,27] [] (fun j1 g=>[]) (fun j1 g=>m) (.q (.r []) .z) ?_ ?_⟩<;>clear h
 rintro j1 _ n4 hnn4 _ _ h
 refine AB (.q (.r []) .z) ?_
 simp(disch:=omega) only[vm,seval,h.1]
 refine⟨AQ (γ:=Unit) h [8,9,12,13,28,29,30,31,32,33,34,35,36,37,38,39,40,41,42,43,44,45,46,47,48,49,50,51,52,53,54,55,56,57] [11] (fun j8 g=>[.int .u64 j8]) (fun j8 g=>m) (.q (.r []) .z) ?_ ?_⟩<;>clear h
 rintro j8 _ n11 hnn11 _ _ h
 refine AB (.q (.r []) .z) ?_
 exact tR
 intro k9 Jk9 hk9 h
 obtain⟨hfk12,h⟩:=AR h
 simp(disch:=omega) only[vm,seval,h.1]
 refine⟨BM (σ:=Int) (γ:=Unit) a0 hfk12 (fun xs i s=>Ak N a1 a2 k9 xs s) (fun i s g=>[.int .u64 s,.int .i64 i]) (fun i s g=>m) [8,9,12,13,31,32,33,34,35,36,37,38,39,40,41,42,43,44,45,46,47,48,49,50,51,52,53,54,55,56,57] [11,30] 0 () h tD tD ?_ ?_⟩<;>clear h
 rintro s30 s11 _ nL1_1 hnL1_1 _ h
 change _∧Ak N a1 a2 k9 [] s11=_ at h
 rw[Ak]at h
 refine AB (.q (.r []) (.q (.c .z .z) (.q (.q (.r []) (.q (.r []) (.q .z (.r [])))) (.r [])))) ?_
 exact tJ (hk9 s11 ())
 rintro xk12 xsk12 s30 s11 _ nL1_1 hnL1_1 _ h Jk12 hk12
 change _∧Ak N a1 a2 k9 (xk12::xsk12) s11=_ at h
 rw[Ak]at h
 refine AB (.q (.r []) (.q (.c .z .z) (.q (.q (.r []) (.q (.r []) (.q .z (.r [])))) (.r [])))) ?_
 obtain⟨y13,h⟩:=AA h
 simp(disch:=omega) only[vm,seval,h.1]
 refine⟨UJ h.1.1 tD fun n14 hn14=>?_⟩
 simp(disch:=omega) only[vm,seval,h.1]
 refine⟨AQ (γ:=Unit) h [37,38,39,40,41,42,43,44,45,46,47,48,49,50] [51] (fun j15 g=>[.bool j15]) (fun j15 g=>m) (.r []) ?_ ?_⟩<;>clear h
 rintro j15 _ n18 hnn18 _ _ h
 refine AB (.c (.q (.r []) .z) .z) ?_
 rcases AC h with h|h
 exact tR
 exact tJ (hk12 (wr .u64 ((wr .u64 (s11 * a1))+y13)) ())
 intro k16 Jk16 hk16 h
 obtain⟨c,h⟩:=AR h
 try simp only[liE,seval]at c
 replace h:=AP c h
 rcases AC h with h|h
 exact tJ (hk16 true ())
 exact tJ (hk16 (decide ((wr .u64 ((wr .u64 (s11 * a1))+y13))>a2)) ())
 intro k2 Jk2 hk2 h
 obtain⟨hfk5,h⟩:=AR h
 simp(disch:=omega) only[vm,seval,h.1]
 refine⟨BM (σ:=Unit) (γ:=Unit) a0 hfk5 (fun xs i s=>Al N k2 xs) (fun i s g=>[.int .i64 i]) (fun i s g=>m) [8,9,10,19,20,21,22,23,24,25,26,27] [18] () () h tD tD ?_ ?_⟩<;>clear h
 rintro s18 _ _ nL0_1 hnL0_1 _ h
 change _∧Al N k2 []=_ at h
 rw[Al]at h
 refine AB (.q (.r []) (.q (.c .z .z) (.q (.q (.r []) (.q (.r []) (.c (.q (.r []) .z) .z))) (.r [])))) ?_
 exact tJ (hk2 () ())
 rintro xk5 xsk5 s18 _ _ nL0_1 hnL0_1 _ h Jk5 hk5
 change _∧Al N k2 (xk5::xsk5)=_ at h
 rw[Al]at h
 refine AB (.q (.r []) (.q (.c .z .z) (.q (.q (.r []) (.q (.r []) (.c (.q (.r []) .z) .z))) (.r [])))) ?_
 obtain⟨y6,h⟩:=AA h
 simp(disch:=omega) only[vm,seval,h.1]
 refine⟨Cs h.1.1 tD fun n7 hn7=>?_⟩
 rcases AC h with h|h
 exact tJ (hk5 () ())
 exact tR
theorem IU {a0 a1 r} (h:strings_Index N a0 a1=some r) (ha:args=[.str a0,.str a1]) (hQ: ∀n',n≤n'→Gl (Q (.int .i64 r) ⟨m,n'⟩)):ACall vE 161 args ⟨m,n⟩ Q:=by
 rw[strings_Index]at h
 subst ha
 refine ent hQ Tryz.func161 rfl Tryz.ntmps161 Tryz.results161 (.q (.r []) (.q (.r []) .z)) fun R hR=>?_
 replace h:=And.intro trivial h
 obtain⟨y1,h⟩:=AA h
 simp(disch:=omega) only[vm,seval,h.1]
 refine⟨GU h.1.1 tD fun n2 hn2=>?_⟩
 exact tR
theorem QN {a0 a1 r} (h:KO N a0 a1=some r) (ha:args=[.str a0,.int .i64 a1]) (hQ: ∀n',n≤n'→Gl (Q (.slice 1 (List.map AVal.str r) false) ⟨m,n'⟩)):ACall vE 263 args ⟨m,n⟩ Q:=by
 rw[KO]at h
 subst ha
 refine ent hQ Tryz.func263 rfl Tryz.ntmps263 Tryz.results263 (.q (.r []) (.q (.r []) .z)) fun R hR=>?_
 replace h:=And.intro trivial h
 obtain⟨y1,h⟩:=AA h
 simp(disch:=omega) only[vm,seval,h.1]
 refine⟨FO h.1.1 tD fun n2 hn2=>?_⟩
 simp(disch:=omega) only[vm,seval,h.1]
 refine⟨AQ (γ:=Unit) h [12,13,14,15,16,17,18,19] [1] (fun j3 g=>[.int .i64 j3]) (fun j3 g=>m) .z ?_ ?_⟩<;>clear h
 rintro j3 _ n6 hnn6 _ _ h
 refine AB (.q (.r []) .z) ?_
 obtain⟨c,h⟩:=AR h
 try simp only[liE,seval]at c
 replace h:=AP c h
 simp(disch:=omega) only[vm,seval,h.1]
 refine⟨AQ (γ:=Unit) h [7,8,9,22,23,24,25,26,27,28,29,30,31,32,33,34,35,36,37,38,39,40,41] [0] (fun j11 g=>[.str j11.1]) (fun j11 g=>(n6,List.map AVal.str j11.2)::m) (.q (.r []) .z) ?_ ?_⟩<;>clear h
 rintro j11 _ n14 hnn14 _ _ h
 refine AB .z ?_
 simp(disch:=omega) only[vm,seval,h.1]
 refine⟨AQ (γ:=Unit) h [42,43,44,45,46,47,48] [] (fun j20 g=>[]) (fun j20 g=>(n6,List.map AVal.str j20)::m) (.q (.r []) (.c (.r []) .z)) ?_ ?_⟩<;>clear h
 rintro j20 _ n23 hnn23 _ _ h
 refine AB (.q (.r []) .z) ?_
 cases h.2
 intro k21 Jk21 hk21 h
 rcases AC h with h|h
 obtain⟨c,h⟩:=AR h
 try simp only[liE,seval]at c
 replace h:=AP c h
 obtain⟨c,h⟩:=AR h
 try simp only[liE,seval]at c
 replace h:=AP c h
 exact tJ (hk21 (j11.2.set ((wr .i64 (j3-1)).toNat) j11.1) ())
 exact tJ (hk21 j11.2 ())
 intro k12 Jk12 hk12 h
 obtain⟨hfk15,h⟩:=AR h
 simp(disch:=omega) only[vm,seval,h.1]
 refine⟨UN (σ:=(List UInt8)×(List (List UInt8))) (γ:=Unit) 0 (wr .i64 (j3-1)) hfk15 (fun xs i s=>Di N j3 k12 xs i s.1 s.2) (fun i s g=>[.str s.1,.int .i64 i]) (fun i s g=>(n6,List.map AVal.str s.2)::m) [8,9,22,23,24,25,26,27,28,29,30,31,32,33,34,35,36,37,38,39,40,41] [0,7] (a0,(List.replicate j3.toNat ([]:List UInt8))) () h tD tD ?_ ?_⟩<;>clear h
 rintro s7 ⟨s0,bn6⟩ _ nL0_1 hnL0_1 _ h
 change _∧Di N j3 k12 0 s7 s0 bn6=_ at h
 rw[Di]at h
 refine AB (.q (.q (.r []) (.c .z .z)) (.q (.q (.r []) (.q (.r []) (.r []))) (.r []))) ?_
 exact tJ (hk12 (s0,bn6) ())
 rintro xsk15 s7 ⟨s0,bn6⟩ _ nL0_1 hnL0_1 _ h Jk15 hk15
 change _∧Di N j3 k12 (xsk15+1) s7 s0 bn6=_ at h
 rw[Di]at h
 refine AB (.q (.q (.r []) (.c .z .z)) (.q (.q (.r []) (.q (.r []) (.r []))) (.r []))) ?_
 obtain⟨y16,h⟩:=AA h
 simp(disch:=omega) only[vm,seval,h.1]
 refine⟨FC h.1.1 tD fun n17 hn17=>?_⟩
 obtain⟨x18,h⟩:=AA h
 obtain⟨c,h⟩:=AR h
 try simp only[liE,seval]at c
 replace h:=AP c h
 obtain⟨c,h⟩:=AR h
 try simp only[liE,seval]at c
 replace h:=AP c h
 obtain⟨x19,h⟩:=AA h
 exact tJ (hk15 (x19,(bn6.set s7.toNat x18)) ())
 intro k4 Jk4 hk4 h
 simp(disch:=omega) only[vm,seval,h.1]
 refine⟨AQ (γ:=Unit) h [12,13,14,15,16,17] [18] (fun j7 g=>[.bool j7]) (fun j7 g=>m) (.r []) ?_ ?_⟩<;>clear h
 rintro j7 _ n10 hnn10 _ _ h
 refine AB (.c (.r []) .z) ?_
 rcases AC h with h|h
 exact tJ (hk4 y1 ())
 exact tJ (hk4 a1 ())
 intro k8 Jk8 hk8 h
 rcases AC h with h|h
 exact tJ (hk8 true ())
 exact tJ (hk8 (decide (a1>y1)) ())
theorem KU {a0 a1 r} (h:Eg N a0 a1=some r) (ha:args=[.str a0,.int .i32 a1]) (hQ: ∀n',n≤n'→Gl (Q (.int .i64 r) ⟨m,n'⟩)):ACall vE 204 args ⟨m,n⟩ Q:=by
 rw[Eg]at h
 subst ha
 refine ent hQ Tryz.func204 rfl Tryz.ntmps204 Tryz.results204 (.q (.r []) .z) fun R hR=>?_
 replace h:=And.intro trivial h
 simp(disch:=omega) only[vm,seval,h.1]
 refine⟨AQ (γ:=Unit) h [161,162,163,164,165,166] [160] (fun j1 g=>[.bool j1]) (fun j1 g=>m) (.r []) ?_ ?_⟩<;>clear h
 rintro j1 _ n4 hnn4 _ _ h
 refine AB (.c (.q (.r []) .z) (.q (.r []) (.c .z (.q (.r []) (.c (.q (.r []) .z) .z))))) ?_
 rcases AC h with h|h
 obtain⟨y5,h⟩:=AA h
 simp(disch:=omega) only[vm,seval,h.1]
 refine⟨Bq h.1.1 tD fun n6 hn6=>?_⟩
 exact tR
 rcases AC h with h|h
 simp(disch:=omega) only[vm,seval,h.1]
 refine⟨AQ (γ:=Unit) h [4,5,6,174,175,176,177,178,179,180,181,182] [] (fun j7 g=>[]) (fun j7 g=>m) (.q (.r []) .z) ?_ ?_⟩<;>clear h
 rintro j7 _ n10 hnn10 _ _ h
 refine AB (.q (.r []) .z) ?_
 exact tR
 intro k8 Jk8 hk8 h
 simp(disch:=omega) only[vm,seval,h.1]
 refine⟨Kq (σ:=Nat) (γ:=Unit) (fun k s=>Ed N a0 k8 k s) (fun s g=>[.iter a0 s]) (fun s g=>m) [4,5,6,176,177,178,179,180,181,182] [175] 0 () h (fun _=>rfl) tD tD ?_⟩
 clear h
 rintro k11 s175 _ nL0_1 hnL0_1 _ h Jk11 hk11
 change _∧Ed N a0 k8 (k11+1) s175=_ at h
 rw[Ed]at h
 refine AB (.q (.r []) (.q (.c .z .z) (.q (.r []) (.q (.r []) (.c (.q (.r []) .z) .z))))) ?_
 rcases AC h with h|h
 rcases AC h with h|h
 exact tR
 exact tJ (hk11 (s175+(Cx a0 s175).2) ())
 exact tJ (hk8 () ())
 obtain⟨y12,h⟩:=AA h
 simp(disch:=omega) only[vm,seval,h.1]
 refine⟨Lr h.1.1 tD fun n13 hn13=>?_⟩
 rcases AC h with h|h
 cases h.2
 exact tR
 intro k2 Jk2 hk2 h
 rcases AC h with h|h
 exact tJ (hk2 (decide (a1<128)) ())
 exact tJ (hk2 false ())
theorem AFe {a0 r} (h:MK N a0=some r) (ha:args=[.int .u8 a0]) (hQ: ∀n',n≤n'→Gl (Q (.bool r) ⟨m,n'⟩)):ACall vE 265 args ⟨m,n⟩ Q:=by
 rw[MK]at h
 subst ha
 refine ent hQ Tryz.func265 rfl Tryz.ntmps265 Tryz.results265 (.q (.r []) (.q (.r []) .z)) fun R hR=>?_
 replace h:=And.intro trivial h
 obtain⟨y1,h⟩:=AA h
 simp(disch:=omega) only[vm,seval,h.1]
 refine⟨IV h.1.1 tD fun n2 hn2=>?_⟩
 rcases AC h with h|h
 exact tR
 obtain⟨y3,h⟩:=AA h
 simp(disch:=omega) only[vm,seval,h.1]
 refine⟨Cs h.1.1 tD fun n4 hn4=>?_⟩
 rcases AC h with h|h
 exact tR
 obtain⟨y5,h⟩:=AA h
 simp(disch:=omega) only[vm,seval,h.1]
 refine⟨Bq h.1.1 tD fun n6 hn6=>?_⟩
 exact tR
theorem GV {a0 r} (h:Dc N a0=some r) (ha:args=[Dt a0]) (hQ: ∀n',n≤n'→Gl (Q (.str r) ⟨m,n'⟩)):ACall vE 34 args ⟨m,n⟩ Q:=by
 rw[Dc]at h
 subst ha
 refine ent hQ Tryz.func34 rfl Tryz.ntmps34 Tryz.results34 (.q (.r []) (.q .z .z)) fun R hR=>?_
 replace h:=And.intro trivial h
 obtain⟨y1,h⟩:=AA h
 have cy1:=h.1.1
 obtain⟨y3,h⟩:=AA h
 have cy3:=h.1.1
 obtain⟨c,h⟩:=AR h
 try simp only[liE,seval]at c
 replace h:=AP c h
 obtain⟨y5,h⟩:=AA h
 have cy5:=h.1.1
 obtain⟨c,h⟩:=AR h
 try simp only[liE,seval]at c
 replace h:=AP c h
 simp(disch:=omega) only[vm,seval,h.1]
 refine⟨BI [] (.take 0 (.take 4 (.alt 1 [4] (.alt 2 [4,0] (.take 3 (.alt 5 [3,0] (.take 6 (.alt 7 [] (.done) (.stop))) (.stop))) (.stop)) (.stop)))) Au (by kernel_rfl) ?_⟩
 simp(disch:=omega) only[vm,seval,h.1]
 refine⟨R3 cy1 tD fun n2 hn2=>?_⟩
 simp(disch:=omega) only[vm,seval,h.1]
 refine⟨U7 cy3 tD fun n4 hn4=>?_⟩
 simp(disch:=omega) only[vm,seval,h.1]
 refine⟨SA cy5 tD fun n6 hn6=>?_⟩
 simp(disch:=omega) only[vm,seval,h.1]
 refine⟨AQ (γ:=Unit) h [11,12,13,14,15,16,17] [3] (fun j7 g=>[.str j7]) (fun j7 g=>(n,[.str a0.host,.int .i64 a0.port,.str a0.path,.str a0.query,.str a0.fragment,.bool a0.hasQuery,.bool a0.hasFrag])::m) (.q (.r []) (.c (.r []) .z)) ?_ ?_⟩<;>clear h
 rintro j7 _ n10 hnn10 _ _ h
 refine AB (.q (.r []) .z) ?_
 exact tR
 intro k8 Jk8 hk8 h
 rcases AC h with h|h
 obtain⟨c,h⟩:=AR h
 try simp only[liE,seval]at c
 replace h:=AP c h
 obtain⟨c,h⟩:=AR h
 try simp only[liE,seval]at c
 replace h:=AP c h
 exact tJ (hk8 (((([104,116,116,112,115,58,47,47]:List UInt8)++y3)++y5)++(([35]:List UInt8)++a0.fragment)) ())
 exact tJ (hk8 ((([104,116,116,112,115,58,47,47]:List UInt8)++y3)++y5) ())
theorem KS {a0 a1 r} (h:strings_CutPrefix N a0 a1=some r) (ha:args=[.str a0,.str a1]) (hQ: ∀n',n≤n'→Gl (Q (.tuple [.str r.1,.bool r.2]) ⟨m,n'⟩)):ACall vE 150 args ⟨m,n⟩ Q:=by
 rw[strings_CutPrefix]at h
 subst ha
 refine ent hQ Tryz.func150 rfl Tryz.ntmps150 Tryz.results150 (.q (.r []) (.q (.r []) .z)) fun R hR=>?_
 replace h:=And.intro trivial h
 obtain⟨y1,h⟩:=AA h
 simp(disch:=omega) only[vm,seval,h.1]
 refine⟨JN h.1.1 tD fun n2 hn2=>?_⟩
 exact tR
theorem ZQ {a0 r} (h:K8 N a0=some r) (ha:args=[.str a0]) (hQ: ∀n',n≤n'→Gl (Q (.bool r) ⟨m,n'⟩)):ACall vE 159 args ⟨m,n⟩ Q:=by
 rw[K8]at h
 subst ha
 refine ent hQ Tryz.func159 rfl Tryz.ntmps159 Tryz.results159 (.q (.r []) .z) fun R hR=>?_
 replace h:=And.intro trivial h
 simp(disch:=omega) only[vm,seval,h.1]
 refine⟨AQ (γ:=Unit) h [2,3,4,5,6,7,8,9,10,11,12,13,14,15,16,17,18,19,20,21,22,23,24,25,26,27,28,29,30,31,32] [] (fun j1 g=>[]) (fun j1 g=>m) (.q (.r []) .z) ?_ ?_⟩<;>clear h
 rintro j1 _ n4 hnn4 _ _ h
 refine AB (.q (.r []) .z) ?_
 exact tR
 intro k2 Jk2 hk2 h
 obtain⟨hfk5,h⟩:=AR h
 simp(disch:=omega) only[vm,seval,h.1]
 refine⟨BM (σ:=Unit) (γ:=Unit) a0 hfk5 (fun xs i s=>D7 N k2 xs i) (fun i s g=>[.int .i64 i]) (fun i s g=>m) [2,3,7,8,9,10,11,12,13,14,15,16,17,18,19,20,21,22,23,24,25,26,27,28,29,30,31,32] [6] () () h tD tD ?_ ?_⟩<;>clear h
 rintro s6 _ _ nL0_1 hnL0_1 _ h
 change _∧D7 N k2 [] s6=_ at h
 rw[D7]at h
 refine AB (.q (.r []) (.q (.c .z .z) (.q (.q (.r []) .z) (.r [])))) ?_
 exact tJ (hk2 () ())
 rintro xk5 xsk5 s6 _ _ nL0_1 hnL0_1 _ h Jk5 hk5
 change _∧D7 N k2 (xk5::xsk5) s6=_ at h
 rw[D7]at h
 refine AB (.q (.r []) (.q (.c .z .z) (.q (.q (.r []) .z) (.r [])))) ?_
 simp(disch:=omega) only[vm,seval,h.1]
 refine⟨AQ (γ:=Unit) h [9,10,11,12,13,14,15,16,17,18,19,20,21,22,23,24,25,26,27,28,29,30] [31] (fun j6 g=>[.bool j6]) (fun j6 g=>m) (.r []) ?_ ?_⟩<;>clear h
 rintro j6 _ n9 hnn9 _ _ h
 refine AB (.c (.q (.r []) .z) .z) ?_
 rcases AC h with h|h
 exact tR
 exact tJ (hk5 () ())
 intro k7 Jk7 hk7 h
 obtain⟨y10,h⟩:=AA h
 simp(disch:=omega) only[vm,seval,h.1]
 refine⟨IV h.1.1 tD fun n11 hn11=>?_⟩
 rcases AC h with h|h
 exact tJ (hk7 false ())
 rcases AC h with h|h
 exact tJ (hk7 true ())
 obtain⟨y12,h⟩:=AA h
 simp(disch:=omega) only[vm,seval,h.1]
 refine⟨Cs h.1.1 tD fun n13 hn13=>?_⟩
 rcases AC h with h|h
 exact tJ (hk7 false ())
 obtain⟨y14,h⟩:=AA h
 simp(disch:=omega) only[vm,seval,h.1]
 refine⟨Bq h.1.1 tD fun n15 hn15=>?_⟩
 exact tJ (hk7 (decide (y14<0)) ())
theorem Nb {a0 a1 r} (h:strings_TrimPrefix N a0 a1=some r) (ha:args=[.str a0,.str a1]) (hQ: ∀n',n≤n'→Gl (Q (.str r) ⟨m,n'⟩)):ACall vE 165 args ⟨m,n⟩ Q:=by
 rw[strings_TrimPrefix]at h
 subst ha
 refine ent hQ Tryz.func165 rfl Tryz.ntmps165 Tryz.results165 (.q (.r []) (.q (.r []) .z)) fun R hR=>?_
 replace h:=And.intro trivial h
 obtain⟨y1,h⟩:=AA h
 simp(disch:=omega) only[vm,seval,h.1]
 refine⟨I4 h.1.1 tD fun n2 hn2=>?_⟩
 exact tR
theorem UD {a0 r} (h:JJ N a0=some r) (ha:args=[DY a0]) (hQ: ∀n',n≤n'→Gl (Q (.str r) ⟨m,n'⟩)):ACall vE 63 args ⟨m,n⟩ Q:=by
 rw[JJ]at h
 subst ha
 refine ent hQ Tryz.func63 rfl Tryz.ntmps63 Tryz.results63 (.q (.r []) (.q (.q (.r []) (.c (.q (.r []) .z) .z)) (.q .z .z))) fun R hR=>?_
 replace h:=And.intro trivial h
 rcases AC h with h|h
 exact tR
 obtain⟨c,h⟩:=AR h
 try simp only[liE,seval]at c
 replace h:=AP c h
 obtain⟨y1,h⟩:=AA h
 have cy1:=h.1.1
 obtain⟨c,h⟩:=AR h
 try simp only[liE,seval]at c
 replace h:=AP c h
 simp(disch:=omega) only[vm,seval,h.1]
 refine⟨BI [] (.take 0 (.take 1 (.take 2 (.take 3 (.take 4 (.alt 5 [3,2,1,0] (.take 6 (.alt 7 [] (.done) (.stop))) (.stop))))))) Au (by kernel_rfl) ?_⟩
 simp(disch:=omega) only[vm,seval,h.1]
 refine⟨NC cy1 tD fun n2 hn2=>?_⟩
 exact tR
theorem OH {a0 a1 r} (h:He N a0 a1=some r) (ha:args=[.str a0,.int .i64 a1]) (hQ: ∀n',n≤n'→Gl (Q (.tuple [.int .u8 r.1,.bool r.2]) ⟨m,n'⟩)):ACall vE 90 args ⟨m,n⟩ Q:=by
 rw[He]at h
 subst ha
 refine ent hQ Tryz.func90 rfl Tryz.ntmps90 Tryz.results90 (.q (.r []) (.q .z (.q .z .z))) fun R hR=>?_
 replace h:=And.intro trivial h
 simp(disch:=omega) only[vm,seval,h.1]
 refine⟨AQ (γ:=Unit) h [6,7,8,9,10,11,12,13,14,15,16,17,18,19,20,21,22,23,24,25,26,27,28,29,30,31] [32] (fun j1 g=>[.bool j1]) (fun j1 g=>m) (.r []) ?_ ?_⟩<;>clear h
 rintro j1 _ n4 hnn4 _ _ h
 refine AB (.c (.q (.r []) .z) .z) ?_
 rcases AC h with h|h
 exact tR
 obtain⟨x12,h⟩:=AA h
 obtain⟨y13,h⟩:=AA h
 have cy13:=h.1.1
 obtain⟨x15,h⟩:=AA h
 obtain⟨y16,h⟩:=AA h
 have cy16:=h.1.1
 simp(disch:=omega) only[vm,seval,h.1]
 refine⟨BI [] (.take 0 (.take 1 (.take 2 (.take 3 (.take 6 (.take 7 (.take 8 (.take 9 (.alt 4 [9,8,7,6,2,1,0] (.take 5 (.alt 10 [5,8,7,6,3,2,1,0] (.take 11 (.alt 12 [] (.alt 13 [] (.done) (.stop)) (.stop))) (.stop))) (.stop)))))))))) Au (by kernel_rfl) ?_⟩
 simp(disch:=omega) only[vm,seval,h.1]
 refine⟨O5 cy13 tD fun n14 hn14=>?_⟩
 simp(disch:=omega) only[vm,seval,h.1]
 refine⟨O5 cy16 tD fun n17 hn17=>?_⟩
 exact tR
 intro k2 Jk2 hk2 h
 rcases AC h with h|h
 exact tJ (hk2 true ())
 obtain⟨x5,h⟩:=AA h
 rcases AC h with h|h
 exact tJ (hk2 true ())
 obtain⟨x6,h⟩:=AA h
 obtain⟨y7,h⟩:=AA h
 simp(disch:=omega) only[vm,seval,h.1]
 refine⟨Jt h.1.1 tD fun n8 hn8=>?_⟩
 rcases AC h with h|h
 obtain⟨x9,h⟩:=AA h
 obtain⟨y10,h⟩:=AA h
 simp(disch:=omega) only[vm,seval,h.1]
 refine⟨Jt h.1.1 tD fun n11 hn11=>?_⟩
 exact tJ (hk2 (!y10) ())
 exact tJ (hk2 true ())
theorem U0 {a0 a1 a2 r} (h:J5 N a0 a1 a2=some r) (ha:args=[.str a0,.int .u64 a1,.int .u64 a2]) (hQ: ∀n',n≤n'→Gl (Q (.tuple [.int .u64 r.1,.int .i64 r.2]) ⟨m,n'⟩)):ACall vE 227 args ⟨m,n⟩ Q:=by
 rw[J5]at h
 subst ha
 refine ent hQ Tryz.func227 rfl Tryz.ntmps227 Tryz.results227 (.q (.r []) (.q (.q (.r []) (.c (.q (.r []) .z) .z)) .z)) fun R hR=>?_
 replace h:=And.intro trivial h
 rcases AC h with h|h
 exact tR
 simp(disch:=omega) only[vm,seval,h.1]
 refine⟨AQ (γ:=Unit) h [6,7,8,14,15,16,17,18,19,20,21,22,23,24,25,26,27,28,29,30,31,32,33,34,35,36,37,38,39] [] (fun j1 g=>[]) (fun j1 g=>m) (.q (.r []) .z) ?_ ?_⟩<;>clear h
 rintro j1 _ n4 hnn4 _ _ h
 refine AB (.q (.r []) .z) ?_
 simp(disch:=omega) only[vm,seval,h.1]
 refine⟨AQ (γ:=Unit) h [6,7,10,11,40,41,42,43,44,45,46,47,48,49,50,51,52,53,54,55,56,57,58,59,60,61,62,63,64,65,66,67,68,69,70,71,72,73,74,75,76,77,78,79,80,81,82,83,84,85] [9] (fun j16 g=>[.int .u64 j16]) (fun j16 g=>m) (.q (.r []) .z) ?_ ?_⟩<;>clear h
 rintro j16 _ n19 hnn19 _ _ h
 refine AB (.q (.r []) .z) ?_
 exact tR
 intro k17 Jk17 hk17 h
 obtain⟨hfk20,h⟩:=AR h
 simp(disch:=omega) only[vm,seval,h.1]
 refine⟨BM (σ:=Int) (γ:=Unit) a0 hfk20 (fun xs i s=>DU N a1 a2 k17 xs s) (fun i s g=>[.int .u64 s,.int .i64 i]) (fun i s g=>m) [6,7,11,40,41,42,43,44,45,46,47,48,49,50,51,52,53,54,55,56,57,58,59,60,61,62,63,64,65,66,67,68,69,70,71,72,73,74,75,76,77,78,79,80,81,82,83,84,85] [9,10] 0 () h tD tD ?_ ?_⟩<;>clear h
 rintro s10 s9 _ nL1_1 hnL1_1 _ h
 change _∧DU N a1 a2 k17 [] s9=_ at h
 rw[DU]at h
 refine AB (.q (.q (.r []) (.c .z .z)) (.q (.q (.r []) .z) (.r []))) ?_
 exact tJ (hk17 s9 ())
 rintro xk20 xsk20 s10 s9 _ nL1_1 hnL1_1 _ h Jk20 hk20
 change _∧DU N a1 a2 k17 (xk20::xsk20) s9=_ at h
 rw[DU]at h
 refine AB (.q (.q (.r []) (.c .z .z)) (.q (.q (.r []) .z) (.r []))) ?_
 simp(disch:=omega) only[vm,seval,h.1]
 refine⟨AQ (γ:=Unit) h [51,52,53,54,55,56,57,58,59,60,61] [11] (fun j21 g=>[.int .u64 j21]) (fun j21 g=>m) (.q (.r []) (.c (.r []) .z)) ?_ ?_⟩<;>clear h
 rintro j21 _ n24 hnn24 _ _ h
 refine AB (.q .z (.r [])) ?_
 simp(disch:=omega) only[vm,seval,h.1]
 refine⟨AQ (γ:=Unit) h [62,63,64,65,66,67,68,69,70,71,72,73,74,75,76,77,78,79] [80] (fun j25 g=>[.bool j25]) (fun j25 g=>m) (.r []) ?_ ?_⟩<;>clear h
 rintro j25 _ n28 hnn28 _ _ h
 refine AB (.c (.q (.r []) .z) .z) ?_
 rcases AC h with h|h
 exact tR
 exact tJ (hk20 (wr .u64 ((wr .u64 (s9 * a1))+j21)) ())
 intro k26 Jk26 hk26 h
 obtain⟨c,h⟩:=AR h
 try simp only[liE,seval]at c
 replace h:=AP c h
 rcases AC h with h|h
 exact tJ (hk26 true ())
 rcases AC h with h|h
 exact tJ (hk26 true ())
 exact tJ (hk26 (decide (j21>a2)) ())
 intro k22 Jk22 hk22 h
 rcases AC h with h|h
 exact tJ (hk22 (wr .u64 ((wr .u64 ((wr .u64 (Rb .u8 (AL xk20) 32))-97))+10)) ())
 exact tJ (hk22 (wr .u64 (wr .u8 ((AL xk20)-48))) ())
 intro k2 Jk2 hk2 h
 obtain⟨hfk5,h⟩:=AR h
 simp(disch:=omega) only[vm,seval,h.1]
 refine⟨BM (σ:=Unit) (γ:=Unit) a0 hfk5 (fun xs i s=>DZ N a1 k2 xs) (fun i s g=>[.int .i64 i]) (fun i s g=>m) [6,7,14,15,16,17,18,19,20,21,22,23,24,25,26,27,28,29,30,31,32,33,34,35,36,37,38,39] [8] () () h tD tD ?_ ?_⟩<;>clear h
 rintro s8 _ _ nL0_1 hnL0_1 _ h
 change _∧DZ N a1 k2 []=_ at h
 rw[DZ]at h
 refine AB (.q (.q (.r []) (.c .z .z)) (.q .z (.r []))) ?_
 exact tJ (hk2 () ())
 rintro xk5 xsk5 s8 _ _ nL0_1 hnL0_1 _ h Jk5 hk5
 change _∧DZ N a1 k2 (xk5::xsk5)=_ at h
 rw[DZ]at h
 refine AB (.q (.q (.r []) (.c .z .z)) (.q .z (.r []))) ?_
 simp(disch:=omega) only[vm,seval,h.1]
 refine⟨AQ (γ:=Unit) h [20,21,22,23,24,25,26,27,28,29,30,31,32,33,34,35,36,37,38] [39] (fun j6 g=>[.bool j6]) (fun j6 g=>m) (.r []) ?_ ?_⟩<;>clear h
 rintro j6 _ n9 hnn9 _ _ h
 refine AB (.c (.q (.r []) .z) .z) ?_
 rcases AC h with h|h
 exact tR
 exact tJ (hk5 () ())
 intro k7 Jk7 hk7 h
 rcases AC h with h|h
 obtain⟨y10,h⟩:=AA h
 simp(disch:=omega) only[vm,seval,h.1]
 refine⟨Dh h.1.1 tD fun n11 hn11=>?_⟩
 rcases AC h with h|h
 rcases AC h with h|h
 obtain⟨y12,h⟩:=AA h
 simp(disch:=omega) only[vm,seval,h.1]
 refine⟨Jt h.1.1 tD fun n13 hn13=>?_⟩
 exact tJ (hk7 (!y12) ())
 exact tJ (hk7 false ())
 exact tJ (hk7 true ())
 rcases AC h with h|h
 obtain⟨y14,h⟩:=AA h
 simp(disch:=omega) only[vm,seval,h.1]
 refine⟨Jt h.1.1 tD fun n15 hn15=>?_⟩
 exact tJ (hk7 (!y14) ())
 exact tJ (hk7 false ())
theorem XG {a0 r} (h:LJ N a0=some r) (ha:args=[.str a0]) (hQ: ∀n',n≤n'→Gl (Q (.bool r) ⟨m,n'⟩)):ACall vE 185 args ⟨m,n⟩ Q:=by
 rw[LJ]at h
 subst ha
 refine ent hQ Tryz.func185 rfl Tryz.ntmps185 Tryz.results185 (.q (.r []) (.q (.r []) .z)) fun R hR=>?_
 replace h:=And.intro trivial h
 obtain⟨y1,h⟩:=AA h
 simp(disch:=omega) only[vm,seval,h.1]
 refine⟨Gb h.1.1 tD fun n2 hn2=>?_⟩
 simp(disch:=omega) only[vm,seval,h.1]
 refine⟨AQ (γ:=Unit) h [2,5,8,9,10,11,12,13,14,15,16,17] [] (fun j3 g=>[]) (fun j3 g=>m) (.q (.r []) .z) ?_ ?_⟩<;>clear h
 rintro j3 _ n6 hnn6 _ _ h
 refine AB (.q (.r []) .z) ?_
 obtain⟨x10,h⟩:=AA h
 obtain⟨y11,h⟩:=AA h
 simp(disch:=omega) only[vm,seval,h.1]
 refine⟨Sa h.1.1 tD fun n12 hn12=>?_⟩
 exact tR
 intro k4 Jk4 hk4 h
 obtain⟨hfk7,h⟩:=AR h
 simp(disch:=omega) only[vm,seval,h.1]
 refine⟨BM (σ:=Unit) (γ:=Unit) y1 hfk7 (fun xs i s=>D8 N k4 xs) (fun i s g=>[.int .i64 i]) (fun i s g=>m) [2,5,11,12,13,14,15,16,17] [10] () () h tD tD ?_ ?_⟩<;>clear h
 rintro s10 _ _ nL0_1 hnL0_1 _ h
 change _∧D8 N k4 []=_ at h
 rw[D8]at h
 refine AB (.q (.r []) (.q (.c .z .z) (.q (.q (.r []) (.q (.r []) (.c (.q (.r []) .z) .z))) (.r [])))) ?_
 exact tJ (hk4 () ())
 rintro xk7 xsk7 s10 _ _ nL0_1 hnL0_1 _ h Jk7 hk7
 change _∧D8 N k4 (xk7::xsk7)=_ at h
 rw[D8]at h
 refine AB (.q (.r []) (.q (.c .z .z) (.q (.q (.r []) (.q (.r []) (.c (.q (.r []) .z) .z))) (.r [])))) ?_
 obtain⟨y8,h⟩:=AA h
 simp(disch:=omega) only[vm,seval,h.1]
 refine⟨Un h.1.1 tD fun n9 hn9=>?_⟩
 rcases AC h with h|h
 exact tJ (hk7 () ())
 exact tR
theorem Uf {a0 r} (h:J6 N a0=some r) (ha:args=[.str a0]) (hQ: ∀n',n≤n'→Gl (Q (.bool r) ⟨m,n'⟩)):ACall vE 128 args ⟨m,n⟩ Q:=by
 rw[J6]at h
 subst ha
 refine ent hQ Tryz.func128 rfl Tryz.ntmps128 Tryz.results128 (.q (.r []) (.q .z .z)) fun R hR=>?_
 replace h:=And.intro trivial h
 simp(disch:=omega) only[vm,seval,h.1]
 refine⟨AQ (γ:=Unit) h [6,7,8,9,10,11] [12] (fun j1 g=>[.bool j1]) (fun j1 g=>m) (.r []) ?_ ?_⟩<;>clear h
 rintro j1 _ n4 hnn4 _ _ h
 refine AB (.c (.q (.r []) .z) .z) ?_
 rcases AC h with h|h
 exact tR
 simp(disch:=omega) only[vm,seval,h.1]
 refine⟨AQ (γ:=Unit) h [2,4,5,13,14,15,16,17,18,19,20,21,22,23,24,25,26,27,28,29,30,31,32,33] [] (fun j5 g=>[]) (fun j5 g=>m) (.q (.r []) .z) ?_ ?_⟩<;>clear h
 rintro j5 _ n8 hnn8 _ _ h
 refine AB (.q (.r []) .z) ?_
 exact tR
 intro k6 Jk6 hk6 h
 obtain⟨y9,h⟩:=AA h
 simp(disch:=omega) only[vm,seval,h.1]
 refine⟨Gb h.1.1 tD fun n10 hn10=>?_⟩
 obtain⟨hfk11,h⟩:=AR h
 simp(disch:=omega) only[vm,seval,h.1]
 refine⟨BM (σ:=Unit) (γ:=Unit) y9 hfk11 (fun xs i s=>DD N k6 xs) (fun i s g=>[.int .i64 i]) (fun i s g=>m) [2,4,5,17,18,19,20,21,22,23,24,25,26,27,28,29,30,31,32,33] [16] () () h tD tD ?_ ?_⟩<;>clear h
 rintro s16 _ _ nL0_1 hnL0_1 _ h
 change _∧DD N k6 []=_ at h
 rw[DD]at h
 refine AB (.q (.r []) (.q (.c .z .z) .z)) ?_
 exact tJ (hk6 () ())
 rintro xk11 xsk11 s16 _ _ nL0_1 hnL0_1 _ h Jk11 hk11
 change _∧DD N k6 (xk11::xsk11)=_ at h
 rw[DD]at h
 refine AB (.q (.r []) (.q (.c .z .z) .z)) ?_
 simp(disch:=omega) only[vm,seval,h.1]
 refine⟨AQ (γ:=Unit) h [2,4,5,18,19,20,21,22,23,24,25,26,27,28,29,30,31,32] [] (fun j12 g=>[]) (fun j12 g=>m) (.q (.r []) (.q (.q (.r []) (.c (.q (.r []) .z) .z)) (.q (.r []) .z))) ?_ ?_⟩<;>clear h
 rintro j12 _ n15 hnn15 _ _ h
 refine AB (.r []) ?_
 exact tJ (hk11 () ())
 intro k13 Jk13 hk13 h
 rcases AC h with h|h
 exact tR
 obtain⟨hfk16,h⟩:=AR h
 simp(disch:=omega) only[vm,seval,h.1]
 refine⟨BM (σ:=Unit) (γ:=Unit) xk11 hfk16 (fun xs i s=>DC N k13 xs) (fun i s g=>[.int .i64 i]) (fun i s g=>m) [2,22,23,24,25,26,27,28,29,30,31,32] [5] () () h tD tD ?_ ?_⟩<;>clear h
 rintro s5 _ _ nL1_2 hnL1_2 _ h
 change _∧DC N k13 []=_ at h
 rw[DC]at h
 refine AB (.q (.q (.r []) (.c .z .z)) (.q (.q (.r []) (.c (.q (.r []) .z) .z)) (.r []))) ?_
 exact tJ (hk13 () ())
 rintro xk16 xsk16 s5 _ _ nL1_2 hnL1_2 _ h Jk16 hk16
 change _∧DC N k13 (xk16::xsk16)=_ at h
 rw[DC]at h
 refine AB (.q (.q (.r []) (.c .z .z)) (.q (.q (.r []) (.c (.q (.r []) .z) .z)) (.r []))) ?_
 obtain⟨y17,h⟩:=AA h
 simp(disch:=omega) only[vm,seval,h.1]
 refine⟨ABJ h.1.1 tD fun n18 hn18=>?_⟩
 rcases AC h with h|h
 exact tJ (hk16 () ())
 exact tR
 intro k2 Jk2 hk2 h
 rcases AC h with h|h
 exact tJ (hk2 true ())
 exact tJ (hk2 (decide ((a0.length:Int)>64)) ())
end Go.Proofs.YtjgdhjpafjpjgaaGreatDoor
