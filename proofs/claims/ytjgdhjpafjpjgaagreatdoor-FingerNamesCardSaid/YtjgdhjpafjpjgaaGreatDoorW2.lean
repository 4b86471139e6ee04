import Derived.Test.YtjgdhjpafjpjgaaGreatDoorVmFacts
import Derived.Test.YtjgdhjpafjpjgaaGreatDoorDefs
import Derived.Test.YtjgdhjpafjpjgaaGreatDoorVM2
import Derived.Test.YtjgdhjpafjpjgaaGreatDoorW0
set_option linter.unusedVariables false
set_option linter.unusedSimpArgs false
set_option maxHeartbeats 4000000
set_option maxRecDepth 100000
set_option linter.defProp false
namespace Go.Proofs.YtjgdhjpafjpjgaaGreatDoor
open Go.VM
variable{N n:Nat}{m:MS}{Q:PQ}{args:List AVal}
theorem GU {a0 a1 r} (h:Bt N a0 a1=some r) (ha:args=[.str a0,.str a1]) (hQ: ∀n',n≤n'→Gl (Q (.int .i64 r) ⟨m,n'⟩)):ACall vE 138 args ⟨m,n⟩ Q:=by
 rw[Bt]at h
 subst ha
 refine ent hQ Tryz.func138 rfl Tryz.ntmps138 Tryz.results138 (.q (.r []) (.q (.r []) (.q .z (.q (.r []) (.q (.r []) (.q (.r []) (.q (.r []) (.q (.r []) .z)))))))) fun R hR=>?_
 replace h:=And.intro trivial h
 simp(disch:=omega) only[vm,seval,h.1]
 refine⟨AQ (γ:=Unit) h [17,18,19,20,21,22,23] [16] (fun j1 g=>[.bool j1]) (fun j1 g=>m) (.r []) ?_ ?_⟩<;>clear h
 rintro j1 _ n4 hnn4 _ _ h
 refine AB (.c (.q (.r []) .z) (.q (.r []) (.c (.q (.r []) .z) (.q (.r []) (.c (.q (.r []) .z) (.q (.r []) (.c (.q (.r []) .z) .z))))))) ?_
 rcases AC h with h|h
 exact tR
 rcases AC h with h|h
 obtain⟨x5,h⟩:=AA h
 obtain⟨y6,h⟩:=AA h
 simp(disch:=omega) only[vm,seval,h.1]
 refine⟨FK h.1.1 tD fun n7 hn7=>?_⟩
 exact tR
 rcases AC h with h|h
 exact tR
 cases h.2
 intro k2 Jk2 hk2 h
 rcases AC h with h|h
 exact tJ (hk2 true ())
 exact tJ (hk2 (a1==a0) ())
theorem VE {a0 r} (h:NU N a0=some r) (ha:args=[.int .u8 a0]) (hQ: ∀n',n≤n'→Gl (Q (.bool r) ⟨m,n'⟩)):ACall vE 132 args ⟨m,n⟩ Q:=by
 rw[NU]at h
 subst ha
 refine ent hQ Tryz.func132 rfl Tryz.ntmps132 Tryz.results132 (.q (.r []) (.q (.r []) .z)) fun R hR=>?_
 replace h:=And.intro trivial h
 obtain⟨y1,h⟩:=AA h
 simp(disch:=omega) only[vm,seval,h.1]
 refine⟨IV h.1.1 tD fun n2 hn2=>?_⟩
 rcases AC h with h|h
 exact tR
 obtain⟨y3,h⟩:=AA h
 simp(disch:=omega) only[vm,seval,h.1]
 refine⟨Cs h.1.1 tD fun n4 hn4=>?_⟩
 exact tR
theorem Bq {a0 a1 r} (h:strings_IndexByte N a0 a1=some r) (ha:args=[.str a0,.int .u8 a1]) (hQ: ∀n',n≤n'→Gl (Q (.int .i64 r) ⟨m,n'⟩)):ACall vE 78 args ⟨m,n⟩ Q:=by
 rw[strings_IndexByte]at h
 subst ha
 refine ent hQ Tryz.func78 rfl Tryz.ntmps78 Tryz.results78 (.q (.r []) (.q (.r []) .z)) fun R hR=>?_
 replace h:=And.intro trivial h
 obtain⟨y1,h⟩:=AA h
 simp(disch:=omega) only[vm,seval,h.1]
 refine⟨FK h.1.1 tD fun n2 hn2=>?_⟩
 exact tR
theorem Oy {a0 r} (h:I1 N a0=some r) (ha:args=[.int .u8 a0]) (hQ: ∀n',n≤n'→Gl (Q (.bool r) ⟨m,n'⟩)):ACall vE 139 args ⟨m,n⟩ Q:=by
 rw[I1]at h
 subst ha
 refine ent hQ Tryz.func139 rfl Tryz.ntmps139 Tryz.results139 (.q (.r []) (.q (.r []) .z)) fun R hR=>?_
 replace h:=And.intro trivial h
 obtain⟨y1,h⟩:=AA h
 simp(disch:=omega) only[vm,seval,h.1]
 refine⟨Cs h.1.1 tD fun n2 hn2=>?_⟩
 rcases AC h with h|h
 exact tR
 rcases AC h with h|h
 exact tR
 exact tR
theorem NB {a0 r} (h:Gd N a0=some r) (ha:args=[.int .u8 a0]) (hQ: ∀n',n≤n'→Gl (Q (.int .u8 r) ⟨m,n'⟩)):ACall vE 140 args ⟨m,n⟩ Q:=by
 rw[Gd]at h
 subst ha
 refine ent hQ Tryz.func140 rfl Tryz.ntmps140 Tryz.results140 (.q (.r []) (.q (.q (.r []) (.c (.q (.r []) .z) .z)) (.q (.r []) .z))) fun R hR=>?_
 replace h:=And.intro trivial h
 obtain⟨y1,h⟩:=AA h
 simp(disch:=omega) only[vm,seval,h.1]
 refine⟨Cs h.1.1 tD fun n2 hn2=>?_⟩
 rcases AC h with h|h
 exact tR
 exact tR
theorem KR {a0 r} (h:D9 N a0=some r) (ha:args=[.str a0,.fn (.func 192) [] []]) (hQ: ∀n',n≤n'→Gl (Q (.bool r) ⟨m,n'⟩)):ACall vE 252 args ⟨m,n⟩ Q:=by
 rw[D9]at h
 subst ha
 refine ent hQ Tryz.func252 rfl Tryz.ntmps252 Tryz.results252 (.q (.r []) .z) fun R hR=>?_
 replace h:=And.intro trivial h
 simp(disch:=omega) only[vm,seval,h.1]
 refine⟨AQ (γ:=Unit) h [4,5,6,7,8,9,10,11,12,13,14,15,16,17] [] (fun j1 g=>[]) (fun j1 g=>m) (.q (.r []) .z) ?_ ?_⟩<;>clear h
 rintro j1 _ n4 hnn4 _ _ h
 refine AB (.q (.r []) .z) ?_
 exact tR
 intro k2 Jk2 hk2 h
 obtain⟨hfk5,h⟩:=AR h
 simp(disch:=omega) only[vm,seval,h.1]
 refine⟨BM (σ:=Unit) (γ:=Unit) a0 hfk5 (fun xs i s=>Ar N k2 xs) (fun i s g=>[.int .i64 i]) (fun i s g=>m) [4,5,9,10,11,12,13,14,15,16,17] [8] () () h tD tD ?_ ?_⟩<;>clear h
 rintro s8 _ _ nL0_1 hnL0_1 _ h
 change _∧Ar N k2 []=_ at h
 rw[Ar]at h
 refine AB (.q (.r []) (.q (.c .z .z) (.q (.q (.r []) (.q (.r []) (.c (.q (.r []) .z) .z))) (.r [])))) ?_
 exact tJ (hk2 () ())
 rintro xk5 xsk5 s8 _ _ nL0_1 hnL0_1 _ h Jk5 hk5
 change _∧Ar N k2 (xk5::xsk5)=_ at h
 rw[Ar]at h
 refine AB (.q (.r []) (.q (.c .z .z) (.q (.q (.r []) (.q (.r []) (.c (.q (.r []) .z) .z))) (.r [])))) ?_
 obtain⟨y6,h⟩:=AA h
 simp(disch:=omega) only[vm,seval,h.1]
 refine⟨Cs h.1.1 tD fun n7 hn7=>?_⟩
 rcases AC h with h|h
 exact tJ (hk5 () ())
 exact tR
theorem UJ {a0 r} (h:JI N a0=some r) (ha:args=[.int .u8 a0]) (hQ: ∀n',n≤n'→Gl (Q (.int .u64 r) ⟨m,n'⟩)):ACall vE 264 args ⟨m,n⟩ Q:=by
 rw[JI]at h
 subst ha
 refine ent hQ Tryz.func264 rfl Tryz.ntmps264 Tryz.results264 (.q (.r []) (.q (.q (.r []) (.c (.q (.r []) .z) .z)) (.q (.r []) .z))) fun R hR=>?_
 replace h:=And.intro trivial h
 obtain⟨y1,h⟩:=AA h
 simp(disch:=omega) only[vm,seval,h.1]
 refine⟨Cs h.1.1 tD fun n2 hn2=>?_⟩
 rcases AC h with h|h
 exact tR
 exact tR
theorem FC {a0 r} (h:Ci N a0=some r) (ha:args=[.str a0]) (hQ: ∀n',n≤n'→Gl (Q (.tuple [.int .i32 r.1,.int .i64 r.2]) ⟨m,n'⟩)):ACall vE 250 args ⟨m,n⟩ Q:=by
 rw[Ci]at h
 subst ha
 refine ent hQ Tryz.func250 rfl Tryz.ntmps250 Tryz.results250 (.q (.r []) (.q .z .z)) fun R hR=>?_
 replace h:=And.intro trivial h
 simp(disch:=omega) only[vm,seval,h.1]
 refine⟨AQ (γ:=Unit) h [4,5,6,7,8,9] [10] (fun j1 g=>[.bool j1]) (fun j1 g=>m) (.r []) ?_ ?_⟩<;>clear h
 rintro j1 _ n4 hnn4 _ _ h
 refine AB (.c (.q (.r []) .z) (.r [])) ?_
 rcases AC h with h|h
 obtain⟨x6,h⟩:=AA h
 exact tR
 obtain⟨y7,h⟩:=AA h
 simp(disch:=omega) only[vm,seval,h.1]
 refine⟨HZ h.1.1 tD fun n8 hn8=>?_⟩
 exact tR
 intro k2 Jk2 hk2 h
 rcases AC h with h|h
 exact tJ (hk2 false ())
 obtain⟨x5,h⟩:=AA h
 exact tJ (hk2 (decide ((AL x5)<128)) ())
theorem ABF {a0 r} (h:K4 N a0=some r) (ha:args=[.str a0]) (hQ: ∀n',n≤n'→Gl (Q (.bool r) ⟨m,n'⟩)):ACall vE 235 args ⟨m,n⟩ Q:=by
 rw[K4]at h
 subst ha
 refine ent hQ Tryz.func235 rfl Tryz.ntmps235 Tryz.results235 (.q (.r []) (.q .z .z)) fun R hR=>?_
 replace h:=And.intro trivial h
 simp(disch:=omega) only[vm,seval,h.1]
 refine⟨AQ (γ:=Unit) h [4,5,6,7,8,9,10,11,12,13,14,15,16,17,18,19,20,21,22] [23] (fun j1 g=>[.bool j1]) (fun j1 g=>m) (.r []) ?_ ?_⟩<;>clear h
 rintro j1 _ n4 hnn4 _ _ h
 refine AB (.c (.q (.r []) .z) .z) ?_
 rcases AC h with h|h
 exact tR
 simp(disch:=omega) only[vm,seval,h.1]
 refine⟨AQ (γ:=Unit) h [2,3,24,25,26,27,28,29,30,31,32,33,34,35,36,37,38,39,40,41,42,43,44,45,46,47] [] (fun j7 g=>[]) (fun j7 g=>m) (.q (.r []) .z) ?_ ?_⟩<;>clear h
 rintro j7 _ n10 hnn10 _ _ h
 refine AB (.q (.r []) .z) ?_
 exact tR
 intro k8 Jk8 hk8 h
 obtain⟨hfk11,h⟩:=AR h
 simp(disch:=omega) only[vm,seval,h.1]
 refine⟨BM (σ:=Unit) (γ:=Unit) a0 hfk11 (fun xs i s=>D5 N k8 xs) (fun i s g=>[.int .i64 i]) (fun i s g=>m) [2,3,27,28,29,30,31,32,33,34,35,36,37,38,39,40,41,42,43,44,45,46,47] [26] () () h tD tD ?_ ?_⟩<;>clear h
 rintro s26 _ _ nL0_1 hnL0_1 _ h
 change _∧D5 N k8 []=_ at h
 rw[D5]at h
 refine AB (.q (.r []) (.q (.c .z .z) (.q (.q (.r []) .z) (.r [])))) ?_
 exact tJ (hk8 () ())
 rintro xk11 xsk11 s26 _ _ nL0_1 hnL0_1 _ h Jk11 hk11
 change _∧D5 N k8 (xk11::xsk11)=_ at h
 rw[D5]at h
 refine AB (.q (.r []) (.q (.c .z .z) (.q (.q (.r []) .z) (.r [])))) ?_
 simp(disch:=omega) only[vm,seval,h.1]
 refine⟨AQ (γ:=Unit) h [29,30,31,32,33,34,35,36,37,38,39,40,41,42,43,44,45] [46] (fun j12 g=>[.bool j12]) (fun j12 g=>m) (.r []) ?_ ?_⟩<;>clear h
 rintro j12 _ n15 hnn15 _ _ h
 refine AB (.c (.q (.r []) .z) .z) ?_
 rcases AC h with h|h
 exact tR
 exact tJ (hk11 () ())
 intro k13 Jk13 hk13 h
 obtain⟨y16,h⟩:=AA h
 simp(disch:=omega) only[vm,seval,h.1]
 refine⟨IV h.1.1 tD fun n17 hn17=>?_⟩
 rcases AC h with h|h
 exact tJ (hk13 false ())
 obtain⟨y18,h⟩:=AA h
 simp(disch:=omega) only[vm,seval,h.1]
 refine⟨Cs h.1.1 tD fun n19 hn19=>?_⟩
 rcases AC h with h|h
 exact tJ (hk13 false ())
 exact tJ (hk13 ((AL xk11) !=45) ())
 intro k2 Jk2 hk2 h
 rcases AC h with h|h
 exact tJ (hk2 true ())
 rcases AC h with h|h
 exact tJ (hk2 true ())
 obtain⟨x5,h⟩:=AA h
 rcases AC h with h|h
 exact tJ (hk2 true ())
 obtain⟨x6,h⟩:=AA h
 exact tJ (hk2 ((AL x6)==45) ())
theorem Lj {a0 a1 r} (h:Gs N a0 a1=some r) (ha:args=[.str a0,.str a1]) (hQ: ∀n',n≤n'→Gl (Q (.bool r) ⟨m,n'⟩)):ACall vE 106 args ⟨m,n⟩ Q:=by
 rw[Gs]at h
 subst ha
 refine ent hQ Tryz.func106 rfl Tryz.ntmps106 Tryz.results106 (.q (.r []) (.q (.r []) .z)) fun R hR=>?_
 replace h:=And.intro trivial h
 obtain⟨y1,h⟩:=AA h
 simp(disch:=omega) only[vm,seval,h.1]
 refine⟨Ju h.1.1 tD fun n2 hn2=>?_⟩
 obtain⟨y3,h⟩:=AA h
 simp(disch:=omega) only[vm,seval,h.1]
 refine⟨Ju h.1.1 tD fun n4 hn4=>?_⟩
 exact tR
theorem U7 {a0 r} (h:KD N a0=some r) (ha:args=[DY a0]) (hQ: ∀n',n≤n'→Gl (Q (.str r) ⟨m,n'⟩)):ACall vE 80 args ⟨m,n⟩ Q:=by
 rw[KD]at h
 subst ha
 refine ent hQ Tryz.func80 rfl Tryz.ntmps80 Tryz.results80 (.q (.r []) (.q (.q (.r []) (.c (.q (.r []) .z) (.q (.r []) (.c (.q .z .z) .z)))) (.q .z .z))) fun R hR=>?_
 replace h:=And.intro trivial h
 rcases AC h with h|h
 exact tR
 rcases AC h with h|h
 obtain⟨c,h⟩:=AR h
 try simp only[liE,seval]at c
 replace h:=AP c h
 obtain⟨y1,h⟩:=AA h
 have cy1:=h.1.1
 obtain⟨c,h⟩:=AR h
 try simp only[liE,seval]at c
 replace h:=AP c h
 simp(disch:=omega) only[vm,seval,h.1]
 refine⟨BI [] (.take 0 (.take 1 (.take 2 (.take 3 (.take 4 (.take 5 (.take 6 (.alt 7 [5,4,3,2,1,0] (.take 8 (.alt 9 [] (.done) (.stop))) (.stop))))))))) Au (by kernel_rfl) ?_⟩
 simp(disch:=omega) only[vm,seval,h.1]
 refine⟨KH cy1 tD fun n2 hn2=>?_⟩
 exact tR
 obtain⟨c,h⟩:=AR h
 try simp only[liE,seval]at c
 replace h:=AP c h
 obtain⟨y3,h⟩:=AA h
 have cy3:=h.1.1
 obtain⟨c,h⟩:=AR h
 try simp only[liE,seval]at c
 replace h:=AP c h
 simp(disch:=omega) only[vm,seval,h.1]
 refine⟨BI [] (.take 0 (.take 1 (.take 2 (.take 3 (.take 4 (.take 5 (.alt 6 [4,3,2,1,0] (.take 7 (.alt 8 [] (.done) (.stop))) (.stop)))))))) Au (by kernel_rfl) ?_⟩
 simp(disch:=omega) only[vm,seval,h.1]
 refine⟨KH cy3 tD fun n4 hn4=>?_⟩
 exact tR
theorem JN {a0 a1 r} (h:Cv N a0 a1=some r) (ha:args=[.str a0,.str a1]) (hQ: ∀n',n≤n'→Gl (Q (.tuple [.str r.1,.bool r.2]) ⟨m,n'⟩)):ACall vE 200 args ⟨m,n⟩ Q:=by
 rw[Cv]at h
 subst ha
 refine ent hQ Tryz.func200 rfl Tryz.ntmps200 Tryz.results200 (.q (.r []) (.q (.q (.r []) (.c (.q (.r []) .z) .z)) (.q (.r []) .z))) fun R hR=>?_
 replace h:=And.intro trivial h
 obtain⟨y1,h⟩:=AA h
 simp(disch:=omega) only[vm,seval,h.1]
 refine⟨EB h.1.1 tD fun n2 hn2=>?_⟩
 rcases AC h with h|h
 obtain⟨x3,h⟩:=AA h
 exact tR
 exact tR
theorem Fa {a0 a1 r} (h:strings_HasPrefix N a0 a1=some r) (ha:args=[.str a0,.str a1]) (hQ: ∀n',n≤n'→Gl (Q (.bool r) ⟨m,n'⟩)):ACall vE 164 args ⟨m,n⟩ Q:=by
 rw[strings_HasPrefix]at h
 subst ha
 refine ent hQ Tryz.func164 rfl Tryz.ntmps164 Tryz.results164 (.q (.r []) (.q (.r []) .z)) fun R hR=>?_
 replace h:=And.intro trivial h
 obtain⟨y1,h⟩:=AA h
 simp(disch:=omega) only[vm,seval,h.1]
 refine⟨EB h.1.1 tD fun n2 hn2=>?_⟩
 exact tR
theorem I4 {a0 a1 r} (h:Ch N a0 a1=some r) (ha:args=[.str a0,.str a1]) (hQ: ∀n',n≤n'→Gl (Q (.str r) ⟨m,n'⟩)):ACall vE 212 args ⟨m,n⟩ Q:=by
 rw[Ch]at h
 subst ha
 refine ent hQ Tryz.func212 rfl Tryz.ntmps212 Tryz.results212 (.q (.r []) (.q (.q (.r []) (.c (.q (.r []) .z) .z)) (.q (.r []) .z))) fun R hR=>?_
 replace h:=And.intro trivial h
 obtain⟨y1,h⟩:=AA h
 simp(disch:=omega) only[vm,seval,h.1]
 refine⟨EB h.1.1 tD fun n2 hn2=>?_⟩
 rcases AC h with h|h
 obtain⟨x3,h⟩:=AA h
 exact tR
 exact tR
theorem MN {a0 a1 r} (h:strings_LastIndexByte N a0 a1=some r) (ha:args=[.str a0,.int .u8 a1]) (hQ: ∀n',n≤n'→Gl (Q (.int .i64 r) ⟨m,n'⟩)):ACall vE 166 args ⟨m,n⟩ Q:=by
 rw[strings_LastIndexByte]at h
 subst ha
 refine ent hQ Tryz.func166 rfl Tryz.ntmps166 Tryz.results166 (.q (.r []) (.q (.r []) .z)) fun R hR=>?_
 replace h:=And.intro trivial h
 obtain⟨y1,h⟩:=AA h
 simp(disch:=omega) only[vm,seval,h.1]
 refine⟨Gt h.1.1 tD fun n2 hn2=>?_⟩
 exact tR
theorem XE {a0 r} (h:LC N a0=some r) (ha:args=[.str a0]) (hQ: ∀n',n≤n'→Gl (Q (.bool r) ⟨m,n'⟩)):ACall vE 151 args ⟨m,n⟩ Q:=by
 rw[LC]at h
 subst ha
 refine ent hQ Tryz.func151 rfl Tryz.ntmps151 Tryz.results151 (.q (.r []) .z) fun R hR=>?_
 replace h:=And.intro trivial h
 simp(disch:=omega) only[vm,seval,h.1]
 refine⟨AQ (γ:=Unit) h [2,3,4,5,6,7,8,9,10,11,12,13,14,15,16,17,18,19,20,21,22,23,24,25,26] [] (fun j1 g=>[]) (fun j1 g=>m) (.q (.r []) .z) ?_ ?_⟩<;>clear h
 rintro j1 _ n4 hnn4 _ _ h
 refine AB (.q (.r []) .z) ?_
 exact tR
 intro k2 Jk2 hk2 h
 obtain⟨hfk5,h⟩:=AR h
 simp(disch:=omega) only[vm,seval,h.1]
 refine⟨BM (σ:=Unit) (γ:=Unit) a0 hfk5 (fun xs i s=>Dy N k2 xs) (fun i s g=>[.int .i64 i]) (fun i s g=>m) [2,3,7,8,9,10,11,12,13,14,15,16,17,18,19,20,21,22,23,24,25,26] [6] () () h tD tD ?_ ?_⟩<;>clear h
 rintro s6 _ _ nL0_1 hnL0_1 _ h
 change _∧Dy N k2 []=_ at h
 rw[Dy]at h
 refine AB (.q (.r []) (.q (.c .z .z) (.q (.q (.r []) .z) (.r [])))) ?_
 exact tJ (hk2 () ())
 rintro xk5 xsk5 s6 _ _ nL0_1 hnL0_1 _ h Jk5 hk5
 change _∧Dy N k2 (xk5::xsk5)=_ at h
 rw[Dy]at h
 refine AB (.q (.r []) (.q (.c .z .z) (.q (.q (.r []) .z) (.r [])))) ?_
 simp(disch:=omega) only[vm,seval,h.1]
 refine⟨AQ (γ:=Unit) h [9,10,11,12,13,14,15,16,17,18,19,20,21,22,23,24] [25] (fun j6 g=>[.bool j6]) (fun j6 g=>m) (.r []) ?_ ?_⟩<;>clear h
 rintro j6 _ n9 hnn9 _ _ h
 refine AB (.c (.q (.r []) .z) .z) ?_
 rcases AC h with h|h
 exact tR
 exact tJ (hk5 () ())
 intro k7 Jk7 hk7 h
 obtain⟨y10,h⟩:=AA h
 simp(disch:=omega) only[vm,seval,h.1]
 refine⟨Cs h.1.1 tD fun n11 hn11=>?_⟩
 rcases AC h with h|h
 exact tJ (hk7 false ())
 rcases AC h with h|h
 exact tJ (hk7 true ())
 exact tJ (hk7 (decide ((AL xk5)>122)) ())
theorem BB {a0 a1 r}{i0:Nat} (h:Ad N a0 a1=some r) (ha:args=[.ptr i0 0,.str a1]) (hi0:Bo m i0=some ([H7 i0 196 2 a0.addr,.buf 5 a0.buf true])) (hQ: ∀n',n≤n'→Gl (Q (.tuple [.int .i64 r.1,.nilIface]) ⟨CJ m i0 ([H7 i0 196 2 r.2.2.addr,.buf 5 r.2.2.buf true]),n'⟩)):ACall vE 169 args ⟨m,n⟩ Q:=by
 rw[Ad]at h
 subst ha
 refine ACall.front hi0 fun hin=>ent (fun n' k=>⟨_,rfl,(hQ n' k).go⟩) Tryz.func169 rfl Tryz.ntmps169 Tryz.results169 (.q (.r []) (.q (.r []) (.q (.r [12]) (.q (.r []) .z)))) fun R hR=>?_
 replace h:=And.intro trivial h
 obtain⟨y1,h⟩:=AA h
 simp(disch:=omega) only[vm,seval,h.1]
 refine⟨Kb h.1.1 tD (i0:=i0) (by simp(disch:=omega) only[vm,seval,h.1]) fun n2 hn2=>?_⟩
 obtain⟨c,h⟩:=AR h
 try simp only[liE,seval]at c
 replace h:=AP c h
 exact tR
theorem Oo {a0 a1 r} (h:strings_HasSuffix N a0 a1=some r) (ha:args=[.str a0,.str a1]) (hQ: ∀n',n≤n'→Gl (Q (.bool r) ⟨m,n'⟩)):ACall vE 153 args ⟨m,n⟩ Q:=by
 rw[strings_HasSuffix]at h
 subst ha
 refine ent hQ Tryz.func153 rfl Tryz.ntmps153 Tryz.results153 (.q (.r []) (.q (.r []) .z)) fun R hR=>?_
 replace h:=And.intro trivial h
 obtain⟨y1,h⟩:=AA h
 simp(disch:=omega) only[vm,seval,h.1]
 refine⟨JO h.1.1 tD fun n2 hn2=>?_⟩
 exact tR
theorem NC {a0 r} (h:FW N a0=some r) (ha:args=[.int .i64 a0]) (hQ: ∀n',n≤n'→Gl (Q (.str r) ⟨m,n'⟩)):ACall vE 124 args ⟨m,n⟩ Q:=by
 rw[FW]at h
 subst ha
 refine ent hQ Tryz.func124 rfl Tryz.ntmps124 Tryz.results124 (.q (.r []) (.q (.q (.r []) (.c (.q (.r []) .z) .z)) (.q (.r []) .z))) fun R hR=>?_
 replace h:=And.intro trivial h
 rcases AC h with h|h
 obtain⟨y1,h⟩:=AA h
 simp(disch:=omega) only[vm,seval,h.1]
 refine⟨Nw h.1.1 tD fun n2 hn2=>?_⟩
 obtain⟨c,h⟩:=AR h
 try simp only[liE,seval]at c
 replace h:=AP c h
 exact tR
 obtain⟨y3,h⟩:=AA h
 simp(disch:=omega) only[vm,seval,h.1]
 refine⟨Nw h.1.1 tD fun n4 hn4=>?_⟩
 exact tR
theorem Cq {a0 a1 r} (h:BX N a0 a1=some r) (ha:args=[.str a0,.str a1]) (hQ: ∀n',n≤n'→Gl (Q (.int .i64 r) ⟨m,n'⟩)):ACall vE 41 args ⟨m,n⟩ Q:=by
 rw[BX]at h
 subst ha
 refine ent hQ Tryz.func41 rfl Tryz.ntmps41 Tryz.results41 (.q (.r []) .z) fun R hR=>?_
 replace h:=And.intro trivial h
 simp(disch:=omega) only[vm,seval,h.1]
 refine⟨AQ (γ:=Unit) h [4,5,6,7,8,9,10,11,12,13,14,15,16,17] [] (fun j1 g=>[]) (fun j1 g=>m) (.q (.r []) .z) ?_ ?_⟩<;>clear h
 rintro j1 _ n4 hnn4 _ _ h
 refine AB (.q (.r []) .z) ?_
 exact tR
 intro k2 Jk2 hk2 h
 obtain⟨hfk5,h⟩:=AR h
 simp(disch:=omega) only[vm,seval,h.1]
 refine⟨BM (σ:=Unit) (γ:=Unit) a0 hfk5 (fun xs i s=>DR N a1 k2 xs i) (fun i s g=>[.int .i64 i]) (fun i s g=>m) [4,6,7,8,9,10,11,12,13,14,15,16,17] [5] () () h tD tD ?_ ?_⟩<;>clear h
 rintro s5 _ _ nL0_1 hnL0_1 _ h
 change _∧DR N a1 k2 [] s5=_ at h
 rw[DR]at h
 refine AB (.q (.q (.r []) (.c .z .z)) (.q (.q (.r []) (.c (.q (.r []) .z) .z)) (.r []))) ?_
 exact tJ (hk2 () ())
 rintro xk5 xsk5 s5 _ _ nL0_1 hnL0_1 _ h Jk5 hk5
 change _∧DR N a1 k2 (xk5::xsk5) s5=_ at h
 rw[DR]at h
 refine AB (.q (.q (.r []) (.c .z .z)) (.q (.q (.r []) (.c (.q (.r []) .z) .z)) (.r []))) ?_
 obtain⟨y6,h⟩:=AA h
 simp(disch:=omega) only[vm,seval,h.1]
 refine⟨Gz h.1.1 tD fun n7 hn7=>?_⟩
 rcases AC h with h|h
 exact tR
 exact tJ (hk5 () ())
theorem Lp {a0 a1 r} (h:Gy N a0 a1=some r) (ha:args=[.str a0,.str a1]) (hQ: ∀n',n≤n'→Gl (Q (.bool r) ⟨m,n'⟩)):ACall vE 125 args ⟨m,n⟩ Q:=by
 rw[Gy]at h
 subst ha
 refine ent hQ Tryz.func125 rfl Tryz.ntmps125 Tryz.results125 (.q (.r []) (.q (.r []) .z)) fun R hR=>?_
 replace h:=And.intro trivial h
 obtain⟨y1,h⟩:=AA h
 simp(disch:=omega) only[vm,seval,h.1]
 refine⟨Jy h.1.1 tD fun n2 hn2=>?_⟩
 obtain⟨y3,h⟩:=AA h
 simp(disch:=omega) only[vm,seval,h.1]
 refine⟨Jy h.1.1 tD fun n4 hn4=>?_⟩
 exact tR
theorem Eb {a0 r} (h:CO N a0=some r) (ha:args=[.int .u8 a0]) (hQ: ∀n',n≤n'→Gl (Q (.bool r) ⟨m,n'⟩)):ACall vE 84 args ⟨m,n⟩ Q:=by
 rw[CO]at h
 subst ha
 refine ent hQ Tryz.func84 rfl Tryz.ntmps84 Tryz.results84 (.q (.r []) (.q (.r []) .z)) fun R hR=>?_
 replace h:=And.intro trivial h
 obtain⟨y1,h⟩:=AA h
 simp(disch:=omega) only[vm,seval,h.1]
 refine⟨GJ h.1.1 tD fun n2 hn2=>?_⟩
 rcases AC h with h|h
 exact tR
 obtain⟨y3,h⟩:=AA h
 simp(disch:=omega) only[vm,seval,h.1]
 refine⟨Dh h.1.1 tD fun n4 hn4=>?_⟩
 rcases AC h with h|h
 exact tR
 obtain⟨y5,h⟩:=AA h
 simp(disch:=omega) only[vm,seval,h.1]
 refine⟨Gz h.1.1 tD fun n6 hn6=>?_⟩
 exact tR
theorem Jt {a0 r} (h:F7 N a0=some r) (ha:args=[.int .u8 a0]) (hQ: ∀n',n≤n'→Gl (Q (.bool r) ⟨m,n'⟩)):ACall vE 141 args ⟨m,n⟩ Q:=by
 rw[F7]at h
 subst ha
 refine ent hQ Tryz.func141 rfl Tryz.ntmps141 Tryz.results141 (.q (.r []) (.q (.r []) .z)) fun R hR=>?_
 replace h:=And.intro trivial h
 obtain⟨y1,h⟩:=AA h
 simp(disch:=omega) only[vm,seval,h.1]
 refine⟨Dh h.1.1 tD fun n2 hn2=>?_⟩
 rcases AC h with h|h
 exact tR
 rcases AC h with h|h
 rcases AC h with h|h
 exact tR
 rcases AC h with h|h
 exact tR
 exact tR
 rcases AC h with h|h
 exact tR
 exact tR
theorem Un {a0 r} (h:J8 N a0=some r) (ha:args=[.str a0]) (hQ: ∀n',n≤n'→Gl (Q (.bool r) ⟨m,n'⟩)):ACall vE 225 args ⟨m,n⟩ Q:=by
 rw[J8]at h
 subst ha
 refine ent hQ Tryz.func225 rfl Tryz.ntmps225 Tryz.results225 (.q (.r []) .z) fun R hR=>?_
 replace h:=And.intro trivial h
 simp(disch:=omega) only[vm,seval,h.1]
 refine⟨AQ (γ:=Unit) h [2,3,4,5,6,7,8,9,10,11,12,13,14,15,16,17,18,19,20,21,22,23,24,25,26,27] [] (fun j1 g=>[]) (fun j1 g=>m) (.q (.r []) .z) ?_ ?_⟩<;>clear h
 rintro j1 _ n4 hnn4 _ _ h
 refine AB (.q (.r []) .z) ?_
 rcases AC h with h|h
 exact tR
 rcases AC h with h|h
 obtain⟨x14,h⟩:=AA h
 rcases AC h with h|h
 obtain⟨x15,h⟩:=AA h
 exact tR
 exact tR
 exact tR
 intro k2 Jk2 hk2 h
 obtain⟨hfk5,h⟩:=AR h
 simp(disch:=omega) only[vm,seval,h.1]
 refine⟨BM (σ:=Unit) (γ:=Unit) a0 hfk5 (fun xs i s=>DV N k2 xs) (fun i s g=>[.int .i64 i]) (fun i s g=>m) [2,4,5,6,7,8,9,10,11,12,13,14,15,16,17,18,19,20,21,22,23,24,25,26,27] [3] () () h tD tD ?_ ?_⟩<;>clear h
 rintro s3 _ _ nL0_1 hnL0_1 _ h
 change _∧DV N k2 []=_ at h
 rw[DV]at h
 refine AB (.q (.q (.r []) (.c .z .z)) (.q .z (.r []))) ?_
 exact tJ (hk2 () ())
 rintro xk5 xsk5 s3 _ _ nL0_1 hnL0_1 _ h Jk5 hk5
 change _∧DV N k2 (xk5::xsk5)=_ at h
 rw[DV]at h
 refine AB (.q (.q (.r []) (.c .z .z)) (.q .z (.r []))) ?_
 simp(disch:=omega) only[vm,seval,h.1]
 refine⟨AQ (γ:=Unit) h [10,11,12,13,14,15,16,17,18,19,20,21,22,23,24,25,26] [27] (fun j6 g=>[.bool j6]) (fun j6 g=>m) (.r []) ?_ ?_⟩<;>clear h
 rintro j6 _ n9 hnn9 _ _ h
 refine AB (.c (.q (.r []) .z) .z) ?_
 rcases AC h with h|h
 exact tR
 exact tJ (hk5 () ())
 intro k7 Jk7 hk7 h
 obtain⟨y10,h⟩:=AA h
 simp(disch:=omega) only[vm,seval,h.1]
 refine⟨GJ h.1.1 tD fun n11 hn11=>?_⟩
 rcases AC h with h|h
 exact tJ (hk7 false ())
 obtain⟨y12,h⟩:=AA h
 simp(disch:=omega) only[vm,seval,h.1]
 refine⟨Dh h.1.1 tD fun n13 hn13=>?_⟩
 rcases AC h with h|h
 exact tJ (hk7 false ())
 exact tJ (hk7 ((AL xk5) !=45) ())
theorem Sa {a0 r} (h:I7 N a0=some r) (ha:args=[.str a0]) (hQ: ∀n',n≤n'→Gl (Q (.bool r) ⟨m,n'⟩)):ACall vE 226 args ⟨m,n⟩ Q:=by
 rw[I7]at h
 subst ha
 refine ent hQ Tryz.func226 rfl Tryz.ntmps226 Tryz.results226 (.q (.r []) .z) fun R hR=>?_
 replace h:=And.intro trivial h
 simp(disch:=omega) only[vm,seval,h.1]
 refine⟨AQ (γ:=Unit) h [2,3,4,5,6,7,8,9,10,11,12,13,14] [] (fun j1 g=>[]) (fun j1 g=>m) (.q (.r []) .z) ?_ ?_⟩<;>clear h
 rintro j1 _ n4 hnn4 _ _ h
 refine AB (.q (.r []) .z) ?_
 exact tR
 intro k2 Jk2 hk2 h
 obtain⟨hfk5,h⟩:=AR h
 simp(disch:=omega) only[vm,seval,h.1]
 refine⟨BM (σ:=Unit) (γ:=Unit) a0 hfk5 (fun xs i s=>Cr N k2 xs) (fun i s g=>[.int .i64 i]) (fun i s g=>m) [2,4,5,6,7,8,9,10,11,12,13,14] [3] () () h tD tD ?_ ?_⟩<;>clear h
 rintro s3 _ _ nL0_1 hnL0_1 _ h
 change _∧Cr N k2 []=_ at h
 rw[Cr]at h
 refine AB (.q (.q (.r []) (.c .z .z)) (.q (.q (.r []) (.c (.q (.r []) .z) .z)) (.r []))) ?_
 exact tJ (hk2 () ())
 rintro xk5 xsk5 s3 _ _ nL0_1 hnL0_1 _ h Jk5 hk5
 change _∧Cr N k2 (xk5::xsk5)=_ at h
 rw[Cr]at h
 refine AB (.q (.q (.r []) (.c .z .z)) (.q (.q (.r []) (.c (.q (.r []) .z) .z)) (.r []))) ?_
 obtain⟨y6,h⟩:=AA h
 simp(disch:=omega) only[vm,seval,h.1]
 refine⟨Dh h.1.1 tD fun n7 hn7=>?_⟩
 rcases AC h with h|h
 exact tJ (hk5 () ())
 exact tR
theorem ABJ {a0 r} (h:LF N a0=some r) (ha:args=[.int .u8 a0]) (hQ: ∀n',n≤n'→Gl (Q (.bool r) ⟨m,n'⟩)):ACall vE 186 args ⟨m,n⟩ Q:=by
 rw[LF]at h
 subst ha
 refine ent hQ Tryz.func186 rfl Tryz.ntmps186 Tryz.results186 (.q (.r []) (.q (.r []) .z)) fun R hR=>?_
 replace h:=And.intro trivial h
 obtain⟨y1,h⟩:=AA h
 simp(disch:=omega) only[vm,seval,h.1]
 refine⟨GJ h.1.1 tD fun n2 hn2=>?_⟩
 rcases AC h with h|h
 exact tR
 obtain⟨y3,h⟩:=AA h
 simp(disch:=omega) only[vm,seval,h.1]
 refine⟨Dh h.1.1 tD fun n4 hn4=>?_⟩
 rcases AC h with h|h
 exact tR
 obtain⟨y5,h⟩:=AA h
 simp(disch:=omega) only[vm,seval,h.1]
 refine⟨Gz h.1.1 tD fun n6 hn6=>?_⟩
 exact tR
end Go.Proofs.YtjgdhjpafjpjgaaGreatDoor
