import Derived.Test.YtjgdhjpafjpjgaaGreatDoorVmFacts
import Derived.Test.YtjgdhjpafjpjgaaGreatDoorDefs
import Derived.Test.YtjgdhjpafjpjgaaGreatDoorVM2
import Derived.Test.YtjgdhjpafjpjgaaGreatDoorW0
set_option linter.unusedVariables false
set_option linter.unusedSimpArgs false
set_option maxHeartbeats 4000000
set_option maxRecDepth 100000
set_option linter.defProp false
namespace Go.Proofs.YtjgdhjpafjpjgaaGreatDoor
open Go.VM
variable{N n:Nat}{m:MS}{Q:PQ}{args:List AVal}
theorem F8 {a0 a1 r} (h:Bn N a0 a1=some r) (ha:args=[.str a0,.str a1]) (hQ: ∀n',n≤n'→Gl (Q (.int .i64 r) ⟨m,n'⟩)):ACall vE 138 args ⟨m,n⟩ Q:=by
 rw[Bn]at h
 subst ha
 refine ent hQ Tryz.func138 rfl Tryz.ntmps138 Tryz.results138 (.q (.r []) (.q (.r []) (.q .z (.q (.r []) (.q (.r []) (.q (.r []) (.q (.r []) (.q (.r []) .z)))))))) fun R hR=>?_
 replace h:=And.intro trivial h
 simp(disch:=omega) only[vm,seval,h.1]
 refine⟨AV (γ:=Unit) h [17,18,19,20,21,22,23] [16] (fun j1 g=>[.bool j1]) (fun j1 g=>m) (.r []) ?_ ?_⟩<;>clear h
 rintro j1 _ n4 hnn4 _ _ h
 refine AB (.c (.q (.r []) .z) (.q (.r []) (.c (.q (.r []) .z) (.q (.r []) (.c (.q (.r []) .z) (.q (.r []) (.c (.q (.r []) .z) .z))))))) ?_
 replace h:=AC h
 rcases h with h|h
 obtain⟨H,h⟩:=h
 cases h
 simp(disch:=omega) only[vm,seval,H]
 refine⟨(hR _ _ _ _ _ _ (by simp(disch:=omega) only[vm,seval,H];rfl) slr ?_ (by omega) ?_).1⟩<;>first|(simp(disch:=omega) only[vm,seval,H];done)|rfl
 replace h:=AC h
 rcases h with h|h
 replace h:=AA h
 obtain⟨x5,h⟩:=h
 replace h:=AA h
 obtain⟨y6,h⟩:=h
 simp(disch:=omega) only[vm,seval,h.1]
 refine⟨Ex h.1.1 (by first|(simp(disch:=omega) only[vm,seval,h.1];done)|rfl) fun n7 hn7=>?_⟩
 obtain⟨H,h⟩:=h
 cases h
 simp(disch:=omega) only[vm,seval,H]
 refine⟨(hR _ _ _ _ _ _ (by simp(disch:=omega) only[vm,seval,H];rfl) slr ?_ (by omega) ?_).1⟩<;>first|(simp(disch:=omega) only[vm,seval,H];done)|rfl
 replace h:=AC h
 rcases h with h|h
 obtain⟨H,h⟩:=h
 cases h
 simp(disch:=omega) only[vm,seval,H]
 refine⟨(hR _ _ _ _ _ _ (by simp(disch:=omega) only[vm,seval,H];rfl) slr ?_ (by omega) ?_).1⟩<;>first|(simp(disch:=omega) only[vm,seval,H];done)|rfl
 cases h.2
 intro k2 Jk2 hk2 h
 replace h:=AC h
 rcases h with h|h
 simp(disch:=omega) only[vm,seval,h.1]
 refine⟨hk2 true () _ _ _ _ h.2 slr ?_ ?_ ?_ (by omega)⟩<;>first|(simp(disch:=omega) only[vm,seval,h.1];done)|rfl
 simp(disch:=omega) only[vm,seval,h.1]
 refine⟨hk2 (a1==a0) () _ _ _ _ h.2 slr ?_ ?_ ?_ (by omega)⟩<;>first|(simp(disch:=omega) only[vm,seval,h.1];done)|rfl
theorem Ui {a0 r} (h:NA N a0=some r) (ha:args=[.int .u8 a0]) (hQ: ∀n',n≤n'→Gl (Q (.bool r) ⟨m,n'⟩)):ACall vE 132 args ⟨m,n⟩ Q:=by
 rw[NA]at h
 subst ha
 refine ent hQ Tryz.func132 rfl Tryz.ntmps132 Tryz.results132 (.q (.r []) (.q (.r []) .z)) fun R hR=>?_
 replace h:=And.intro trivial h
 replace h:=AA h
 obtain⟨y1,h⟩:=h
 simp(disch:=omega) only[vm,seval,h.1]
 refine⟨Hz h.1.1 (by first|(simp(disch:=omega) only[vm,seval,h.1];done)|rfl) fun n2 hn2=>?_⟩
 replace h:=AC h
 rcases h with h|h
 obtain⟨H,h⟩:=h
 cases h
 simp(disch:=omega) only[vm,seval,H]
 refine⟨(hR _ _ _ _ _ _ (by simp(disch:=omega) only[vm,seval,H];rfl) slr ?_ (by omega) ?_).1⟩<;>first|(simp(disch:=omega) only[vm,seval,H];done)|rfl
 replace h:=AA h
 obtain⟨y3,h⟩:=h
 simp(disch:=omega) only[vm,seval,h.1]
 refine⟨Cm h.1.1 (by first|(simp(disch:=omega) only[vm,seval,h.1];done)|rfl) fun n4 hn4=>?_⟩
 obtain⟨H,h⟩:=h
 cases h
 simp(disch:=omega) only[vm,seval,H]
 refine⟨(hR _ _ _ _ _ _ (by simp(disch:=omega) only[vm,seval,H];rfl) slr ?_ (by omega) ?_).1⟩<;>first|(simp(disch:=omega) only[vm,seval,H];done)|rfl
theorem Bj {a0 a1 r} (h:strings_IndexByte N a0 a1=some r) (ha:args=[.str a0,.int .u8 a1]) (hQ: ∀n',n≤n'→Gl (Q (.int .i64 r) ⟨m,n'⟩)):ACall vE 78 args ⟨m,n⟩ Q:=by
 rw[strings_IndexByte]at h
 subst ha
 refine ent hQ Tryz.func78 rfl Tryz.ntmps78 Tryz.results78 (.q (.r []) (.q (.r []) .z)) fun R hR=>?_
 replace h:=And.intro trivial h
 replace h:=AA h
 obtain⟨y1,h⟩:=h
 simp(disch:=omega) only[vm,seval,h.1]
 refine⟨Ex h.1.1 (by first|(simp(disch:=omega) only[vm,seval,h.1];done)|rfl) fun n2 hn2=>?_⟩
 obtain⟨H,h⟩:=h
 cases h
 simp(disch:=omega) only[vm,seval,H]
 refine⟨(hR _ _ _ _ _ _ (by simp(disch:=omega) only[vm,seval,H];rfl) slr ?_ (by omega) ?_).1⟩<;>first|(simp(disch:=omega) only[vm,seval,H];done)|rfl
theorem Oe {a0 r} (h:IX N a0=some r) (ha:args=[.int .u8 a0]) (hQ: ∀n',n≤n'→Gl (Q (.bool r) ⟨m,n'⟩)):ACall vE 139 args ⟨m,n⟩ Q:=by
 rw[IX]at h
 subst ha
 refine ent hQ Tryz.func139 rfl Tryz.ntmps139 Tryz.results139 (.q (.r []) (.q (.r []) .z)) fun R hR=>?_
 replace h:=And.intro trivial h
 replace h:=AA h
 obtain⟨y1,h⟩:=h
 simp(disch:=omega) only[vm,seval,h.1]
 refine⟨Cm h.1.1 (by first|(simp(disch:=omega) only[vm,seval,h.1];done)|rfl) fun n2 hn2=>?_⟩
 replace h:=AC h
 rcases h with h|h
 obtain⟨H,h⟩:=h
 cases h
 simp(disch:=omega) only[vm,seval,H]
 refine⟨(hR _ _ _ _ _ _ (by simp(disch:=omega) only[vm,seval,H];rfl) slr ?_ (by omega) ?_).1⟩<;>first|(simp(disch:=omega) only[vm,seval,H];done)|rfl
 replace h:=AC h
 rcases h with h|h
 obtain⟨H,h⟩:=h
 cases h
 simp(disch:=omega) only[vm,seval,H]
 refine⟨(hR _ _ _ _ _ _ (by simp(disch:=omega) only[vm,seval,H];rfl) slr ?_ (by omega) ?_).1⟩<;>first|(simp(disch:=omega) only[vm,seval,H];done)|rfl
 obtain⟨H,h⟩:=h
 cases h
 simp(disch:=omega) only[vm,seval,H]
 refine⟨(hR _ _ _ _ _ _ (by simp(disch:=omega) only[vm,seval,H];rfl) slr ?_ (by omega) ?_).1⟩<;>first|(simp(disch:=omega) only[vm,seval,H];done)|rfl
theorem Mr {a0 r} (h:GG N a0=some r) (ha:args=[.int .u8 a0]) (hQ: ∀n',n≤n'→Gl (Q (.int .u8 r) ⟨m,n'⟩)):ACall vE 140 args ⟨m,n⟩ Q:=by
 rw[GG]at h
 subst ha
 refine ent hQ Tryz.func140 rfl Tryz.ntmps140 Tryz.results140 (.q (.r []) (.q (.q (.r []) (.c (.q (.r []) .z) .z)) (.q (.r []) .z))) fun R hR=>?_
 replace h:=And.intro trivial h
 replace h:=AA h
 obtain⟨y1,h⟩:=h
 simp(disch:=omega) only[vm,seval,h.1]
 refine⟨Cm h.1.1 (by first|(simp(disch:=omega) only[vm,seval,h.1];done)|rfl) fun n2 hn2=>?_⟩
 replace h:=AC h
 rcases h with h|h
 obtain⟨H,h⟩:=h
 cases h
 simp(disch:=omega) only[vm,seval,H]
 refine⟨(hR _ _ _ _ _ _ (by simp(disch:=omega) only[vm,seval,H];rfl) slr ?_ (by omega) ?_).1⟩<;>first|(simp(disch:=omega) only[vm,seval,H];done)|rfl
 obtain⟨H,h⟩:=h
 cases h
 simp(disch:=omega) only[vm,seval,H]
 refine⟨(hR _ _ _ _ _ _ (by simp(disch:=omega) only[vm,seval,H];rfl) slr ?_ (by omega) ?_).1⟩<;>first|(simp(disch:=omega) only[vm,seval,H];done)|rfl
theorem J5 {a0 r} (h:Dx N a0=some r) (ha:args=[.str a0,.fn (.func 192) [] []]) (hQ: ∀n',n≤n'→Gl (Q (.bool r) ⟨m,n'⟩)):ACall vE 252 args ⟨m,n⟩ Q:=by
 rw[Dx]at h
 subst ha
 refine ent hQ Tryz.func252 rfl Tryz.ntmps252 Tryz.results252 (.q (.r []) .z) fun R hR=>?_
 replace h:=And.intro trivial h
 simp(disch:=omega) only[vm,seval,h.1]
 refine⟨AV (γ:=Unit) h [4,5,6,7,8,9,10,11,12,13,14,15,16,17] [] (fun j1 g=>[]) (fun j1 g=>m) (.q (.r []) .z) ?_ ?_⟩<;>clear h
 rintro j1 _ n4 hnn4 _ _ h
 refine AB (.q (.r []) .z) ?_
 obtain⟨H,h⟩:=h
 cases h
 simp(disch:=omega) only[vm,seval,H]
 refine⟨(hR _ _ _ _ _ _ (by simp(disch:=omega) only[vm,seval,H];rfl) slr ?_ (by omega) ?_).1⟩<;>first|(simp(disch:=omega) only[vm,seval,H];done)|rfl
 intro k2 Jk2 hk2 h
 replace h:=AR h
 obtain⟨hfk5,h⟩:=h
 simp(disch:=omega) only[vm,seval,h.1]
 refine⟨CB (σ:=Unit) (γ:=Unit) a0 hfk5 (fun xs i s=>Ap N k2 xs) (fun i s g=>[.int .i64 i]) (fun i s g=>m) [4,5,9,10,11,12,13,14,15,16,17] [8] () () h (by first|(simp(disch:=omega) only[vm,seval,h.1];done)|rfl) (by first|(simp(disch:=omega) only[vm,seval,h.1];done)|rfl) ?_ ?_⟩<;>clear h
 rintro s8 _ _ nL0_1 hnL0_1 _ h
 change _∧Ap N k2 []=_ at h
 rw[Ap]at h
 refine AB (.q (.r []) (.q (.c .z .z) (.q (.q (.r []) (.q (.r []) (.c (.q (.r []) .z) .z))) (.r [])))) ?_
 simp(disch:=omega) only[vm,seval,h.1]
 refine⟨hk2 () () _ _ _ _ h.2 slr ?_ ?_ ?_ (by omega)⟩<;>first|(simp(disch:=omega) only[vm,seval,h.1];done)|rfl
 rintro xk5 xsk5 s8 _ _ nL0_1 hnL0_1 _ h Jk5 hk5
 change _∧Ap N k2 (xk5::xsk5)=_ at h
 rw[Ap]at h
 refine AB (.q (.r []) (.q (.c .z .z) (.q (.q (.r []) (.q (.r []) (.c (.q (.r []) .z) .z))) (.r [])))) ?_
 replace h:=AA h
 obtain⟨y6,h⟩:=h
 simp(disch:=omega) only[vm,seval,h.1]
 refine⟨Cm h.1.1 (by first|(simp(disch:=omega) only[vm,seval,h.1];done)|rfl) fun n7 hn7=>?_⟩
 replace h:=AC h
 rcases h with h|h
 simp(disch:=omega) only[vm,seval,h.1]
 refine⟨hk5 () () _ _ _ _ h.2 slr ?_ ?_ ?_ (by omega)⟩<;>first|(simp(disch:=omega) only[vm,seval,h.1];done)|rfl
 obtain⟨H,h⟩:=h
 cases h
 simp(disch:=omega) only[vm,seval,H]
 refine⟨(hR _ _ _ _ _ _ (by simp(disch:=omega) only[vm,seval,H];rfl) slr ?_ (by omega) ?_).1⟩<;>first|(simp(disch:=omega) only[vm,seval,H];done)|rfl
theorem TY {a0 r} (h:Ip N a0=some r) (ha:args=[.int .u8 a0]) (hQ: ∀n',n≤n'→Gl (Q (.int .u64 r) ⟨m,n'⟩)):ACall vE 264 args ⟨m,n⟩ Q:=by
 rw[Ip]at h
 subst ha
 refine ent hQ Tryz.func264 rfl Tryz.ntmps264 Tryz.results264 (.q (.r []) (.q (.q (.r []) (.c (.q (.r []) .z) .z)) (.q (.r []) .z))) fun R hR=>?_
 replace h:=And.intro trivial h
 replace h:=AA h
 obtain⟨y1,h⟩:=h
 simp(disch:=omega) only[vm,seval,h.1]
 refine⟨Cm h.1.1 (by first|(simp(disch:=omega) only[vm,seval,h.1];done)|rfl) fun n2 hn2=>?_⟩
 replace h:=AC h
 rcases h with h|h
 obtain⟨H,h⟩:=h
 cases h
 simp(disch:=omega) only[vm,seval,H]
 refine⟨(hR _ _ _ _ _ _ (by simp(disch:=omega) only[vm,seval,H];rfl) slr ?_ (by omega) ?_).1⟩<;>first|(simp(disch:=omega) only[vm,seval,H];done)|rfl
 obtain⟨H,h⟩:=h
 cases h
 simp(disch:=omega) only[vm,seval,H]
 refine⟨(hR _ _ _ _ _ _ (by simp(disch:=omega) only[vm,seval,H];rfl) slr ?_ (by omega) ?_).1⟩<;>first|(simp(disch:=omega) only[vm,seval,H];done)|rfl
theorem Eo {a0 r} (h:Cc N a0=some r) (ha:args=[.str a0]) (hQ: ∀n',n≤n'→Gl (Q (.tuple [.int .i32 r.1,.int .i64 r.2]) ⟨m,n'⟩)):ACall vE 250 args ⟨m,n⟩ Q:=by
 rw[Cc]at h
 subst ha
 refine ent hQ Tryz.func250 rfl Tryz.ntmps250 Tryz.results250 (.q (.r []) (.q .z .z)) fun R hR=>?_
 replace h:=And.intro trivial h
 simp(disch:=omega) only[vm,seval,h.1]
 refine⟨AV (γ:=Unit) h [4,5,6,7,8,9] [10] (fun j1 g=>[.bool j1]) (fun j1 g=>m) (.r []) ?_ ?_⟩<;>clear h
 rintro j1 _ n4 hnn4 _ _ h
 refine AB (.c (.q (.r []) .z) (.r [])) ?_
 replace h:=AC h
 rcases h with h|h
 replace h:=AA h
 obtain⟨x6,h⟩:=h
 obtain⟨H,h⟩:=h
 cases h
 simp(disch:=omega) only[vm,seval,H]
 refine⟨(hR _ _ _ _ _ _ (by simp(disch:=omega) only[vm,seval,H];rfl) slr ?_ (by omega) ?_).1⟩<;>first|(simp(disch:=omega) only[vm,seval,H];done)|rfl
 replace h:=AA h
 obtain⟨y7,h⟩:=h
 simp(disch:=omega) only[vm,seval,h.1]
 refine⟨G5 h.1.1 (by first|(simp(disch:=omega) only[vm,seval,h.1];done)|rfl) fun n8 hn8=>?_⟩
 obtain⟨H,h⟩:=h
 cases h
 simp(disch:=omega) only[vm,seval,H]
 refine⟨(hR _ _ _ _ _ _ (by simp(disch:=omega) only[vm,seval,H];rfl) slr ?_ (by omega) ?_).1⟩<;>first|(simp(disch:=omega) only[vm,seval,H];done)|rfl
 intro k2 Jk2 hk2 h
 replace h:=AC h
 rcases h with h|h
 simp(disch:=omega) only[vm,seval,h.1]
 refine⟨hk2 false () _ _ _ _ h.2 slr ?_ ?_ ?_ (by omega)⟩<;>first|(simp(disch:=omega) only[vm,seval,h.1];done)|rfl
 replace h:=AA h
 obtain⟨x5,h⟩:=h
 simp(disch:=omega) only[vm,seval,h.1]
 refine⟨hk2 (decide ((AJ x5)<128)) () _ _ _ _ h.2 slr ?_ ?_ ?_ (by omega)⟩<;>first|(simp(disch:=omega) only[vm,seval,h.1];done)|rfl
theorem Vq {a0 r} (h:Kr N a0=some r) (ha:args=[.str a0]) (hQ: ∀n',n≤n'→Gl (Q (.bool r) ⟨m,n'⟩)):ACall vE 235 args ⟨m,n⟩ Q:=by
 rw[Kr]at h
 subst ha
 refine ent hQ Tryz.func235 rfl Tryz.ntmps235 Tryz.results235 (.q (.r []) (.q .z .z)) fun R hR=>?_
 replace h:=And.intro trivial h
 simp(disch:=omega) only[vm,seval,h.1]
 refine⟨AV (γ:=Unit) h [4,5,6,7,8,9,10,11,12,13,14,15,16,17,18,19,20,21,22] [23] (fun j1 g=>[.bool j1]) (fun j1 g=>m) (.r []) ?_ ?_⟩<;>clear h
 rintro j1 _ n4 hnn4 _ _ h
 refine AB (.c (.q (.r []) .z) .z) ?_
 replace h:=AC h
 rcases h with h|h
 obtain⟨H,h⟩:=h
 cases h
 simp(disch:=omega) only[vm,seval,H]
 refine⟨(hR _ _ _ _ _ _ (by simp(disch:=omega) only[vm,seval,H];rfl) slr ?_ (by omega) ?_).1⟩<;>first|(simp(disch:=omega) only[vm,seval,H];done)|rfl
 simp(disch:=omega) only[vm,seval,h.1]
 refine⟨AV (γ:=Unit) h [2,3,24,25,26,27,28,29,30,31,32,33,34,35,36,37,38,39,40,41,42,43,44,45,46,47] [] (fun j7 g=>[]) (fun j7 g=>m) (.q (.r []) .z) ?_ ?_⟩<;>clear h
 rintro j7 _ n10 hnn10 _ _ h
 refine AB (.q (.r []) .z) ?_
 obtain⟨H,h⟩:=h
 cases h
 simp(disch:=omega) only[vm,seval,H]
 refine⟨(hR _ _ _ _ _ _ (by simp(disch:=omega) only[vm,seval,H];rfl) slr ?_ (by omega) ?_).1⟩<;>first|(simp(disch:=omega) only[vm,seval,H];done)|rfl
 intro k8 Jk8 hk8 h
 replace h:=AR h
 obtain⟨hfk11,h⟩:=h
 simp(disch:=omega) only[vm,seval,h.1]
 refine⟨CB (σ:=Unit) (γ:=Unit) a0 hfk11 (fun xs i s=>Dq N k8 xs) (fun i s g=>[.int .i64 i]) (fun i s g=>m) [2,3,27,28,29,30,31,32,33,34,35,36,37,38,39,40,41,42,43,44,45,46,47] [26] () () h (by first|(simp(disch:=omega) only[vm,seval,h.1];done)|rfl) (by first|(simp(disch:=omega) only[vm,seval,h.1];done)|rfl) ?_ ?_⟩<;>clear h
 rintro s26 _ _ nL0_1 hnL0_1 _ h
 change _∧Dq N k8 []=_ at h
 rw[Dq]at h
 refine AB (.q (.r []) (.q (.c .z .z) (.q (.q (.r []) .z) (.r [])))) ?_
 simp(disch:=omega) only[vm,seval,h.1]
 refine⟨hk8 () () _ _ _ _ h.2 slr ?_ ?_ ?_ (by omega)⟩<;>first|(simp(disch:=omega) only[vm,seval,h.1];done)|rfl
 rintro xk11 xsk11 s26 _ _ nL0_1 hnL0_1 _ h Jk11 hk11
 change _∧Dq N k8 (xk11::xsk11)=_ at h
 rw[Dq]at h
 refine AB (.q (.r []) (.q (.c .z .z) (.q (.q (.r []) .z) (.r [])))) ?_
 simp(disch:=omega) only[vm,seval,h.1]
 refine⟨AV (γ:=Unit) h [29,30,31,32,33,34,35,36,37,38,39,40,41,42,43,44,45] [46] (fun j12 g=>[.bool j12]) (fun j12 g=>m) (.r []) ?_ ?_⟩<;>clear h
 rintro j12 _ n15 hnn15 _ _ h
 refine AB (.c (.q (.r []) .z) .z) ?_
 replace h:=AC h
 rcases h with h|h
 obtain⟨H,h⟩:=h
 cases h
 simp(disch:=omega) only[vm,seval,H]
 refine⟨(hR _ _ _ _ _ _ (by simp(disch:=omega) only[vm,seval,H];rfl) slr ?_ (by omega) ?_).1⟩<;>first|(simp(disch:=omega) only[vm,seval,H];done)|rfl
 simp(disch:=omega) only[vm,seval,h.1]
 refine⟨hk11 () () _ _ _ _ h.2 slr ?_ ?_ ?_ (by omega)⟩<;>first|(simp(disch:=omega) only[vm,seval,h.1];done)|rfl
 intro k13 Jk13 hk13 h
 replace h:=AA h
 obtain⟨y16,h⟩:=h
 simp(disch:=omega) only[vm,seval,h.1]
 refine⟨Hz h.1.1 (by first|(simp(disch:=omega) only[vm,seval,h.1];done)|rfl) fun n17 hn17=>?_⟩
 replace h:=AC h
 rcases h with h|h
 simp(disch:=omega) only[vm,seval,h.1]
 refine⟨hk13 false () _ _ _ _ h.2 slr ?_ ?_ ?_ (by omega)⟩<;>first|(simp(disch:=omega) only[vm,seval,h.1];done)|rfl
 replace h:=AA h
 obtain⟨y18,h⟩:=h
 simp(disch:=omega) only[vm,seval,h.1]
 refine⟨Cm h.1.1 (by first|(simp(disch:=omega) only[vm,seval,h.1];done)|rfl) fun n19 hn19=>?_⟩
 replace h:=AC h
 rcases h with h|h
 simp(disch:=omega) only[vm,seval,h.1]
 refine⟨hk13 false () _ _ _ _ h.2 slr ?_ ?_ ?_ (by omega)⟩<;>first|(simp(disch:=omega) only[vm,seval,h.1];done)|rfl
 simp(disch:=omega) only[vm,seval,h.1]
 refine⟨hk13 ((AJ xk11) !=45) () _ _ _ _ h.2 slr ?_ ?_ ?_ (by omega)⟩<;>first|(simp(disch:=omega) only[vm,seval,h.1];done)|rfl
 intro k2 Jk2 hk2 h
 replace h:=AC h
 rcases h with h|h
 simp(disch:=omega) only[vm,seval,h.1]
 refine⟨hk2 true () _ _ _ _ h.2 slr ?_ ?_ ?_ (by omega)⟩<;>first|(simp(disch:=omega) only[vm,seval,h.1];done)|rfl
 replace h:=AC h
 rcases h with h|h
 simp(disch:=omega) only[vm,seval,h.1]
 refine⟨hk2 true () _ _ _ _ h.2 slr ?_ ?_ ?_ (by omega)⟩<;>first|(simp(disch:=omega) only[vm,seval,h.1];done)|rfl
 replace h:=AA h
 obtain⟨x5,h⟩:=h
 replace h:=AC h
 rcases h with h|h
 simp(disch:=omega) only[vm,seval,h.1]
 refine⟨hk2 true () _ _ _ _ h.2 slr ?_ ?_ ?_ (by omega)⟩<;>first|(simp(disch:=omega) only[vm,seval,h.1];done)|rfl
 replace h:=AA h
 obtain⟨x6,h⟩:=h
 simp(disch:=omega) only[vm,seval,h.1]
 refine⟨hk2 ((AJ x6)==45) () _ _ _ _ h.2 slr ?_ ?_ ?_ (by omega)⟩<;>first|(simp(disch:=omega) only[vm,seval,h.1];done)|rfl
theorem LU {a0 a1 r} (h:Ga N a0 a1=some r) (ha:args=[.str a0,.str a1]) (hQ: ∀n',n≤n'→Gl (Q (.bool r) ⟨m,n'⟩)):ACall vE 106 args ⟨m,n⟩ Q:=by
 rw[Ga]at h
 subst ha
 refine ent hQ Tryz.func106 rfl Tryz.ntmps106 Tryz.results106 (.q (.r []) (.q (.r []) .z)) fun R hR=>?_
 replace h:=And.intro trivial h
 replace h:=AA h
 obtain⟨y1,h⟩:=h
 simp(disch:=omega) only[vm,seval,h.1]
 refine⟨JZ h.1.1 (by first|(simp(disch:=omega) only[vm,seval,h.1];done)|rfl) fun n2 hn2=>?_⟩
 replace h:=AA h
 obtain⟨y3,h⟩:=h
 simp(disch:=omega) only[vm,seval,h.1]
 refine⟨JZ h.1.1 (by first|(simp(disch:=omega) only[vm,seval,h.1];done)|rfl) fun n4 hn4=>?_⟩
 obtain⟨H,h⟩:=h
 cases h
 simp(disch:=omega) only[vm,seval,H]
 refine⟨(hR _ _ _ _ _ _ (by simp(disch:=omega) only[vm,seval,H];rfl) slr ?_ (by omega) ?_).1⟩<;>first|(simp(disch:=omega) only[vm,seval,H];done)|rfl
theorem Ti {a0 r} (h:Jn N a0=some r) (ha:args=[DN a0]) (hQ: ∀n',n≤n'→Gl (Q (.str r) ⟨m,n'⟩)):ACall vE 80 args ⟨m,n⟩ Q:=by
 rw[Jn]at h
 subst ha
 refine ent hQ Tryz.func80 rfl Tryz.ntmps80 Tryz.results80 (.q (.r []) (.q (.q (.r []) (.c (.q (.r []) .z) (.q (.r []) (.c (.q .z .z) .z)))) (.q .z .z))) fun R hR=>?_
 replace h:=And.intro trivial h
 replace h:=AC h
 rcases h with h|h
 obtain⟨H,h⟩:=h
 cases h
 simp(disch:=omega) only[vm,seval,H]
 refine⟨(hR _ _ _ _ _ _ (by simp(disch:=omega) only[vm,seval,H];rfl) (.cons _ slr) ?_ (by omega) ?_).1⟩<;>first|(simp(disch:=omega) only[vm,seval,H];done)|rfl
 replace h:=AC h
 rcases h with h|h
 replace h:=AR h
 obtain⟨c,h⟩:=h
 try simp only[liE,seval]at c
 replace h:=AO c h
 replace h:=AA h
 obtain⟨y1,h⟩:=h
 have cy1:=h.1.1
 replace h:=AR h
 obtain⟨c,h⟩:=h
 try simp only[liE,seval]at c
 replace h:=AO c h
 simp(disch:=omega) only[vm,seval,h.1]
 refine⟨BM [] (.take 0 (.take 1 (.take 2 (.take 3 (.take 4 (.take 5 (.take 6 (.alt 7 [5,4,3,2,1,0] (.take 8 (.alt 9 [] (.done) (.stop))) (.stop))))))))) A8 (by kernel_rfl) ?_⟩
 simp(disch:=omega) only[vm,seval,h.1]
 refine⟨J6 cy1 (by first|(simp(disch:=omega) only[vm,seval,h.1];done)|rfl) fun n2 hn2=>?_⟩
 obtain⟨H,h⟩:=h
 cases h
 simp(disch:=omega) only[vm,seval,H]
 refine⟨(hR _ _ _ _ _ _ (by simp(disch:=omega) only[vm,seval,H];rfl) (.cons _ slr) ?_ (by omega) ?_).1⟩<;>first|(simp(disch:=omega) only[vm,seval,H];done)|rfl
 replace h:=AR h
 obtain⟨c,h⟩:=h
 try simp only[liE,seval]at c
 replace h:=AO c h
 replace h:=AA h
 obtain⟨y3,h⟩:=h
 have cy3:=h.1.1
 replace h:=AR h
 obtain⟨c,h⟩:=h
 try simp only[liE,seval]at c
 replace h:=AO c h
 simp(disch:=omega) only[vm,seval,h.1]
 refine⟨BM [] (.take 0 (.take 1 (.take 2 (.take 3 (.take 4 (.take 5 (.alt 6 [4,3,2,1,0] (.take 7 (.alt 8 [] (.done) (.stop))) (.stop)))))))) A8 (by kernel_rfl) ?_⟩
 simp(disch:=omega) only[vm,seval,h.1]
 refine⟨J6 cy3 (by first|(simp(disch:=omega) only[vm,seval,h.1];done)|rfl) fun n4 hn4=>?_⟩
 obtain⟨H,h⟩:=h
 cases h
 simp(disch:=omega) only[vm,seval,H]
 refine⟨(hR _ _ _ _ _ _ (by simp(disch:=omega) only[vm,seval,H];rfl) (.cons _ slr) ?_ (by omega) ?_).1⟩<;>first|(simp(disch:=omega) only[vm,seval,H];done)|rfl
theorem Ie {a0 a1 r} (h:Cq N a0 a1=some r) (ha:args=[.str a0,.str a1]) (hQ: ∀n',n≤n'→Gl (Q (.tuple [.str r.1,.bool r.2]) ⟨m,n'⟩)):ACall vE 200 args ⟨m,n⟩ Q:=by
 rw[Cq]at h
 subst ha
 refine ent hQ Tryz.func200 rfl Tryz.ntmps200 Tryz.results200 (.q (.r []) (.q (.q (.r []) (.c (.q (.r []) .z) .z)) (.q (.r []) .z))) fun R hR=>?_
 replace h:=And.intro trivial h
 replace h:=AA h
 obtain⟨y1,h⟩:=h
 simp(disch:=omega) only[vm,seval,h.1]
 refine⟨Dw h.1.1 (by first|(simp(disch:=omega) only[vm,seval,h.1];done)|rfl) fun n2 hn2=>?_⟩
 replace h:=AC h
 rcases h with h|h
 replace h:=AA h
 obtain⟨x3,h⟩:=h
 obtain⟨H,h⟩:=h
 cases h
 simp(disch:=omega) only[vm,seval,H]
 refine⟨(hR _ _ _ _ _ _ (by simp(disch:=omega) only[vm,seval,H];rfl) slr ?_ (by omega) ?_).1⟩<;>first|(simp(disch:=omega) only[vm,seval,H];done)|rfl
 obtain⟨H,h⟩:=h
 cases h
 simp(disch:=omega) only[vm,seval,H]
 refine⟨(hR _ _ _ _ _ _ (by simp(disch:=omega) only[vm,seval,H];rfl) slr ?_ (by omega) ?_).1⟩<;>first|(simp(disch:=omega) only[vm,seval,H];done)|rfl
theorem FI {a0 a1 r} (h:strings_HasPrefix N a0 a1=some r) (ha:args=[.str a0,.str a1]) (hQ: ∀n',n≤n'→Gl (Q (.bool r) ⟨m,n'⟩)):ACall vE 164 args ⟨m,n⟩ Q:=by
 rw[strings_HasPrefix]at h
 subst ha
 refine ent hQ Tryz.func164 rfl Tryz.ntmps164 Tryz.results164 (.q (.r []) (.q (.r []) .z)) fun R hR=>?_
 replace h:=And.intro trivial h
 replace h:=AA h
 obtain⟨y1,h⟩:=h
 simp(disch:=omega) only[vm,seval,h.1]
 refine⟨Dw h.1.1 (by first|(simp(disch:=omega) only[vm,seval,h.1];done)|rfl) fun n2 hn2=>?_⟩
 obtain⟨H,h⟩:=h
 cases h
 simp(disch:=omega) only[vm,seval,H]
 refine⟨(hR _ _ _ _ _ _ (by simp(disch:=omega) only[vm,seval,H];rfl) slr ?_ (by omega) ?_).1⟩<;>first|(simp(disch:=omega) only[vm,seval,H];done)|rfl
theorem Ia {a0 a1 r} (h:Cb N a0 a1=some r) (ha:args=[.str a0,.str a1]) (hQ: ∀n',n≤n'→Gl (Q (.str r) ⟨m,n'⟩)):ACall vE 212 args ⟨m,n⟩ Q:=by
 rw[Cb]at h
 subst ha
 refine ent hQ Tryz.func212 rfl Tryz.ntmps212 Tryz.results212 (.q (.r []) (.q (.q (.r []) (.c (.q (.r []) .z) .z)) (.q (.r []) .z))) fun R hR=>?_
 replace h:=And.intro trivial h
 replace h:=AA h
 obtain⟨y1,h⟩:=h
 simp(disch:=omega) only[vm,seval,h.1]
 refine⟨Dw h.1.1 (by first|(simp(disch:=omega) only[vm,seval,h.1];done)|rfl) fun n2 hn2=>?_⟩
 replace h:=AC h
 rcases h with h|h
 replace h:=AA h
 obtain⟨x3,h⟩:=h
 obtain⟨H,h⟩:=h
 cases h
 simp(disch:=omega) only[vm,seval,H]
 refine⟨(hR _ _ _ _ _ _ (by simp(disch:=omega) only[vm,seval,H];rfl) slr ?_ (by omega) ?_).1⟩<;>first|(simp(disch:=omega) only[vm,seval,H];done)|rfl
 obtain⟨H,h⟩:=h
 cases h
 simp(disch:=omega) only[vm,seval,H]
 refine⟨(hR _ _ _ _ _ _ (by simp(disch:=omega) only[vm,seval,H];rfl) slr ?_ (by omega) ?_).1⟩<;>first|(simp(disch:=omega) only[vm,seval,H];done)|rfl
theorem L8 {a0 a1 r} (h:strings_LastIndexByte N a0 a1=some r) (ha:args=[.str a0,.int .u8 a1]) (hQ: ∀n',n≤n'→Gl (Q (.int .i64 r) ⟨m,n'⟩)):ACall vE 166 args ⟨m,n⟩ Q:=by
 rw[strings_LastIndexByte]at h
 subst ha
 refine ent hQ Tryz.func166 rfl Tryz.ntmps166 Tryz.results166 (.q (.r []) (.q (.r []) .z)) fun R hR=>?_
 replace h:=And.intro trivial h
 replace h:=AA h
 obtain⟨y1,h⟩:=h
 simp(disch:=omega) only[vm,seval,h.1]
 refine⟨GZ h.1.1 (by first|(simp(disch:=omega) only[vm,seval,h.1];done)|rfl) fun n2 hn2=>?_⟩
 obtain⟨H,h⟩:=h
 cases h
 simp(disch:=omega) only[vm,seval,H]
 refine⟨(hR _ _ _ _ _ _ (by simp(disch:=omega) only[vm,seval,H];rfl) slr ?_ (by omega) ?_).1⟩<;>first|(simp(disch:=omega) only[vm,seval,H];done)|rfl
theorem AAf {a0 r} (h:Ko N a0=some r) (ha:args=[.str a0]) (hQ: ∀n',n≤n'→Gl (Q (.bool r) ⟨m,n'⟩)):ACall vE 151 args ⟨m,n⟩ Q:=by
 rw[Ko]at h
 subst ha
 refine ent hQ Tryz.func151 rfl Tryz.ntmps151 Tryz.results151 (.q (.r []) .z) fun R hR=>?_
 replace h:=And.intro trivial h
 simp(disch:=omega) only[vm,seval,h.1]
 refine⟨AV (γ:=Unit) h [2,3,4,5,6,7,8,9,10,11,12,13,14,15,16,17,18,19,20,21,22,23,24,25,26] [] (fun j1 g=>[]) (fun j1 g=>m) (.q (.r []) .z) ?_ ?_⟩<;>clear h
 rintro j1 _ n4 hnn4 _ _ h
 refine AB (.q (.r []) .z) ?_
 obtain⟨H,h⟩:=h
 cases h
 simp(disch:=omega) only[vm,seval,H]
 refine⟨(hR _ _ _ _ _ _ (by simp(disch:=omega) only[vm,seval,H];rfl) slr ?_ (by omega) ?_).1⟩<;>first|(simp(disch:=omega) only[vm,seval,H];done)|rfl
 intro k2 Jk2 hk2 h
 replace h:=AR h
 obtain⟨hfk5,h⟩:=h
 simp(disch:=omega) only[vm,seval,h.1]
 refine⟨CB (σ:=Unit) (γ:=Unit) a0 hfk5 (fun xs i s=>Dt N k2 xs) (fun i s g=>[.int .i64 i]) (fun i s g=>m) [2,3,7,8,9,10,11,12,13,14,15,16,17,18,19,20,21,22,23,24,25,26] [6] () () h (by first|(simp(disch:=omega) only[vm,seval,h.1];done)|rfl) (by first|(simp(disch:=omega) only[vm,seval,h.1];done)|rfl) ?_ ?_⟩<;>clear h
 rintro s6 _ _ nL0_1 hnL0_1 _ h
 change _∧Dt N k2 []=_ at h
 rw[Dt]at h
 refine AB (.q (.r []) (.q (.c .z .z) (.q (.q (.r []) .z) (.r [])))) ?_
 simp(disch:=omega) only[vm,seval,h.1]
 refine⟨hk2 () () _ _ _ _ h.2 slr ?_ ?_ ?_ (by omega)⟩<;>first|(simp(disch:=omega) only[vm,seval,h.1];done)|rfl
 rintro xk5 xsk5 s6 _ _ nL0_1 hnL0_1 _ h Jk5 hk5
 change _∧Dt N k2 (xk5::xsk5)=_ at h
 rw[Dt]at h
 refine AB (.q (.r []) (.q (.c .z .z) (.q (.q (.r []) .z) (.r [])))) ?_
 simp(disch:=omega) only[vm,seval,h.1]
 refine⟨AV (γ:=Unit) h [9,10,11,12,13,14,15,16,17,18,19,20,21,22,23,24] [25] (fun j6 g=>[.bool j6]) (fun j6 g=>m) (.r []) ?_ ?_⟩<;>clear h
 rintro j6 _ n9 hnn9 _ _ h
 refine AB (.c (.q (.r []) .z) .z) ?_
 replace h:=AC h
 rcases h with h|h
 obtain⟨H,h⟩:=h
 cases h
 simp(disch:=omega) only[vm,seval,H]
 refine⟨(hR _ _ _ _ _ _ (by simp(disch:=omega) only[vm,seval,H];rfl) slr ?_ (by omega) ?_).1⟩<;>first|(simp(disch:=omega) only[vm,seval,H];done)|rfl
 simp(disch:=omega) only[vm,seval,h.1]
 refine⟨hk5 () () _ _ _ _ h.2 slr ?_ ?_ ?_ (by omega)⟩<;>first|(simp(disch:=omega) only[vm,seval,h.1];done)|rfl
 intro k7 Jk7 hk7 h
 replace h:=AA h
 obtain⟨y10,h⟩:=h
 simp(disch:=omega) only[vm,seval,h.1]
 refine⟨Cm h.1.1 (by first|(simp(disch:=omega) only[vm,seval,h.1];done)|rfl) fun n11 hn11=>?_⟩
 replace h:=AC h
 rcases h with h|h
 simp(disch:=omega) only[vm,seval,h.1]
 refine⟨hk7 false () _ _ _ _ h.2 slr ?_ ?_ ?_ (by omega)⟩<;>first|(simp(disch:=omega) only[vm,seval,h.1];done)|rfl
 replace h:=AC h
 rcases h with h|h
 simp(disch:=omega) only[vm,seval,h.1]
 refine⟨hk7 true () _ _ _ _ h.2 slr ?_ ?_ ?_ (by omega)⟩<;>first|(simp(disch:=omega) only[vm,seval,h.1];done)|rfl
 simp(disch:=omega) only[vm,seval,h.1]
 refine⟨hk7 (decide ((AJ xk5)>122)) () _ _ _ _ h.2 slr ?_ ?_ ?_ (by omega)⟩<;>first|(simp(disch:=omega) only[vm,seval,h.1];done)|rfl
theorem Az {a0 a1 r}{i0:Nat} (h:Ac N a0 a1=some r) (ha:args=[.ptr i0 0,.str a1]) (hi0:Bh m i0=some ([HZ i0 196 2 a0.addr,.buf 5 a0.buf true])) (hQ: ∀n',n≤n'→Gl (Q (.tuple [.int .i64 r.1,.nilIface]) ⟨CE m i0 ([HZ i0 196 2 r.2.2.addr,.buf 5 r.2.2.buf true]),n'⟩)):ACall vE 169 args ⟨m,n⟩ Q:=by
 rw[Ac]at h
 subst ha
 refine ACall.front hi0 fun hin=>ent (fun n' k=>⟨_,rfl,(hQ n' k).go⟩) Tryz.func169 rfl Tryz.ntmps169 Tryz.results169 (.q (.r []) (.q (.r []) (.q (.r [12]) (.q (.r []) .z)))) fun R hR=>?_
 replace h:=And.intro trivial h
 replace h:=AA h
 obtain⟨y1,h⟩:=h
 simp(disch:=omega) only[vm,seval,h.1]
 refine⟨KF h.1.1 (by first|(simp(disch:=omega) only[vm,seval,h.1];done)|rfl) (i0:=i0) (by simp(disch:=omega) only[vm,seval,h.1]) fun n2 hn2=>?_⟩
 replace h:=AR h
 obtain⟨c,h⟩:=h
 try simp only[liE,seval]at c
 replace h:=AO c h
 obtain⟨H,h⟩:=h
 cases h
 simp(disch:=omega) only[vm,seval,H]
 refine⟨(hR _ _ _ _ _ _ (by simp(disch:=omega) only[vm,seval,H];rfl) slr ?_ (by omega) ?_).1⟩<;>first|(simp(disch:=omega) only[vm,seval,H];done)|rfl
theorem OG {a0 a1 r} (h:strings_HasSuffix N a0 a1=some r) (ha:args=[.str a0,.str a1]) (hQ: ∀n',n≤n'→Gl (Q (.bool r) ⟨m,n'⟩)):ACall vE 153 args ⟨m,n⟩ Q:=by
 rw[strings_HasSuffix]at h
 subst ha
 refine ent hQ Tryz.func153 rfl Tryz.ntmps153 Tryz.results153 (.q (.r []) (.q (.r []) .z)) fun R hR=>?_
 replace h:=And.intro trivial h
 replace h:=AA h
 obtain⟨y1,h⟩:=h
 simp(disch:=omega) only[vm,seval,h.1]
 refine⟨I8 h.1.1 (by first|(simp(disch:=omega) only[vm,seval,h.1];done)|rfl) fun n2 hn2=>?_⟩
 obtain⟨H,h⟩:=h
 cases h
 simp(disch:=omega) only[vm,seval,H]
 refine⟨(hR _ _ _ _ _ _ (by simp(disch:=omega) only[vm,seval,H];rfl) slr ?_ (by omega) ?_).1⟩<;>first|(simp(disch:=omega) only[vm,seval,H];done)|rfl
theorem Mf {a0 r} (h:FB N a0=some r) (ha:args=[.int .i64 a0]) (hQ: ∀n',n≤n'→Gl (Q (.str r) ⟨m,n'⟩)):ACall vE 124 args ⟨m,n⟩ Q:=by
 rw[FB]at h
 subst ha
 refine ent hQ Tryz.func124 rfl Tryz.ntmps124 Tryz.results124 (.q (.r []) (.q (.q (.r []) (.c (.q (.r []) .z) .z)) (.q (.r []) .z))) fun R hR=>?_
 replace h:=And.intro trivial h
 replace h:=AC h
 rcases h with h|h
 replace h:=AA h
 obtain⟨y1,h⟩:=h
 simp(disch:=omega) only[vm,seval,h.1]
 refine⟨M9 h.1.1 (by first|(simp(disch:=omega) only[vm,seval,h.1];done)|rfl) fun n2 hn2=>?_⟩
 replace h:=AR h
 obtain⟨c,h⟩:=h
 try simp only[liE,seval]at c
 replace h:=AO c h
 obtain⟨H,h⟩:=h
 cases h
 simp(disch:=omega) only[vm,seval,H]
 refine⟨(hR _ _ _ _ _ _ (by simp(disch:=omega) only[vm,seval,H];rfl) slr ?_ (by omega) ?_).1⟩<;>first|(simp(disch:=omega) only[vm,seval,H];done)|rfl
 replace h:=AA h
 obtain⟨y3,h⟩:=h
 simp(disch:=omega) only[vm,seval,h.1]
 refine⟨M9 h.1.1 (by first|(simp(disch:=omega) only[vm,seval,h.1];done)|rfl) fun n4 hn4=>?_⟩
 obtain⟨H,h⟩:=h
 cases h
 simp(disch:=omega) only[vm,seval,H]
 refine⟨(hR _ _ _ _ _ _ (by simp(disch:=omega) only[vm,seval,H];rfl) slr ?_ (by omega) ?_).1⟩<;>first|(simp(disch:=omega) only[vm,seval,H];done)|rfl
theorem Ck {a0 a1 r} (h:BR N a0 a1=some r) (ha:args=[.str a0,.str a1]) (hQ: ∀n',n≤n'→Gl (Q (.int .i64 r) ⟨m,n'⟩)):ACall vE 41 args ⟨m,n⟩ Q:=by
 rw[BR]at h
 subst ha
 refine ent hQ Tryz.func41 rfl Tryz.ntmps41 Tryz.results41 (.q (.r []) .z) fun R hR=>?_
 replace h:=And.intro trivial h
 simp(disch:=omega) only[vm,seval,h.1]
 refine⟨AV (γ:=Unit) h [4,5,6,7,8,9,10,11,12,13,14,15,16,17] [] (fun j1 g=>[]) (fun j1 g=>m) (.q (.r []) .z) ?_ ?_⟩<;>clear h
 rintro j1 _ n4 hnn4 _ _ h
 refine AB (.q (.r []) .z) ?_
 obtain⟨H,h⟩:=h
 cases h
 simp(disch:=omega) only[vm,seval,H]
 refine⟨(hR _ _ _ _ _ _ (by simp(disch:=omega) only[vm,seval,H];rfl) slr ?_ (by omega) ?_).1⟩<;>first|(simp(disch:=omega) only[vm,seval,H];done)|rfl
 intro k2 Jk2 hk2 h
 replace h:=AR h
 obtain⟨hfk5,h⟩:=h
 simp(disch:=omega) only[vm,seval,h.1]
 refine⟨CB (σ:=Unit) (γ:=Unit) a0 hfk5 (fun xs i s=>DF N a1 k2 xs i) (fun i s g=>[.int .i64 i]) (fun i s g=>m) [4,6,7,8,9,10,11,12,13,14,15,16,17] [5] () () h (by first|(simp(disch:=omega) only[vm,seval,h.1];done)|rfl) (by first|(simp(disch:=omega) only[vm,seval,h.1];done)|rfl) ?_ ?_⟩<;>clear h
 rintro s5 _ _ nL0_1 hnL0_1 _ h
 change _∧DF N a1 k2 [] s5=_ at h
 rw[DF]at h
 refine AB (.q (.q (.r []) (.c .z .z)) (.q (.q (.r []) (.c (.q (.r []) .z) .z)) (.r []))) ?_
 simp(disch:=omega) only[vm,seval,h.1]
 refine⟨hk2 () () _ _ _ _ h.2 slr ?_ ?_ ?_ (by omega)⟩<;>first|(simp(disch:=omega) only[vm,seval,h.1];done)|rfl
 rintro xk5 xsk5 s5 _ _ nL0_1 hnL0_1 _ h Jk5 hk5
 change _∧DF N a1 k2 (xk5::xsk5) s5=_ at h
 rw[DF]at h
 refine AB (.q (.q (.r []) (.c .z .z)) (.q (.q (.r []) (.c (.q (.r []) .z) .z)) (.r []))) ?_
 replace h:=AA h
 obtain⟨y6,h⟩:=h
 simp(disch:=omega) only[vm,seval,h.1]
 refine⟨Gi h.1.1 (by first|(simp(disch:=omega) only[vm,seval,h.1];done)|rfl) fun n7 hn7=>?_⟩
 replace h:=AC h
 rcases h with h|h
 obtain⟨H,h⟩:=h
 cases h
 simp(disch:=omega) only[vm,seval,H]
 refine⟨(hR _ _ _ _ _ _ (by simp(disch:=omega) only[vm,seval,H];rfl) slr ?_ (by omega) ?_).1⟩<;>first|(simp(disch:=omega) only[vm,seval,H];done)|rfl
 simp(disch:=omega) only[vm,seval,h.1]
 refine⟨hk5 () () _ _ _ _ h.2 slr ?_ ?_ ?_ (by omega)⟩<;>first|(simp(disch:=omega) only[vm,seval,h.1];done)|rfl
theorem LM {a0 a1 r} (h:Gh N a0 a1=some r) (ha:args=[.str a0,.str a1]) (hQ: ∀n',n≤n'→Gl (Q (.bool r) ⟨m,n'⟩)):ACall vE 125 args ⟨m,n⟩ Q:=by
 rw[Gh]at h
 subst ha
 refine ent hQ Tryz.func125 rfl Tryz.ntmps125 Tryz.results125 (.q (.r []) (.q (.r []) .z)) fun R hR=>?_
 replace h:=And.intro trivial h
 replace h:=AA h
 obtain⟨y1,h⟩:=h
 simp(disch:=omega) only[vm,seval,h.1]
 refine⟨JW h.1.1 (by first|(simp(disch:=omega) only[vm,seval,h.1];done)|rfl) fun n2 hn2=>?_⟩
 replace h:=AA h
 obtain⟨y3,h⟩:=h
 simp(disch:=omega) only[vm,seval,h.1]
 refine⟨JW h.1.1 (by first|(simp(disch:=omega) only[vm,seval,h.1];done)|rfl) fun n4 hn4=>?_⟩
 obtain⟨H,h⟩:=h
 cases h
 simp(disch:=omega) only[vm,seval,H]
 refine⟨(hR _ _ _ _ _ _ (by simp(disch:=omega) only[vm,seval,H];rfl) slr ?_ (by omega) ?_).1⟩<;>first|(simp(disch:=omega) only[vm,seval,H];done)|rfl
theorem EL {a0 r} (h:CJ N a0=some r) (ha:args=[.int .u8 a0]) (hQ: ∀n',n≤n'→Gl (Q (.bool r) ⟨m,n'⟩)):ACall vE 84 args ⟨m,n⟩ Q:=by
 rw[CJ]at h
 subst ha
 refine ent hQ Tryz.func84 rfl Tryz.ntmps84 Tryz.results84 (.q (.r []) (.q (.r []) .z)) fun R hR=>?_
 replace h:=And.intro trivial h
 replace h:=AA h
 obtain⟨y1,h⟩:=h
 simp(disch:=omega) only[vm,seval,h.1]
 refine⟨F4 h.1.1 (by first|(simp(disch:=omega) only[vm,seval,h.1];done)|rfl) fun n2 hn2=>?_⟩
 replace h:=AC h
 rcases h with h|h
 obtain⟨H,h⟩:=h
 cases h
 simp(disch:=omega) only[vm,seval,H]
 refine⟨(hR _ _ _ _ _ _ (by simp(disch:=omega) only[vm,seval,H];rfl) slr ?_ (by omega) ?_).1⟩<;>first|(simp(disch:=omega) only[vm,seval,H];done)|rfl
 replace h:=AA h
 obtain⟨y3,h⟩:=h
 simp(disch:=omega) only[vm,seval,h.1]
 refine⟨DW h.1.1 (by first|(simp(disch:=omega) only[vm,seval,h.1];done)|rfl) fun n4 hn4=>?_⟩
 replace h:=AC h
 rcases h with h|h
 obtain⟨H,h⟩:=h
 cases h
 simp(disch:=omega) only[vm,seval,H]
 refine⟨(hR _ _ _ _ _ _ (by simp(disch:=omega) only[vm,seval,H];rfl) slr ?_ (by omega) ?_).1⟩<;>first|(simp(disch:=omega) only[vm,seval,H];done)|rfl
 replace h:=AA h
 obtain⟨y5,h⟩:=h
 simp(disch:=omega) only[vm,seval,h.1]
 refine⟨Gi h.1.1 (by first|(simp(disch:=omega) only[vm,seval,h.1];done)|rfl) fun n6 hn6=>?_⟩
 obtain⟨H,h⟩:=h
 cases h
 simp(disch:=omega) only[vm,seval,H]
 refine⟨(hR _ _ _ _ _ _ (by simp(disch:=omega) only[vm,seval,H];rfl) slr ?_ (by omega) ?_).1⟩<;>first|(simp(disch:=omega) only[vm,seval,H];done)|rfl
theorem JY {a0 r} (h:Fe N a0=some r) (ha:args=[.int .u8 a0]) (hQ: ∀n',n≤n'→Gl (Q (.bool r) ⟨m,n'⟩)):ACall vE 141 args ⟨m,n⟩ Q:=by
 rw[Fe]at h
 subst ha
 refine ent hQ Tryz.func141 rfl Tryz.ntmps141 Tryz.results141 (.q (.r []) (.q (.r []) .z)) fun R hR=>?_
 replace h:=And.intro trivial h
 replace h:=AA h
 obtain⟨y1,h⟩:=h
 simp(disch:=omega) only[vm,seval,h.1]
 refine⟨DW h.1.1 (by first|(simp(disch:=omega) only[vm,seval,h.1];done)|rfl) fun n2 hn2=>?_⟩
 replace h:=AC h
 rcases h with h|h
 obtain⟨H,h⟩:=h
 cases h
 simp(disch:=omega) only[vm,seval,H]
 refine⟨(hR _ _ _ _ _ _ (by simp(disch:=omega) only[vm,seval,H];rfl) slr ?_ (by omega) ?_).1⟩<;>first|(simp(disch:=omega) only[vm,seval,H];done)|rfl
 replace h:=AC h
 rcases h with h|h
 replace h:=AC h
 rcases h with h|h
 obtain⟨H,h⟩:=h
 cases h
 simp(disch:=omega) only[vm,seval,H]
 refine⟨(hR _ _ _ _ _ _ (by simp(disch:=omega) only[vm,seval,H];rfl) slr ?_ (by omega) ?_).1⟩<;>first|(simp(disch:=omega) only[vm,seval,H];done)|rfl
 replace h:=AC h
 rcases h with h|h
 obtain⟨H,h⟩:=h
 cases h
 simp(disch:=omega) only[vm,seval,H]
 refine⟨(hR _ _ _ _ _ _ (by simp(disch:=omega) only[vm,seval,H];rfl) slr ?_ (by omega) ?_).1⟩<;>first|(simp(disch:=omega) only[vm,seval,H];done)|rfl
 obtain⟨H,h⟩:=h
 cases h
 simp(disch:=omega) only[vm,seval,H]
 refine⟨(hR _ _ _ _ _ _ (by simp(disch:=omega) only[vm,seval,H];rfl) slr ?_ (by omega) ?_).1⟩<;>first|(simp(disch:=omega) only[vm,seval,H];done)|rfl
 replace h:=AC h
 rcases h with h|h
 obtain⟨H,h⟩:=h
 cases h
 simp(disch:=omega) only[vm,seval,H]
 refine⟨(hR _ _ _ _ _ _ (by simp(disch:=omega) only[vm,seval,H];rfl) slr ?_ (by omega) ?_).1⟩<;>first|(simp(disch:=omega) only[vm,seval,H];done)|rfl
 obtain⟨H,h⟩:=h
 cases h
 simp(disch:=omega) only[vm,seval,H]
 refine⟨(hR _ _ _ _ _ _ (by simp(disch:=omega) only[vm,seval,H];rfl) slr ?_ (by omega) ?_).1⟩<;>first|(simp(disch:=omega) only[vm,seval,H];done)|rfl
theorem Uj {a0 r} (h:Jl N a0=some r) (ha:args=[.str a0]) (hQ: ∀n',n≤n'→Gl (Q (.bool r) ⟨m,n'⟩)):ACall vE 225 args ⟨m,n⟩ Q:=by
 rw[Jl]at h
 subst ha
 refine ent hQ Tryz.func225 rfl Tryz.ntmps225 Tryz.results225 (.q (.r []) .z) fun R hR=>?_
 replace h:=And.intro trivial h
 simp(disch:=omega) only[vm,seval,h.1]
 refine⟨AV (γ:=Unit) h [2,3,4,5,6,7,8,9,10,11,12,13,14,15,16,17,18,19,20,21,22,23,24,25,26,27] [] (fun j1 g=>[]) (fun j1 g=>m) (.q (.r []) .z) ?_ ?_⟩<;>clear h
 rintro j1 _ n4 hnn4 _ _ h
 refine AB (.q (.r []) .z) ?_
 replace h:=AC h
 rcases h with h|h
 obtain⟨H,h⟩:=h
 cases h
 simp(disch:=omega) only[vm,seval,H]
 refine⟨(hR _ _ _ _ _ _ (by simp(disch:=omega) only[vm,seval,H];rfl) slr ?_ (by omega) ?_).1⟩<;>first|(simp(disch:=omega) only[vm,seval,H];done)|rfl
 replace h:=AC h
 rcases h with h|h
 replace h:=AA h
 obtain⟨x14,h⟩:=h
 replace h:=AC h
 rcases h with h|h
 replace h:=AA h
 obtain⟨x15,h⟩:=h
 obtain⟨H,h⟩:=h
 cases h
 simp(disch:=omega) only[vm,seval,H]
 refine⟨(hR _ _ _ _ _ _ (by simp(disch:=omega) only[vm,seval,H];rfl) slr ?_ (by omega) ?_).1⟩<;>first|(simp(disch:=omega) only[vm,seval,H];done)|rfl
 obtain⟨H,h⟩:=h
 cases h
 simp(disch:=omega) only[vm,seval,H]
 refine⟨(hR _ _ _ _ _ _ (by simp(disch:=omega) only[vm,seval,H];rfl) slr ?_ (by omega) ?_).1⟩<;>first|(simp(disch:=omega) only[vm,seval,H];done)|rfl
 obtain⟨H,h⟩:=h
 cases h
 simp(disch:=omega) only[vm,seval,H]
 refine⟨(hR _ _ _ _ _ _ (by simp(disch:=omega) only[vm,seval,H];rfl) slr ?_ (by omega) ?_).1⟩<;>first|(simp(disch:=omega) only[vm,seval,H];done)|rfl
 intro k2 Jk2 hk2 h
 replace h:=AR h
 obtain⟨hfk5,h⟩:=h
 simp(disch:=omega) only[vm,seval,h.1]
 refine⟨CB (σ:=Unit) (γ:=Unit) a0 hfk5 (fun xs i s=>DI N k2 xs) (fun i s g=>[.int .i64 i]) (fun i s g=>m) [2,4,5,6,7,8,9,10,11,12,13,14,15,16,17,18,19,20,21,22,23,24,25,26,27] [3] () () h (by first|(simp(disch:=omega) only[vm,seval,h.1];done)|rfl) (by first|(simp(disch:=omega) only[vm,seval,h.1];done)|rfl) ?_ ?_⟩<;>clear h
 rintro s3 _ _ nL0_1 hnL0_1 _ h
 change _∧DI N k2 []=_ at h
 rw[DI]at h
 refine AB (.q (.q (.r []) (.c .z .z)) (.q .z (.r []))) ?_
 simp(disch:=omega) only[vm,seval,h.1]
 refine⟨hk2 () () _ _ _ _ h.2 slr ?_ ?_ ?_ (by omega)⟩<;>first|(simp(disch:=omega) only[vm,seval,h.1];done)|rfl
 rintro xk5 xsk5 s3 _ _ nL0_1 hnL0_1 _ h Jk5 hk5
 change _∧DI N k2 (xk5::xsk5)=_ at h
 rw[DI]at h
 refine AB (.q (.q (.r []) (.c .z .z)) (.q .z (.r []))) ?_
 simp(disch:=omega) only[vm,seval,h.1]
 refine⟨AV (γ:=Unit) h [10,11,12,13,14,15,16,17,18,19,20,21,22,23,24,25,26] [27] (fun j6 g=>[.bool j6]) (fun j6 g=>m) (.r []) ?_ ?_⟩<;>clear h
 rintro j6 _ n9 hnn9 _ _ h
 refine AB (.c (.q (.r []) .z) .z) ?_
 replace h:=AC h
 rcases h with h|h
 obtain⟨H,h⟩:=h
 cases h
 simp(disch:=omega) only[vm,seval,H]
 refine⟨(hR _ _ _ _ _ _ (by simp(disch:=omega) only[vm,seval,H];rfl) slr ?_ (by omega) ?_).1⟩<;>first|(simp(disch:=omega) only[vm,seval,H];done)|rfl
 simp(disch:=omega) only[vm,seval,h.1]
 refine⟨hk5 () () _ _ _ _ h.2 slr ?_ ?_ ?_ (by omega)⟩<;>first|(simp(disch:=omega) only[vm,seval,h.1];done)|rfl
 intro k7 Jk7 hk7 h
 replace h:=AA h
 obtain⟨y10,h⟩:=h
 simp(disch:=omega) only[vm,seval,h.1]
 refine⟨F4 h.1.1 (by first|(simp(disch:=omega) only[vm,seval,h.1];done)|rfl) fun n11 hn11=>?_⟩
 replace h:=AC h
 rcases h with h|h
 simp(disch:=omega) only[vm,seval,h.1]
 refine⟨hk7 false () _ _ _ _ h.2 slr ?_ ?_ ?_ (by omega)⟩<;>first|(simp(disch:=omega) only[vm,seval,h.1];done)|rfl
 replace h:=AA h
 obtain⟨y12,h⟩:=h
 simp(disch:=omega) only[vm,seval,h.1]
 refine⟨DW h.1.1 (by first|(simp(disch:=omega) only[vm,seval,h.1];done)|rfl) fun n13 hn13=>?_⟩
 replace h:=AC h
 rcases h with h|h
 simp(disch:=omega) only[vm,seval,h.1]
 refine⟨hk7 false () _ _ _ _ h.2 slr ?_ ?_ ?_ (by omega)⟩<;>first|(simp(disch:=omega) only[vm,seval,h.1];done)|rfl
 simp(disch:=omega) only[vm,seval,h.1]
 refine⟨hk7 ((AJ xk5) !=45) () _ _ _ _ h.2 slr ?_ ?_ ?_ (by omega)⟩<;>first|(simp(disch:=omega) only[vm,seval,h.1];done)|rfl
theorem Rw {a0 r} (h:I6 N a0=some r) (ha:args=[.str a0]) (hQ: ∀n',n≤n'→Gl (Q (.bool r) ⟨m,n'⟩)):ACall vE 226 args ⟨m,n⟩ Q:=by
 rw[I6]at h
 subst ha
 refine ent hQ Tryz.func226 rfl Tryz.ntmps226 Tryz.results226 (.q (.r []) .z) fun R hR=>?_
 replace h:=And.intro trivial h
 simp(disch:=omega) only[vm,seval,h.1]
 refine⟨AV (γ:=Unit) h [2,3,4,5,6,7,8,9,10,11,12,13,14] [] (fun j1 g=>[]) (fun j1 g=>m) (.q (.r []) .z) ?_ ?_⟩<;>clear h
 rintro j1 _ n4 hnn4 _ _ h
 refine AB (.q (.r []) .z) ?_
 obtain⟨H,h⟩:=h
 cases h
 simp(disch:=omega) only[vm,seval,H]
 refine⟨(hR _ _ _ _ _ _ (by simp(disch:=omega) only[vm,seval,H];rfl) slr ?_ (by omega) ?_).1⟩<;>first|(simp(disch:=omega) only[vm,seval,H];done)|rfl
 intro k2 Jk2 hk2 h
 replace h:=AR h
 obtain⟨hfk5,h⟩:=h
 simp(disch:=omega) only[vm,seval,h.1]
 refine⟨CB (σ:=Unit) (γ:=Unit) a0 hfk5 (fun xs i s=>Ch N k2 xs) (fun i s g=>[.int .i64 i]) (fun i s g=>m) [2,4,5,6,7,8,9,10,11,12,13,14] [3] () () h (by first|(simp(disch:=omega) only[vm,seval,h.1];done)|rfl) (by first|(simp(disch:=omega) only[vm,seval,h.1];done)|rfl) ?_ ?_⟩<;>clear h
 rintro s3 _ _ nL0_1 hnL0_1 _ h
 change _∧Ch N k2 []=_ at h
 rw[Ch]at h
 refine AB (.q (.q (.r []) (.c .z .z)) (.q (.q (.r []) (.c (.q (.r []) .z) .z)) (.r []))) ?_
 simp(disch:=omega) only[vm,seval,h.1]
 refine⟨hk2 () () _ _ _ _ h.2 slr ?_ ?_ ?_ (by omega)⟩<;>first|(simp(disch:=omega) only[vm,seval,h.1];done)|rfl
 rintro xk5 xsk5 s3 _ _ nL0_1 hnL0_1 _ h Jk5 hk5
 change _∧Ch N k2 (xk5::xsk5)=_ at h
 rw[Ch]at h
 refine AB (.q (.q (.r []) (.c .z .z)) (.q (.q (.r []) (.c (.q (.r []) .z) .z)) (.r []))) ?_
 replace h:=AA h
 obtain⟨y6,h⟩:=h
 simp(disch:=omega) only[vm,seval,h.1]
 refine⟨DW h.1.1 (by first|(simp(disch:=omega) only[vm,seval,h.1];done)|rfl) fun n7 hn7=>?_⟩
 replace h:=AC h
 rcases h with h|h
 simp(disch:=omega) only[vm,seval,h.1]
 refine⟨hk5 () () _ _ _ _ h.2 slr ?_ ?_ ?_ (by omega)⟩<;>first|(simp(disch:=omega) only[vm,seval,h.1];done)|rfl
 obtain⟨H,h⟩:=h
 cases h
 simp(disch:=omega) only[vm,seval,H]
 refine⟨(hR _ _ _ _ _ _ (by simp(disch:=omega) only[vm,seval,H];rfl) slr ?_ (by omega) ?_).1⟩<;>first|(simp(disch:=omega) only[vm,seval,H];done)|rfl
theorem Z5 {a0 r} (h:Kh N a0=some r) (ha:args=[.int .u8 a0]) (hQ: ∀n',n≤n'→Gl (Q (.bool r) ⟨m,n'⟩)):ACall vE 186 args ⟨m,n⟩ Q:=by
 rw[Kh]at h
 subst ha
 refine ent hQ Tryz.func186 rfl Tryz.ntmps186 Tryz.results186 (.q (.r []) (.q (.r []) .z)) fun R hR=>?_
 replace h:=And.intro trivial h
 replace h:=AA h
 obtain⟨y1,h⟩:=h
 simp(disch:=omega) only[vm,seval,h.1]
 refine⟨F4 h.1.1 (by first|(simp(disch:=omega) only[vm,seval,h.1];done)|rfl) fun n2 hn2=>?_⟩
 replace h:=AC h
 rcases h with h|h
 obtain⟨H,h⟩:=h
 cases h
 simp(disch:=omega) only[vm,seval,H]
 refine⟨(hR _ _ _ _ _ _ (by simp(disch:=omega) only[vm,seval,H];rfl) slr ?_ (by omega) ?_).1⟩<;>first|(simp(disch:=omega) only[vm,seval,H];done)|rfl
 replace h:=AA h
 obtain⟨y3,h⟩:=h
 simp(disch:=omega) only[vm,seval,h.1]
 refine⟨DW h.1.1 (by first|(simp(disch:=omega) only[vm,seval,h.1];done)|rfl) fun n4 hn4=>?_⟩
 replace h:=AC h
 rcases h with h|h
 obtain⟨H,h⟩:=h
 cases h
 simp(disch:=omega) only[vm,seval,H]
 refine⟨(hR _ _ _ _ _ _ (by simp(disch:=omega) only[vm,seval,H];rfl) slr ?_ (by omega) ?_).1⟩<;>first|(simp(disch:=omega) only[vm,seval,H];done)|rfl
 replace h:=AA h
 obtain⟨y5,h⟩:=h
 simp(disch:=omega) only[vm,seval,h.1]
 refine⟨Gi h.1.1 (by first|(simp(disch:=omega) only[vm,seval,h.1];done)|rfl) fun n6 hn6=>?_⟩
 obtain⟨H,h⟩:=h
 cases h
 simp(disch:=omega) only[vm,seval,H]
 refine⟨(hR _ _ _ _ _ _ (by simp(disch:=omega) only[vm,seval,H];rfl) slr ?_ (by omega) ?_).1⟩<;>first|(simp(disch:=omega) only[vm,seval,H];done)|rfl
end Go.Proofs.YtjgdhjpafjpjgaaGreatDoor
