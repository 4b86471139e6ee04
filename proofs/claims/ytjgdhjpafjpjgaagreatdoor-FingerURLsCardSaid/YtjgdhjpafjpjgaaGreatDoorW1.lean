import Derived.Test.YtjgdhjpafjpjgaaGreatDoorVmFacts
import Derived.Test.YtjgdhjpafjpjgaaGreatDoorDefs
import Derived.Test.YtjgdhjpafjpjgaaGreatDoorVM2
import Derived.Test.YtjgdhjpafjpjgaaGreatDoorVM5
set_option linter.unusedVariables false
set_option linter.unusedSimpArgs false
set_option maxHeartbeats 4000000
set_option maxRecDepth 100000
set_option linter.defProp false
namespace Go.Proofs.YtjgdhjpafjpjgaaGreatDoor
open Go.VM
variable{N n:Nat}{m:MS}{Q:PQ}{args:List AVal}
theorem Od {a0 r} (h:IE N a0=some r) (ha:args=[.int .u8 a0]) (hQ: ∀n',n≤n'→Gl (Q (.int .u8 r) ⟨m,n'⟩)):ACall vE 142 args ⟨m,n⟩ Q:=by
 rw[IE]at h
 subst ha
 refine ent hQ Tryz.func142 rfl Tryz.ntmps142 Tryz.results142 (.q (.r []) (.q (.q (.r []) (.c (.q (.r []) .z) (.q (.r []) (.c (.q (.r []) .z) .z)))) (.q (.r []) .z))) fun R hR=>?_
 replace h:=And.intro trivial h
 replace h:=AC h
 rcases h with h|h
 obtain⟨H,h⟩:=h
 cases h
 simp(disch:=omega) only[vm,seval,H]
 refine⟨(hR _ _ _ _ _ _ (by simp(disch:=omega) only[vm,seval,H];rfl) slr ?_ (by omega) ?_).1⟩<;>first|(simp(disch:=omega) only[vm,seval,H];done)|rfl
 replace h:=AC h
 rcases h with h|h
 obtain⟨H,h⟩:=h
 cases h
 simp(disch:=omega) only[vm,seval,H]
 refine⟨(hR _ _ _ _ _ _ (by simp(disch:=omega) only[vm,seval,H];rfl) slr ?_ (by omega) ?_).1⟩<;>first|(simp(disch:=omega) only[vm,seval,H];done)|rfl
 obtain⟨H,h⟩:=h
 cases h
 simp(disch:=omega) only[vm,seval,H]
 refine⟨(hR _ _ _ _ _ _ (by simp(disch:=omega) only[vm,seval,H];rfl) slr ?_ (by omega) ?_).1⟩<;>first|(simp(disch:=omega) only[vm,seval,H];done)|rfl
theorem GD {a0 a1 r} (h:EQ N a0 a1=some r) (ha:args=[.str a0,.int .u8 a1]) (hQ: ∀n',n≤n'→Gl (Q (.slice 1 (List.map AVal.str r) true) ⟨m,n'⟩)):ACall vE 40 args ⟨m,n⟩ Q:=by
 rw[EQ]at h
 subst ha
 refine ent hQ Tryz.func40 rfl Tryz.ntmps40 Tryz.results40 (.q (.r []) (.q (.r []) (.q (.r []) .z))) fun R hR=>?_
 replace h:=And.intro trivial h
 simp(disch:=omega) only[vm,seval,h.1]
 refine⟨AV (γ:=Unit) h [7,8,9,10,11,12,13,14,15,16,17,18,19,20,21,22,23,24,25,26,27] [5,6] (fun j1 g=>[.slice 1 (List.map AVal.str j1.1) true,.int .i64 j1.2]) (fun j1 g=>m) (.q (.r []) .z) ?_ ?_⟩<;>clear h
 rintro j1 _ n4 hnn4 _ _ h
 refine AB (.q (.r [28]) .z) ?_
 replace h:=AA h
 obtain⟨x11,h⟩:=h
 replace h:=AR h
 obtain⟨c,h⟩:=h
 try simp only[liE,seval]at c
 replace h:=AO c h
 obtain⟨H,h⟩:=h
 cases h
 simp(disch:=omega) only[vm,seval,H]
 refine⟨(hR _ _ _ _ _ _ (by simp(disch:=omega) only[vm,seval,H];rfl) slr ?_ (by omega) ?_).1⟩<;>first|(simp(disch:=omega) only[vm,seval,H];done)|rfl
 intro k2 Jk2 hk2 h
 replace h:=AR h
 obtain⟨hfk5,h⟩:=h
 simp(disch:=omega) only[vm,seval,h.1]
 refine⟨CB (σ:=(List (List UInt8))×Int) (γ:=Unit) a0 hfk5 (fun xs i s=>DD N a0 a1 k2 xs i s.1 s.2) (fun i s g=>[.slice 1 (List.map AVal.str s.1) true,.int .i64 s.2,.int .i64 i]) (fun i s g=>m) [8,9,10,11,12,13,14,15,16,17,18,19,20,21,22,23,24,25,26,27] [5,6,7] ([],0) () h (by first|(simp(disch:=omega) only[vm,seval,h.1];done)|rfl) (by first|(simp(disch:=omega) only[vm,seval,h.1];done)|rfl) ?_ ?_⟩<;>clear h
 rintro s7 ⟨s5,s6⟩ _ nL0_1 hnL0_1 _ h
 change _∧DD N a0 a1 k2 [] s7 s5 s6=_ at h
 rw[DD]at h
 refine AB (.q (.q (.r []) (.c .z .z)) .z) ?_
 simp(disch:=omega) only[vm,seval,h.1]
 refine⟨hk2 (s5,s6) () _ _ _ _ h.2 slr ?_ ?_ ?_ (by omega)⟩<;>first|(simp(disch:=omega) only[vm,seval,h.1];done)|rfl
 rintro xk5 xsk5 s7 ⟨s5,s6⟩ _ nL0_1 hnL0_1 _ h Jk5 hk5
 change _∧DD N a0 a1 k2 (xk5::xsk5) s7 s5 s6=_ at h
 rw[DD]at h
 refine AB (.q (.q (.r []) (.c .z .z)) .z) ?_
 simp(disch:=omega) only[vm,seval,h.1]
 refine⟨AV (γ:=Unit) h [14,15,16,17,18,19,20,21,22,23,24,25,26,27] [5,6] (fun j6 g=>[.slice 1 (List.map AVal.str j6.1) true,.int .i64 j6.2]) (fun j6 g=>m) (.q (.r []) (.c (.r [19]) .z)) ?_ ?_⟩<;>clear h
 rintro j6 _ n9 hnn9 _ _ h
 refine AB (.r []) ?_
 simp(disch:=omega) only[vm,seval,h.1]
 refine⟨hk5 (j6.1,j6.2) () _ _ _ _ h.2 slr ?_ ?_ ?_ (by omega)⟩<;>first|(simp(disch:=omega) only[vm,seval,h.1];done)|rfl
 intro k7 Jk7 hk7 h
 replace h:=AC h
 rcases h with h|h
 replace h:=AA h
 obtain⟨x10,h⟩:=h
 replace h:=AR h
 obtain⟨c,h⟩:=h
 try simp only[liE,seval]at c
 replace h:=AO c h
 simp(disch:=omega) only[vm,seval,h.1]
 refine⟨hk7 ((s5++[x10]),(s7+1)) () _ _ _ _ h.2 slr ?_ ?_ ?_ (by omega)⟩<;>first|(simp(disch:=omega) only[vm,seval,h.1];done)|rfl
 simp(disch:=omega) only[vm,seval,h.1]
 refine⟨hk7 (s5,s6) () _ _ _ _ h.2 slr ?_ ?_ ?_ (by omega)⟩<;>first|(simp(disch:=omega) only[vm,seval,h.1];done)|rfl
theorem Rz {a0 r} (h:I5 N a0=some r) (ha:args=[Ku a0]) (hQ: ∀n',n≤n'→Gl (Q (.str r) ⟨m,n'⟩)):ACall vE 68 args ⟨m,n⟩ Q:=by
 rw[I5]at h
 subst ha
 refine ent hQ Tryz.func68 rfl Tryz.ntmps68 Tryz.results68 (.q (.r []) (.q (.r []) .z)) fun R hR=>?_
 replace h:=And.intro trivial h
 replace h:=AR h
 obtain⟨c,h⟩:=h
 try simp only[liE,seval]at c
 replace h:=AO c h
 replace h:=AR h
 obtain⟨c,h⟩:=h
 try simp only[liE,seval]at c
 replace h:=AO c h
 replace h:=AR h
 obtain⟨c,h⟩:=h
 try simp only[liE,seval]at c
 replace h:=AO c h
 obtain⟨H,h⟩:=h
 cases h
 simp(disch:=omega) only[vm,seval,H]
 refine⟨(hR _ _ _ _ _ _ (by simp(disch:=omega) only[vm,seval,H];rfl) (.cons _ slr) ?_ (by omega) ?_).1⟩<;>first|(simp(disch:=omega) only[vm,seval,H];done)|rfl
theorem FL {a0 a1 r} (h:Dy N a0 a1=some r) (ha:args=[.str a0,.str a1]) (hQ: ∀n',n≤n'→Gl (Q (.bool r) ⟨m,n'⟩)):ACall vE 171 args ⟨m,n⟩ Q:=by
 rw[Dy]at h
 subst ha
 refine ent hQ Tryz.func171 rfl Tryz.ntmps171 Tryz.results171 (.q (.r []) (.q (.r []) .z)) fun R hR=>?_
 replace h:=And.intro trivial h
 replace h:=AC h
 rcases h with h|h
 replace h:=AA h
 obtain⟨x1,h⟩:=h
 obtain⟨H,h⟩:=h
 cases h
 simp(disch:=omega) only[vm,seval,H]
 refine⟨(hR _ _ _ _ _ _ (by simp(disch:=omega) only[vm,seval,H];rfl) slr ?_ (by omega) ?_).1⟩<;>first|(simp(disch:=omega) only[vm,seval,H];done)|rfl
 obtain⟨H,h⟩:=h
 cases h
 simp(disch:=omega) only[vm,seval,H]
 refine⟨(hR _ _ _ _ _ _ (by simp(disch:=omega) only[vm,seval,H];rfl) slr ?_ (by omega) ?_).1⟩<;>first|(simp(disch:=omega) only[vm,seval,H];done)|rfl
theorem Md {a0 r} (h:GK N a0=some r) (ha:args=[.str a0]) (hQ: ∀n',n≤n'→Gl (Q (.str r) ⟨m,n'⟩)):ACall vE 219 args ⟨m,n⟩ Q:=by
 rw[GK]at h
 subst ha
 refine ent hQ Tryz.func219 rfl Tryz.ntmps219 Tryz.results219 (.q (.r []) .z) fun R hR=>?_
 replace h:=And.intro trivial h
 simp(disch:=omega) only[vm,seval,h.1]
 refine⟨AV (γ:=Unit) h [2,3,4,5,6,7,8,9,10,11,12,13,14,15,16,17] [] (fun j1 g=>[]) (fun j1 g=>m) (.q (.r []) .z) ?_ ?_⟩<;>clear h
 rintro j1 _ n4 hnn4 _ _ h
 refine AB (.q (.r []) .z) ?_
 obtain⟨H,h⟩:=h
 cases h
 simp(disch:=omega) only[vm,seval,H]
 refine⟨(hR _ _ _ _ _ _ (by simp(disch:=omega) only[vm,seval,H];rfl) slr ?_ (by omega) ?_).1⟩<;>first|(simp(disch:=omega) only[vm,seval,H];done)|rfl
 intro k2 Jk2 hk2 h
 simp(disch:=omega) only[vm,seval,h.1]
 refine⟨Ka (σ:=Int) (γ:=Unit) (fun k s=>Dh N a0 k2 k s) (fun s g=>[.int .i64 s]) (fun s g=>m) [2,7,8,9,10,11,12,13,14,15,16,17] [3] (wr .i64 ((a0.length:Int)-1)) () h (fun _=>rfl) (by first|(simp(disch:=omega) only[vm,seval,h.1];done)|rfl) (by first|(simp(disch:=omega) only[vm,seval,h.1];done)|rfl) ?_⟩
 clear h
 rintro k5 s3 _ nL0_1 hnL0_1 _ h Jk5 hk5
 change _∧Dh N a0 k2 (k5+1) s3=_ at h
 rw[Dh]at h
 refine AB (.q (.q (.r []) (.c .z .z)) (.q (.q (.r []) (.c (.q (.r []) .z) .z)) (.r []))) ?_
 replace h:=AC h
 rcases h with h|h
 replace h:=AA h
 obtain⟨x6,h⟩:=h
 replace h:=AC h
 rcases h with h|h
 replace h:=AA h
 obtain⟨x7,h⟩:=h
 obtain⟨H,h⟩:=h
 cases h
 simp(disch:=omega) only[vm,seval,H]
 refine⟨(hR _ _ _ _ _ _ (by simp(disch:=omega) only[vm,seval,H];rfl) slr ?_ (by omega) ?_).1⟩<;>first|(simp(disch:=omega) only[vm,seval,H];done)|rfl
 simp(disch:=omega) only[vm,seval,h.1]
 refine⟨hk5 (wr .i64 (s3-1)) () _ _ _ _ h.2 slr ?_ ?_ ?_ (by omega)⟩<;>first|(simp(disch:=omega) only[vm,seval,h.1];done)|rfl
 simp(disch:=omega) only[vm,seval,h.1]
 refine⟨hk2 () () _ _ _ _ h.2 slr ?_ ?_ ?_ (by omega)⟩<;>first|(simp(disch:=omega) only[vm,seval,h.1];done)|rfl
theorem Iq {a0 r} (h:DV N a0=some r) (ha:args=[Dz a0]) (hQ: ∀n',n≤n'→Gl (Q (.str r) ⟨m,n'⟩)):ACall vE 57 args ⟨m,n⟩ Q:=by
 rw[DV]at h
 subst ha
 refine ent hQ Tryz.func57 rfl Tryz.ntmps57 Tryz.results57 (.q (.r []) (.q (.r []) .z)) fun R hR=>?_
 replace h:=And.intro trivial h
 replace h:=AR h
 obtain⟨c,h⟩:=h
 try simp only[liE,seval]at c
 replace h:=AO c h
 replace h:=AR h
 obtain⟨c,h⟩:=h
 try simp only[liE,seval]at c
 replace h:=AO c h
 replace h:=AR h
 obtain⟨c,h⟩:=h
 try simp only[liE,seval]at c
 replace h:=AO c h
 obtain⟨H,h⟩:=h
 cases h
 simp(disch:=omega) only[vm,seval,H]
 refine⟨(hR _ _ _ _ _ _ (by simp(disch:=omega) only[vm,seval,H];rfl) (.cons _ slr) ?_ (by omega) ?_).1⟩<;>first|(simp(disch:=omega) only[vm,seval,H];done)|rfl
theorem Lr {a0 a1 r}{i0:Nat} (h:FJ N a0 a1=some r) (ha:args=[.ptr i0 0,.int .i64 a1]) (hi0:Bh m i0=some ([.slice 1 (List.map (AVal.int .u8) a0.l) false])) (hQ: ∀n',n≤n'→Gl (Q (.int .i64 r.1) ⟨CE m i0 ([.slice 1 (List.map (AVal.int .u8) r.2.l) false]),n'⟩)):ACall vE 74 args ⟨m,n⟩ Q:=by
 rw[FJ]at h
 subst ha
 refine ACall.front hi0 fun hin=>ent (fun n' k=>⟨_,rfl,(hQ n' k).go⟩) Tryz.func74 rfl Tryz.ntmps74 Tryz.results74 (.q (.r []) (.q .z (.q (.r []) (.q (.r []) (.q (.r []) .z))))) fun R hR=>?_
 replace h:=And.intro trivial h
 simp(disch:=omega) only[vm,seval,h.1]
 refine⟨AV (γ:=Unit) h [6,7,8,9,10,11,12,13,14] [15] (fun j1 g=>[.bool j1]) (fun j1 g=>(i0,[.slice 1 (List.map (AVal.int .u8) a0.l) false])::DU m i0) (.r []) ?_ ?_⟩<;>clear h
 rintro j1 _ n4 hnn4 _ _ h
 refine AB (.c (.q (.r []) .z) .z) ?_
 replace h:=AC h
 rcases h with h|h
 obtain⟨H,h⟩:=h
 cases h
 simp(disch:=omega) only[vm,seval,H]
 refine⟨(hR _ _ _ _ _ _ (by simp(disch:=omega) only[vm,seval,H];rfl) slr ?_ (by omega) ?_).1⟩<;>first|(simp(disch:=omega) only[vm,seval,H];done)|rfl
 replace h:=AA h
 obtain⟨x5,h⟩:=h
 replace h:=AA h
 obtain⟨x6,h⟩:=h
 replace h:=AR h
 obtain⟨c,h⟩:=h
 try simp only[liE,seval]at c
 replace h:=AO c h
 obtain⟨H,h⟩:=h
 cases h
 simp(disch:=omega) only[vm,seval,H]
 refine⟨(hR _ _ _ _ _ _ (by simp(disch:=omega) only[vm,seval,H];rfl) slr ?_ (by omega) ?_).1⟩<;>first|(simp(disch:=omega) only[vm,seval,H];done)|rfl
 intro k2 Jk2 hk2 h
 replace h:=AC h
 rcases h with h|h
 simp(disch:=omega) only[vm,seval,h.1]
 refine⟨hk2 true () _ _ _ _ h.2 slr ?_ ?_ ?_ (by omega)⟩<;>first|(simp(disch:=omega) only[vm,seval,h.1];done)|rfl
 simp(disch:=omega) only[vm,seval,h.1]
 refine⟨hk2 (decide (a1≤1)) () _ _ _ _ h.2 slr ?_ ?_ ?_ (by omega)⟩<;>first|(simp(disch:=omega) only[vm,seval,h.1];done)|rfl
theorem AFW {a0 r} (h:P6 N a0=some r) (ha:args=[.slice 1 (List.map (AVal.int .u8) a0) false]) (hQ: ∀i n',n≤i→i<n'→Gl (Q (.ptr i 0) ⟨(i,[.slice 1 (List.map (AVal.int .u8) r.l) false])::m,n'⟩)):ACall vE 31 args ⟨m,n⟩ Q:=by
 rw[P6]at h
 subst ha
 refine ALq Tryz.func31 rfl Tryz.ntmps31 Tryz.results31 (.q (.r []) (.q (.r []) .z)) fun R hR=>?_
 replace h:=And.intro trivial h
 replace h:=AA h
 obtain⟨x1,h⟩:=h
 obtain⟨H,h⟩:=h
 cases h
 simp(disch:=omega) only[vm,seval,H]
 refine⟨(hR _ _ [.ptr n 0] ((n,[.slice 1 (List.map (AVal.int .u8) x1) false])::m) _ (n+1) (by first|(simp(disch:=omega) only[vm,seval,H];done)|(simp(disch:=omega) only[vm,seval,H];rfl)) slr (by omega) (hQ (n) (n+1) (by omega) (by omega)).go).1⟩
end Go.Proofs.YtjgdhjpafjpjgaaGreatDoor
