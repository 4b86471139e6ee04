import Derived.Test.YtooeobhihpkicaaGreatDoorVmFacts
import Derived.Test.YtooeobhihpkicaaGreatDoorDefs
import Derived.Test.YtooeobhihpkicaaGreatDoorVM2
import Derived.Test.YtooeobhihpkicaaGreatDoorW0
import Derived.Test.YtooeobhihpkicaaGreatDoorW1
set_option linter.unusedVariables false
set_option linter.unusedSimpArgs false
set_option maxHeartbeats 4000000
set_option maxRecDepth 100000
set_option linter.defProp false
namespace Go.Proofs.YtooeobhihpkicaaGreatDoor
open Go.VM
variable{N n:Nat}{m:MS}{Q:PQ}{args:List AVal}
theorem MJ {a0 r} (h:IB N a0=some r) (ha:args=[.str a0]) (hQ: ∀n',n≤n'→Gl (Q (.int .i64 r) ⟨m,n'⟩)):ACall vE 68 args ⟨m,n⟩ Q:=by
 rw[IB]at h
 subst ha
 refine ent hQ Tryz.func68 rfl Tryz.ntmps68 Tryz.results68 (.q (.r []) (.q (.r []) .z)) fun R hR=>?_
 replace h:=And.intro trivial h
 simp(disch:=omega) only[vm,seval,h.1]
 refine⟨Ad (γ:=Unit) h [4,5,6,7,8,9,10,11,12,13,14,15] [3] (fun j1 g=>[.int .i64 j1]) (fun j1 g=>m) .z ?_ ?_⟩<;>clear h
 rintro j1 _ n4 hnn4 _ _ h
 refine AB (.q (.r []) .z) ?_
 obtain⟨H,h⟩:=h
 cases h
 simp(disch:=omega) only[vm,seval,H]
 refine⟨(hR _ _ _ _ _ _ (by simp(disch:=omega) only[vm,seval,H];rfl) slr ?_ (by omega) ?_).1⟩<;>first|(simp(disch:=omega) only[vm,seval,H];done)|rfl
 intro k2 Jk2 hk2 h
 simp(disch:=omega) only[vm,seval,h.1]
 refine⟨D7 (σ:=Int) (γ:=Unit) (fun k s=>FX N a0 k2 k s) (fun s g=>[.int .i64 s]) (fun s g=>m) [4,5,6,7,8,9,10,11,12,13,14,15] [3] 0 () h (fun _=>rfl) (by first|(simp(disch:=omega) only[vm,seval,h.1];done)|rfl) (by first|(simp(disch:=omega) only[vm,seval,h.1];done)|rfl) ?_⟩
 clear h
 rintro k5 s3 _ nL0_1 hnL0_1 _ h Jk5 hk5
 change _∧FX N a0 k2 (k5+1) s3=_ at h
 rw[FX]at h
 refine AB (.q .z (.r [])) ?_
 simp(disch:=omega) only[vm,seval,h.1]
 refine⟨Ad (γ:=Unit) h [4,5,6,7,8,9,10,11,12] [13] (fun j6 g=>[.bool j6]) (fun j6 g=>m) (.r []) ?_ ?_⟩<;>clear h
 rintro j6 _ n9 hnn9 _ _ h
 refine AB (.c .z .z) ?_
 replace h:=AC h
 rcases h with h|h
 simp(disch:=omega) only[vm,seval,h.1]
 refine⟨hk5 (wr .i64 (s3+1)) () _ _ _ _ h.2 slr ?_ ?_ ?_ (by omega)⟩<;>first|(simp(disch:=omega) only[vm,seval,h.1];done)|rfl
 simp(disch:=omega) only[vm,seval,h.1]
 refine⟨hk2 s3 () _ _ _ _ h.2 slr ?_ ?_ ?_ (by omega)⟩<;>first|(simp(disch:=omega) only[vm,seval,h.1];done)|rfl
 intro k7 Jk7 hk7 h
 replace h:=AC h
 rcases h with h|h
 replace h:=AA h
 obtain⟨x10,h⟩:=h
 replace h:=AA h
 obtain⟨y11,h⟩:=h
 simp(disch:=omega) only[vm,seval,h.1]
 refine⟨GR h.1.1 (by first|(simp(disch:=omega) only[vm,seval,h.1];done)|rfl) fun n12 hn12=>?_⟩
 simp(disch:=omega) only[vm,seval,h.1]
 refine⟨hk7 y11 () _ _ _ _ h.2 slr ?_ ?_ ?_ (by omega)⟩<;>first|(simp(disch:=omega) only[vm,seval,h.1];done)|rfl
 simp(disch:=omega) only[vm,seval,h.1]
 refine⟨hk7 false () _ _ _ _ h.2 slr ?_ ?_ ?_ (by omega)⟩<;>first|(simp(disch:=omega) only[vm,seval,h.1];done)|rfl
theorem Mw {a0 a1 r} (h:H7 N a0 a1=some r) (ha:args=[.str a0,.str a1]) (hQ: ∀n',n≤n'→Gl (Q (.int .i64 r) ⟨m,n'⟩)):ACall vE 51 args ⟨m,n⟩ Q:=by
 rw[H7]at h
 subst ha
 refine ent hQ Tryz.func51 rfl Tryz.ntmps51 Tryz.results51 (.q (.r []) .z) fun R hR=>?_
 replace h:=And.intro trivial h
 simp(disch:=omega) only[vm,seval,h.1]
 refine⟨Ad (γ:=Unit) h [4,5,6,7,8,9,10,11,12,13,14,15,16,17] [] (fun j1 g=>[]) (fun j1 g=>m) (.q (.r []) .z) ?_ ?_⟩<;>clear h
 rintro j1 _ n4 hnn4 _ _ h
 refine AB (.q (.r []) .z) ?_
 obtain⟨H,h⟩:=h
 cases h
 simp(disch:=omega) only[vm,seval,H]
 refine⟨(hR _ _ _ _ _ _ (by simp(disch:=omega) only[vm,seval,H];rfl) slr ?_ (by omega) ?_).1⟩<;>first|(simp(disch:=omega) only[vm,seval,H];done)|rfl
 intro k2 Jk2 hk2 h
 replace h:=Ag h
 obtain⟨hfk5,h⟩:=h
 simp(disch:=omega) only[vm,seval,h.1]
 refine⟨Hl (σ:=Unit) (γ:=Unit) a0 hfk5 (fun xs i s=>Dn N a1 k2 xs i) (fun i s g=>[.int .i64 i]) (fun i s g=>m) [4,6,7,8,9,10,11,12,13,14,15,16,17] [5] () () h (by first|(simp(disch:=omega) only[vm,seval,h.1];done)|rfl) (by first|(simp(disch:=omega) only[vm,seval,h.1];done)|rfl) ?_ ?_⟩<;>clear h
 rintro s5 _ _ nL0_1 hnL0_1 _ h
 change _∧Dn N a1 k2 [] s5=_ at h
 rw[Dn]at h
 refine AB (.q (.q (.r []) (.c .z .z)) (.q (.q (.r []) (.c (.q (.r []) .z) .z)) (.r []))) ?_
 simp(disch:=omega) only[vm,seval,h.1]
 refine⟨hk2 () () _ _ _ _ h.2 slr ?_ ?_ ?_ (by omega)⟩<;>first|(simp(disch:=omega) only[vm,seval,h.1];done)|rfl
 rintro xk5 xsk5 s5 _ _ nL0_1 hnL0_1 _ h Jk5 hk5
 change _∧Dn N a1 k2 (xk5::xsk5) s5=_ at h
 rw[Dn]at h
 refine AB (.q (.q (.r []) (.c .z .z)) (.q (.q (.r []) (.c (.q (.r []) .z) .z)) (.r []))) ?_
 replace h:=AA h
 obtain⟨y6,h⟩:=h
 simp(disch:=omega) only[vm,seval,h.1]
 refine⟨Iw h.1.1 (by first|(simp(disch:=omega) only[vm,seval,h.1];done)|rfl) fun n7 hn7=>?_⟩
 replace h:=AC h
 rcases h with h|h
 obtain⟨H,h⟩:=h
 cases h
 simp(disch:=omega) only[vm,seval,H]
 refine⟨(hR _ _ _ _ _ _ (by simp(disch:=omega) only[vm,seval,H];rfl) slr ?_ (by omega) ?_).1⟩<;>first|(simp(disch:=omega) only[vm,seval,H];done)|rfl
 simp(disch:=omega) only[vm,seval,h.1]
 refine⟨hk5 () () _ _ _ _ h.2 slr ?_ ?_ ?_ (by omega)⟩<;>first|(simp(disch:=omega) only[vm,seval,h.1];done)|rfl
theorem Oh {a0 r} (h:Gz N a0=some r) (ha:args=[.str a0]) (hQ: ∀n',n≤n'→Gl (Q (.int .i64 r) ⟨m,n'⟩)):ACall vE 52 args ⟨m,n⟩ Q:=by
 rw[Gz]at h
 subst ha
 refine ent hQ Tryz.func52 rfl Tryz.ntmps52 Tryz.results52 (.q (.r []) .z) fun R hR=>?_
 replace h:=And.intro trivial h
 simp(disch:=omega) only[vm,seval,h.1]
 refine⟨Ad (γ:=Unit) h [6,7,8,9,10,11,12] [3] (fun j1 g=>[.bool j1]) (fun j1 g=>m) (.r []) ?_ ?_⟩<;>clear h
 rintro j1 _ n4 hnn4 _ _ h
 refine AB .z ?_
 simp(disch:=omega) only[vm,seval,h.1]
 refine⟨Ad (γ:=Unit) h [13,14,15,16,17,18,19,20,21] [0] (fun j6 g=>[.str j6]) (fun j6 g=>m) .z ?_ ?_⟩<;>clear h
 rintro j6 _ n9 hnn9 _ _ h
 refine AB (.q (.r []) .z) ?_
 simp(disch:=omega) only[vm,seval,h.1]
 refine⟨Ad (γ:=Unit) h [5,22,23,24,25,26,27,28,29,30,31,32,33,34,35,36] [4] (fun j18 g=>[.int .i64 j18]) (fun j18 g=>m) (.q (.r []) .z) ?_ ?_⟩<;>clear h
 rintro j18 _ n21 hnn21 _ _ h
 refine AB (.q (.q (.r []) (.c (.q (.r []) .z) .z)) (.q (.r []) .z)) ?_
 replace h:=AC h
 rcases h with h|h
 obtain⟨H,h⟩:=h
 cases h
 simp(disch:=omega) only[vm,seval,H]
 refine⟨(hR _ _ _ _ _ _ (by simp(disch:=omega) only[vm,seval,H];rfl) slr ?_ (by omega) ?_).1⟩<;>first|(simp(disch:=omega) only[vm,seval,H];done)|rfl
 obtain⟨H,h⟩:=h
 cases h
 simp(disch:=omega) only[vm,seval,H]
 refine⟨(hR _ _ _ _ _ _ (by simp(disch:=omega) only[vm,seval,H];rfl) slr ?_ (by omega) ?_).1⟩<;>first|(simp(disch:=omega) only[vm,seval,H];done)|rfl
 intro k19 Jk19 hk19 h
 replace h:=Ag h
 obtain⟨hfk22,h⟩:=h
 simp(disch:=omega) only[vm,seval,h.1]
 refine⟨Hl (σ:=Int) (γ:=Unit) j6 hfk22 (fun xs i s=>Cs N k19 xs s) (fun i s g=>[.int .i64 s,.int .i64 i]) (fun i s g=>m) [22,23,24,25,26,27,28,29,30,31,32,33,34,35,36] [4,5] 0 () h (by first|(simp(disch:=omega) only[vm,seval,h.1];done)|rfl) (by first|(simp(disch:=omega) only[vm,seval,h.1];done)|rfl) ?_ ?_⟩<;>clear h
 rintro s5 s4 _ nL0_1 hnL0_1 _ h
 change _∧Cs N k19 [] s4=_ at h
 rw[Cs]at h
 refine AB (.q (.q (.r []) (.c .z .z)) (.q (.r []) (.r []))) ?_
 simp(disch:=omega) only[vm,seval,h.1]
 refine⟨hk19 s4 () _ _ _ _ h.2 slr ?_ ?_ ?_ (by omega)⟩<;>first|(simp(disch:=omega) only[vm,seval,h.1];done)|rfl
 rintro xk22 xsk22 s5 s4 _ nL0_1 hnL0_1 _ h Jk22 hk22
 change _∧Cs N k19 (xk22::xsk22) s4=_ at h
 rw[Cs]at h
 refine AB (.q (.q (.r []) (.c .z .z)) (.q (.r []) (.r []))) ?_
 simp(disch:=omega) only[vm,seval,h.1]
 refine⟨hk22 (if 1073741824<(wr .i64 ((wr .i64 (s4 * 10))+(wr .i64 (wr .u8 ((Am xk22)-48)))))then 1073741824 else(wr .i64 ((wr .i64 (s4 * 10))+(wr .i64 (wr .u8 ((Am xk22)-48)))))) () _ _ _ _ h.2 slr ?_ ?_ ?_ (by omega)⟩<;>first|(simp(disch:=omega) only[vm,seval,h.1];done)|rfl
 intro k7 Jk7 hk7 h
 simp(disch:=omega) only[vm,seval,h.1]
 refine⟨Ad (γ:=Unit) h [13,14,15,16,17,18] [19] (fun j10 g=>[.bool j10]) (fun j10 g=>m) (.r []) ?_ ?_⟩<;>clear h
 rintro j10 _ n13 hnn13 _ _ h
 refine AB (.c (.r []) .z) ?_
 replace h:=AC h
 rcases h with h|h
 replace h:=AA h
 obtain⟨x17,h⟩:=h
 simp(disch:=omega) only[vm,seval,h.1]
 refine⟨hk7 x17 () _ _ _ _ h.2 slr ?_ ?_ ?_ (by omega)⟩<;>first|(simp(disch:=omega) only[vm,seval,h.1];done)|rfl
 simp(disch:=omega) only[vm,seval,h.1]
 refine⟨hk7 a0 () _ _ _ _ h.2 slr ?_ ?_ ?_ (by omega)⟩<;>first|(simp(disch:=omega) only[vm,seval,h.1];done)|rfl
 intro k11 Jk11 hk11 h
 replace h:=AC h
 rcases h with h|h
 simp(disch:=omega) only[vm,seval,h.1]
 refine⟨hk11 false () _ _ _ _ h.2 slr ?_ ?_ ?_ (by omega)⟩<;>first|(simp(disch:=omega) only[vm,seval,h.1];done)|rfl
 replace h:=AA h
 obtain⟨x14,h⟩:=h
 replace h:=AA h
 obtain⟨y15,h⟩:=h
 simp(disch:=omega) only[vm,seval,h.1]
 refine⟨Iw h.1.1 (by first|(simp(disch:=omega) only[vm,seval,h.1];done)|rfl) fun n16 hn16=>?_⟩
 simp(disch:=omega) only[vm,seval,h.1]
 refine⟨hk11 y15 () _ _ _ _ h.2 slr ?_ ?_ ?_ (by omega)⟩<;>first|(simp(disch:=omega) only[vm,seval,h.1];done)|rfl
 intro k2 Jk2 hk2 h
 replace h:=AC h
 rcases h with h|h
 simp(disch:=omega) only[vm,seval,h.1]
 refine⟨hk2 false () _ _ _ _ h.2 slr ?_ ?_ ?_ (by omega)⟩<;>first|(simp(disch:=omega) only[vm,seval,h.1];done)|rfl
 replace h:=AA h
 obtain⟨x5,h⟩:=h
 simp(disch:=omega) only[vm,seval,h.1]
 refine⟨hk2 ((Am x5)==45) () _ _ _ _ h.2 slr ?_ ?_ ?_ (by omega)⟩<;>first|(simp(disch:=omega) only[vm,seval,h.1];done)|rfl
theorem Sa {a0 r} (h:JK N a0=some r) (ha:args=[.int .u8 a0]) (hQ: ∀n',n≤n'→Gl (Q (.bool r) ⟨m,n'⟩)):ACall vE 55 args ⟨m,n⟩ Q:=by
 rw[JK]at h
 subst ha
 refine ent hQ Tryz.func55 rfl Tryz.ntmps55 Tryz.results55 (.q (.r []) (.q (.r []) .z)) fun R hR=>?_
 replace h:=And.intro trivial h
 replace h:=AA h
 obtain⟨y1,h⟩:=h
 simp(disch:=omega) only[vm,seval,h.1]
 refine⟨Iw h.1.1 (by first|(simp(disch:=omega) only[vm,seval,h.1];done)|rfl) fun n2 hn2=>?_⟩
 obtain⟨H,h⟩:=h
 cases h
 simp(disch:=omega) only[vm,seval,H]
 refine⟨(hR _ _ _ _ _ _ (by simp(disch:=omega) only[vm,seval,H];rfl) slr ?_ (by omega) ?_).1⟩<;>first|(simp(disch:=omega) only[vm,seval,H];done)|rfl
theorem M0 {a0 r} (h:H9 N a0=some r) (ha:args=[.int .u8 a0]) (hQ: ∀n',n≤n'→Gl (Q (.bool r) ⟨m,n'⟩)):ACall vE 138 args ⟨m,n⟩ Q:=by
 rw[H9]at h
 subst ha
 refine ent hQ Tryz.func138 rfl Tryz.ntmps138 Tryz.results138 (.q (.r []) (.q (.r []) .z)) fun R hR=>?_
 replace h:=And.intro trivial h
 replace h:=AA h
 obtain⟨y1,h⟩:=h
 simp(disch:=omega) only[vm,seval,h.1]
 refine⟨GR h.1.1 (by first|(simp(disch:=omega) only[vm,seval,h.1];done)|rfl) fun n2 hn2=>?_⟩
 replace h:=AC h
 rcases h with h|h
 obtain⟨H,h⟩:=h
 cases h
 simp(disch:=omega) only[vm,seval,H]
 refine⟨(hR _ _ _ _ _ _ (by simp(disch:=omega) only[vm,seval,H];rfl) slr ?_ (by omega) ?_).1⟩<;>first|(simp(disch:=omega) only[vm,seval,H];done)|rfl
 replace h:=AC h
 rcases h with h|h
 replace h:=AC h
 rcases h with h|h
 obtain⟨H,h⟩:=h
 cases h
 simp(disch:=omega) only[vm,seval,H]
 refine⟨(hR _ _ _ _ _ _ (by simp(disch:=omega) only[vm,seval,H];rfl) slr ?_ (by omega) ?_).1⟩<;>first|(simp(disch:=omega) only[vm,seval,H];done)|rfl
 replace h:=AC h
 rcases h with h|h
 obtain⟨H,h⟩:=h
 cases h
 simp(disch:=omega) only[vm,seval,H]
 refine⟨(hR _ _ _ _ _ _ (by simp(disch:=omega) only[vm,seval,H];rfl) slr ?_ (by omega) ?_).1⟩<;>first|(simp(disch:=omega) only[vm,seval,H];done)|rfl
 obtain⟨H,h⟩:=h
 cases h
 simp(disch:=omega) only[vm,seval,H]
 refine⟨(hR _ _ _ _ _ _ (by simp(disch:=omega) only[vm,seval,H];rfl) slr ?_ (by omega) ?_).1⟩<;>first|(simp(disch:=omega) only[vm,seval,H];done)|rfl
 replace h:=AC h
 rcases h with h|h
 obtain⟨H,h⟩:=h
 cases h
 simp(disch:=omega) only[vm,seval,H]
 refine⟨(hR _ _ _ _ _ _ (by simp(disch:=omega) only[vm,seval,H];rfl) slr ?_ (by omega) ?_).1⟩<;>first|(simp(disch:=omega) only[vm,seval,H];done)|rfl
 obtain⟨H,h⟩:=h
 cases h
 simp(disch:=omega) only[vm,seval,H]
 refine⟨(hR _ _ _ _ _ _ (by simp(disch:=omega) only[vm,seval,H];rfl) slr ?_ (by omega) ?_).1⟩<;>first|(simp(disch:=omega) only[vm,seval,H];done)|rfl
theorem Jq {a0 r} (h:GL N a0=some r) (ha:args=[.int .i64 a0]) (hQ: ∀n',n≤n'→Gl (Q (.tuple [.str r.1,.int .i64 r.2]) ⟨m,n'⟩)):ACall vE 85 args ⟨m,n⟩ Q:=by
 rw[GL]at h
 subst ha
 refine ent hQ Tryz.func85 rfl Tryz.ntmps85 Tryz.results85 (.q (.r []) (.q (.q (.r []) (.c (.q (.r []) .z) (.q (.r []) (.c (.q (.r []) .z) (.q (.r []) (.c (.q (.r []) .z) (.q (.r []) (.c (.q (.r []) .z) .z)))))))) (.q (.r []) .z))) fun R hR=>?_
 replace h:=And.intro trivial h
 replace h:=AA h
 obtain⟨y1,h⟩:=h
 simp(disch:=omega) only[vm,seval,h.1]
 refine⟨SV h.1.1 (by first|(simp(disch:=omega) only[vm,seval,h.1];done)|rfl) fun n2 hn2=>?_⟩
 replace h:=AC h
 rcases h with h|h
 replace h:=AC h
 rcases h with h|h
 obtain⟨H,h⟩:=h
 cases h
 simp(disch:=omega) only[vm,seval,H]
 refine⟨(hR _ _ _ _ _ _ (by simp(disch:=omega) only[vm,seval,H];rfl) slr ?_ (by omega) ?_).1⟩<;>first|(simp(disch:=omega) only[vm,seval,H];done)|rfl
 replace h:=AC h
 rcases h with h|h
 refine AAv h ?_
 clear h
 intro l3 c h
 replace c:=congrArg (List.map (AVal.int .u8)) c
 simp only[List.map_cons,List.map_nil,eE]at c
 replace h:=Aa c h
 obtain⟨H,h⟩:=h
 cases h
 simp(disch:=omega) only[vm,seval,H]
 refine⟨(hR _ _ _ _ _ _ (by simp(disch:=omega) only[vm,seval,H];rfl) slr ?_ (by omega) ?_).1⟩<;>first|(simp(disch:=omega) only[vm,seval,H];done)|rfl
 replace h:=AC h
 rcases h with h|h
 refine AAv h ?_
 clear h
 intro l4 c h
 replace c:=congrArg (List.map (AVal.int .u8)) c
 simp only[List.map_cons,List.map_nil,eE]at c
 replace h:=Aa c h
 obtain⟨H,h⟩:=h
 cases h
 simp(disch:=omega) only[vm,seval,H]
 refine⟨(hR _ _ _ _ _ _ (by simp(disch:=omega) only[vm,seval,H];rfl) slr ?_ (by omega) ?_).1⟩<;>first|(simp(disch:=omega) only[vm,seval,H];done)|rfl
 refine AAv h ?_
 clear h
 intro l5 c h
 replace c:=congrArg (List.map (AVal.int .u8)) c
 simp only[List.map_cons,List.map_nil,eE]at c
 replace h:=Aa c h
 obtain⟨H,h⟩:=h
 cases h
 simp(disch:=omega) only[vm,seval,H]
 refine⟨(hR _ _ _ _ _ _ (by simp(disch:=omega) only[vm,seval,H];rfl) slr ?_ (by omega) ?_).1⟩<;>first|(simp(disch:=omega) only[vm,seval,H];done)|rfl
 obtain⟨H,h⟩:=h
 cases h
 simp(disch:=omega) only[vm,seval,H]
 refine⟨(hR _ _ _ _ _ _ (by simp(disch:=omega) only[vm,seval,H];rfl) slr ?_ (by omega) ?_).1⟩<;>first|(simp(disch:=omega) only[vm,seval,H];done)|rfl
theorem Hg {a0 a1 r} (h:strings_IndexByte N a0 a1=some r) (ha:args=[.str a0,.int .u8 a1]) (hQ: ∀n',n≤n'→Gl (Q (.int .i64 r) ⟨m,n'⟩)):ACall vE 72 args ⟨m,n⟩ Q:=by
 rw[strings_IndexByte]at h
 subst ha
 refine ent hQ Tryz.func72 rfl Tryz.ntmps72 Tryz.results72 (.q (.r []) (.q (.r []) .z)) fun R hR=>?_
 replace h:=And.intro trivial h
 replace h:=AA h
 obtain⟨y1,h⟩:=h
 simp(disch:=omega) only[vm,seval,h.1]
 refine⟨FZ h.1.1 (by first|(simp(disch:=omega) only[vm,seval,h.1];done)|rfl) fun n2 hn2=>?_⟩
 obtain⟨H,h⟩:=h
 cases h
 simp(disch:=omega) only[vm,seval,H]
 refine⟨(hR _ _ _ _ _ _ (by simp(disch:=omega) only[vm,seval,H];rfl) slr ?_ (by omega) ?_).1⟩<;>first|(simp(disch:=omega) only[vm,seval,H];done)|rfl
theorem Es {a0 r}{i0:Nat} (h:CB N a0=some r) (ha:args=[.ptr i0 0,.fn (.func 90) [] []]) (hi0:Bi m i0=some ([.str a0.s,.int .i64 a0.at_])) (hQ: ∀n',n≤n'→Gl (Q (.str r.1) ⟨Br m i0 ([.str r.2.s,.int .i64 r.2.at_]),n'⟩)):ACall vE 89 args ⟨m,n⟩ Q:=by
 rw[CB]at h
 subst ha
 refine ACall.front hi0 fun hin=>ent (fun n' k=>⟨_,rfl,(hQ n' k).go⟩) Tryz.func89 rfl Tryz.ntmps89 Tryz.results89 (.q (.r []) (.q (.r []) .z)) fun R hR=>?_
 replace h:=And.intro trivial h
 simp(disch:=omega) only[vm,seval,h.1]
 refine⟨Ad (γ:=Unit) h [10,11,12,13,14,15,16,17,18,19,20,21,22,23,24,25,26,27,28,29,30,31,32,33,34,35,36,37,38,39] [] (fun j1 g=>[]) (fun j1 g=>(i0,[.str a0.s,.int .i64 j1])::BP m i0) .z ?_ ?_⟩<;>clear h
 rintro j1 _ n4 hnn4 _ _ h
 refine AB (.q .z .z) ?_
 replace h:=AA h
 obtain⟨x9,h⟩:=h
 simp(disch:=omega) only[vm,seval,h.1]
 refine⟨BB [] (.take 0 (.take 1 (.take 2 (.take 3 (.take 4 (.take 5 (.take 6 (.take 7 (.take 8 (.take 9 (.alt 10 [] (.done) (.stop)))))))))))) Av (by kernel_rfl) ?_⟩
 obtain⟨H,h⟩:=h
 cases h
 simp(disch:=omega) only[vm,seval,H]
 refine⟨(hR _ _ _ _ _ _ (by simp(disch:=omega) only[vm,seval,H];rfl) slr ?_ (by omega) ?_).1⟩<;>first|(simp(disch:=omega) only[vm,seval,H];done)|rfl
 intro k2 Jk2 hk2 h
 replace h:=Ag h
 obtain⟨hfk5,h⟩:=h
 simp(disch:=omega) only[vm,seval,h.1]
 refine⟨NI (σ:=Unit) (γ:=Unit) a0.at_ (a0.s.length:Int) hfk5 (fun xs i s=>BA N a0 k2 xs i) (fun i s g=>[]) (fun i s g=>(i0,[.str a0.s,.int .i64 i])::BP m i0) [10,11,12,13,14,15,16,17,18,19,20,21,22,23,24,25,26,27,28,29,30,31,32,33,34,35,36,37,38,39] [] () () h (by first|(simp(disch:=omega) only[vm,seval,h.1];done)|rfl) (by first|(simp(disch:=omega) only[vm,seval,h.1];done)|rfl) ?_ ?_⟩<;>clear h
 rintro bi0_at_ _ _ nL0_1 hnL0_1 _ h
 change _∧BA N a0 k2 0 bi0_at_=_ at h
 rw[BA]at h
 refine AB (.q (.q .z (.c .z .z)) (.r [])) ?_
 simp(disch:=omega) only[vm,seval,h.1]
 refine⟨BB [] (.take 0 (.take 1 (.take 2 (.take 3 (.take 4 (.take 5 (.take 6 (.take 7 (.take 8 (.take 9 (.take 10 (.take 11 (.take 12 (.take 13 (.take 14 (.take 15 (.take 16 (.take 17 (.take 18 (.take 19 (.take 20 (.alt 21 [19,18,17,16,15,14,13,12,9,8,7,6,5,4,3,2,1,0] (.take 22 (.done)) (.stop))))))))))))))))))))))) Av (by kernel_rfl) ?_⟩
 simp(disch:=omega) only[vm,seval,h.1]
 refine⟨hk2 bi0_at_ () _ _ _ _ h.2 slr ?_ ?_ ?_ (by omega)⟩<;>first|(simp(disch:=omega) only[vm,seval,h.1];done)|rfl
 rintro xsk5 bi0_at_ _ _ nL0_1 hnL0_1 _ h Jk5 hk5
 change _∧BA N a0 k2 (xsk5+1) bi0_at_=_ at h
 rw[BA]at h
 refine AB (.q (.q .z (.c .z .z)) (.r [])) ?_
 replace h:=AA h
 obtain⟨x6,h⟩:=h
 replace h:=AA h
 obtain⟨y7,h⟩:=h
 have cy7:=h.1.1
 simp(disch:=omega) only[vm,seval,h.1]
 refine⟨BB [] (.take 0 (.take 1 (.take 2 (.take 3 (.take 4 (.take 5 (.take 6 (.take 7 (.take 8 (.take 9 (.take 10 (.take 11 (.take 12 (.take 13 (.take 14 (.take 15 (.take 16 (.take 17 (.take 18 (.take 19 (.take 20 (.alt 21 [19,18,17,16,15,14,13,12,9,8,7,6,5,4,3,2,1,0] (.take 22 (.done)) (.stop))))))))))))))))))))))) Av (by kernel_rfl) ?_⟩
 simp(disch:=omega) only[vm,seval,h.1]
 refine⟨JN cy7 (by first|(simp(disch:=omega) only[vm,seval,h.1];done)|rfl) fun n8 hn8=>?_⟩
 replace h:=AC h
 rcases h with h|h
 simp(disch:=omega) only[vm,seval,h.1]
 refine⟨hk5 () () _ _ _ _ h.2 slr ?_ ?_ ?_ (by omega)⟩<;>first|(simp(disch:=omega) only[vm,seval,h.1];done)|rfl
 simp(disch:=omega) only[vm,seval,h.1]
 refine⟨hk2 bi0_at_ () _ _ _ _ h.2 slr ?_ ?_ ?_ (by omega)⟩<;>first|(simp(disch:=omega) only[vm,seval,h.1];done)|rfl
theorem JQ {a0 a1 r} (h:D8 N a0 a1=some r) (ha:args=[.str a0,.str a1]) (hQ: ∀n',n≤n'→Gl (Q (.int .i64 r) ⟨m,n'⟩)):ACall vE 116 args ⟨m,n⟩ Q:=by
 rw[D8]at h
 subst ha
 refine ent hQ Tryz.func116 rfl Tryz.ntmps116 Tryz.results116 (.q (.r []) (.q (.r []) (.q .z (.q (.r []) (.q (.r []) (.q (.r []) (.q (.r []) (.q (.r []) .z)))))))) fun R hR=>?_
 replace h:=And.intro trivial h
 simp(disch:=omega) only[vm,seval,h.1]
 refine⟨Ad (γ:=Unit) h [17,18,19,20,21,22,23] [16] (fun j1 g=>[.bool j1]) (fun j1 g=>m) (.r []) ?_ ?_⟩<;>clear h
 rintro j1 _ n4 hnn4 _ _ h
 refine AB (.c (.q (.r []) .z) (.q (.r []) (.c (.q (.r []) .z) (.q (.r []) (.c (.q (.r []) .z) (.q (.r []) (.c (.q (.r []) .z) .z))))))) ?_
 replace h:=AC h
 rcases h with h|h
 obtain⟨H,h⟩:=h
 cases h
 simp(disch:=omega) only[vm,seval,H]
 refine⟨(hR _ _ _ _ _ _ (by simp(disch:=omega) only[vm,seval,H];rfl) slr ?_ (by omega) ?_).1⟩<;>first|(simp(disch:=omega) only[vm,seval,H];done)|rfl
 replace h:=AC h
 rcases h with h|h
 replace h:=AA h
 obtain⟨x5,h⟩:=h
 replace h:=AA h
 obtain⟨y6,h⟩:=h
 simp(disch:=omega) only[vm,seval,h.1]
 refine⟨FZ h.1.1 (by first|(simp(disch:=omega) only[vm,seval,h.1];done)|rfl) fun n7 hn7=>?_⟩
 obtain⟨H,h⟩:=h
 cases h
 simp(disch:=omega) only[vm,seval,H]
 refine⟨(hR _ _ _ _ _ _ (by simp(disch:=omega) only[vm,seval,H];rfl) slr ?_ (by omega) ?_).1⟩<;>first|(simp(disch:=omega) only[vm,seval,H];done)|rfl
 replace h:=AC h
 rcases h with h|h
 obtain⟨H,h⟩:=h
 cases h
 simp(disch:=omega) only[vm,seval,H]
 refine⟨(hR _ _ _ _ _ _ (by simp(disch:=omega) only[vm,seval,H];rfl) slr ?_ (by omega) ?_).1⟩<;>first|(simp(disch:=omega) only[vm,seval,H];done)|rfl
 cases h.2
 intro k2 Jk2 hk2 h
 replace h:=AC h
 rcases h with h|h
 simp(disch:=omega) only[vm,seval,h.1]
 refine⟨hk2 true () _ _ _ _ h.2 slr ?_ ?_ ?_ (by omega)⟩<;>first|(simp(disch:=omega) only[vm,seval,h.1];done)|rfl
 simp(disch:=omega) only[vm,seval,h.1]
 refine⟨hk2 (a1==a0) () _ _ _ _ h.2 slr ?_ ?_ ?_ (by omega)⟩<;>first|(simp(disch:=omega) only[vm,seval,h.1];done)|rfl
theorem KW {a0 a1 r}{i1:Nat} (h:strings_trimLeftASCII N a0 a1=some r) (ha:args=[.str a0,.ptr i1 0]) (hi1:Bi m i1=some (List.map AVal.bool a1)) (hQ: ∀n',n≤n'→Gl (Q (.str r.1) ⟨Br m i1 (List.map AVal.bool r.2),n'⟩)):ACall vE 95 args ⟨m,n⟩ Q:=by
 rw[strings_trimLeftASCII]at h
 subst ha
 refine ACall.front hi1 fun hin=>ent (fun n' k=>⟨_,rfl,(hQ n' k).go⟩) Tryz.func95 rfl Tryz.ntmps95 Tryz.results95 (.q (.r []) .z) fun R hR=>?_
 replace h:=And.intro trivial h
 simp(disch:=omega) only[vm,seval,h.1]
 refine⟨Ad (γ:=Unit) h [5,6,7,8,9,10,11,12,13,14] [0] (fun j1 g=>[.str j1.1]) (fun j1 g=>(i1,List.map AVal.bool j1.2)::BP m i1) .z ?_ ?_⟩<;>clear h
 rintro j1 _ n4 hnn4 _ _ h
 refine AB (.q (.r []) .z) ?_
 obtain⟨H,h⟩:=h
 cases h
 simp(disch:=omega) only[vm,seval,H]
 refine⟨(hR _ _ _ _ _ _ (by simp(disch:=omega) only[vm,seval,H];rfl) slr ?_ (by omega) ?_).1⟩<;>first|(simp(disch:=omega) only[vm,seval,H];done)|rfl
 intro k2 Jk2 hk2 h
 simp(disch:=omega) only[vm,seval,h.1]
 refine⟨D7 (σ:=(List UInt8)×(List Bool)) (γ:=Unit) (fun k s=>CP N k2 k s.1 s.2) (fun s g=>[.str s.1]) (fun s g=>(i1,List.map AVal.bool s.2)::BP m i1) [5,6,7,8,9,10,11,12,13,14] [0] (a0,a1) () h (fun _=>rfl) (by first|(simp(disch:=omega) only[vm,seval,h.1];done)|rfl) (by first|(simp(disch:=omega) only[vm,seval,h.1];done)|rfl) ?_⟩
 clear h
 rintro k5 ⟨s0,bi1⟩ _ nL0_1 hnL0_1 _ h Jk5 hk5
 change _∧CP N k2 (k5+1) s0 bi1=_ at h
 rw[CP]at h
 refine AB (.q (.q (.r []) (.c .z .z)) (.q (.q (.r []) (.c .z .z)) (.r []))) ?_
 replace h:=AC h
 rcases h with h|h
 replace h:=AA h
 obtain⟨x6,h⟩:=h
 replace h:=AA h
 obtain⟨y7,h⟩:=h
 simp(disch:=omega) only[vm,seval,h.1]
 refine⟨Gj h.1.1 (by first|(simp(disch:=omega) only[vm,seval,h.1];done)|rfl) (i0:=i1) (by simp(disch:=omega) only[vm,seval,h.1]) fun n8 hn8=>?_⟩
 replace h:=AC h
 rcases h with h|h
 replace h:=AA h
 obtain⟨x9,h⟩:=h
 simp(disch:=omega) only[vm,seval,h.1]
 refine⟨hk5 (x9,y7.2) () _ _ _ _ h.2 slr ?_ ?_ ?_ (by omega)⟩<;>first|(simp(disch:=omega) only[vm,seval,h.1];done)|rfl
 simp(disch:=omega) only[vm,seval,h.1]
 refine⟨hk2 (s0,y7.2) () _ _ _ _ h.2 slr ?_ ?_ ?_ (by omega)⟩<;>first|(simp(disch:=omega) only[vm,seval,h.1];done)|rfl
 simp(disch:=omega) only[vm,seval,h.1]
 refine⟨hk2 (s0,bi1) () _ _ _ _ h.2 slr ?_ ?_ ?_ (by omega)⟩<;>first|(simp(disch:=omega) only[vm,seval,h.1];done)|rfl
theorem FI {a0 r} (h:DL N a0=some r) (ha:args=[.str a0]) (hQ: ∀n',n≤n'→Gl (Q (.tuple [.int .i32 r.1,.int .i64 r.2]) ⟨m,n'⟩)):ACall vE 118 args ⟨m,n⟩ Q:=by
 rw[DL]at h
 subst ha
 refine ent hQ Tryz.func118 rfl Tryz.ntmps118 Tryz.results118 (.q (.r []) (.q .z .z)) fun R hR=>?_
 replace h:=And.intro trivial h
 simp(disch:=omega) only[vm,seval,h.1]
 refine⟨Ad (γ:=Unit) h [4,5,6,7,8,9] [10] (fun j1 g=>[.bool j1]) (fun j1 g=>m) (.r []) ?_ ?_⟩<;>clear h
 rintro j1 _ n4 hnn4 _ _ h
 refine AB (.c (.q (.r []) .z) (.r [])) ?_
 replace h:=AC h
 rcases h with h|h
 replace h:=AA h
 obtain⟨x6,h⟩:=h
 obtain⟨H,h⟩:=h
 cases h
 simp(disch:=omega) only[vm,seval,H]
 refine⟨(hR _ _ _ _ _ _ (by simp(disch:=omega) only[vm,seval,H];rfl) slr ?_ (by omega) ?_).1⟩<;>first|(simp(disch:=omega) only[vm,seval,H];done)|rfl
 replace h:=AA h
 obtain⟨y7,h⟩:=h
 simp(disch:=omega) only[vm,seval,h.1]
 refine⟨HY h.1.1 (by first|(simp(disch:=omega) only[vm,seval,h.1];done)|rfl) fun n8 hn8=>?_⟩
 obtain⟨H,h⟩:=h
 cases h
 simp(disch:=omega) only[vm,seval,H]
 refine⟨(hR _ _ _ _ _ _ (by simp(disch:=omega) only[vm,seval,H];rfl) slr ?_ (by omega) ?_).1⟩<;>first|(simp(disch:=omega) only[vm,seval,H];done)|rfl
 intro k2 Jk2 hk2 h
 replace h:=AC h
 rcases h with h|h
 simp(disch:=omega) only[vm,seval,h.1]
 refine⟨hk2 false () _ _ _ _ h.2 slr ?_ ?_ ?_ (by omega)⟩<;>first|(simp(disch:=omega) only[vm,seval,h.1];done)|rfl
 replace h:=AA h
 obtain⟨x5,h⟩:=h
 simp(disch:=omega) only[vm,seval,h.1]
 refine⟨hk2 (decide ((Am x5)<128)) () _ _ _ _ h.2 slr ?_ ?_ ?_ (by omega)⟩<;>first|(simp(disch:=omega) only[vm,seval,h.1];done)|rfl
theorem KH {a0 a1 r}{i1:Nat} (h:strings_trimRightASCII N a0 a1=some r) (ha:args=[.str a0,.ptr i1 0]) (hi1:Bi m i1=some (List.map AVal.bool a1)) (hQ: ∀n',n≤n'→Gl (Q (.str r.1) ⟨Br m i1 (List.map AVal.bool r.2),n'⟩)):ACall vE 98 args ⟨m,n⟩ Q:=by
 rw[strings_trimRightASCII]at h
 subst ha
 refine ACall.front hi1 fun hin=>ent (fun n' k=>⟨_,rfl,(hQ n' k).go⟩) Tryz.func98 rfl Tryz.ntmps98 Tryz.results98 (.q (.r []) .z) fun R hR=>?_
 replace h:=And.intro trivial h
 simp(disch:=omega) only[vm,seval,h.1]
 refine⟨Ad (γ:=Unit) h [5,6,7,8,9,10,11,12,13,14,15,16,17,18,19,20] [0] (fun j1 g=>[.str j1.1]) (fun j1 g=>(i1,List.map AVal.bool j1.2)::BP m i1) .z ?_ ?_⟩<;>clear h
 rintro j1 _ n4 hnn4 _ _ h
 refine AB (.q (.r []) .z) ?_
 obtain⟨H,h⟩:=h
 cases h
 simp(disch:=omega) only[vm,seval,H]
 refine⟨(hR _ _ _ _ _ _ (by simp(disch:=omega) only[vm,seval,H];rfl) slr ?_ (by omega) ?_).1⟩<;>first|(simp(disch:=omega) only[vm,seval,H];done)|rfl
 intro k2 Jk2 hk2 h
 simp(disch:=omega) only[vm,seval,h.1]
 refine⟨D7 (σ:=(List UInt8)×(List Bool)) (γ:=Unit) (fun k s=>Db N k2 k s.1 s.2) (fun s g=>[.str s.1]) (fun s g=>(i1,List.map AVal.bool s.2)::BP m i1) [5,6,7,8,9,10,11,12,13,14,15,16,17,18,19,20] [0] (a0,a1) () h (fun _=>rfl) (by first|(simp(disch:=omega) only[vm,seval,h.1];done)|rfl) (by first|(simp(disch:=omega) only[vm,seval,h.1];done)|rfl) ?_⟩
 clear h
 rintro k5 ⟨s0,bi1⟩ _ nL0_1 hnL0_1 _ h Jk5 hk5
 change _∧Db N k2 (k5+1) s0 bi1=_ at h
 rw[Db]at h
 refine AB (.q (.q (.r []) (.c .z .z)) (.q (.q (.r []) (.c .z .z)) (.r []))) ?_
 replace h:=AC h
 rcases h with h|h
 replace h:=AA h
 obtain⟨x6,h⟩:=h
 replace h:=AA h
 obtain⟨y7,h⟩:=h
 simp(disch:=omega) only[vm,seval,h.1]
 refine⟨Gj h.1.1 (by first|(simp(disch:=omega) only[vm,seval,h.1];done)|rfl) (i0:=i1) (by simp(disch:=omega) only[vm,seval,h.1]) fun n8 hn8=>?_⟩
 replace h:=AC h
 rcases h with h|h
 replace h:=AA h
 obtain⟨x9,h⟩:=h
 simp(disch:=omega) only[vm,seval,h.1]
 refine⟨hk5 (x9,y7.2) () _ _ _ _ h.2 slr ?_ ?_ ?_ (by omega)⟩<;>first|(simp(disch:=omega) only[vm,seval,h.1];done)|rfl
 simp(disch:=omega) only[vm,seval,h.1]
 refine⟨hk2 (s0,y7.2) () _ _ _ _ h.2 slr ?_ ?_ ?_ (by omega)⟩<;>first|(simp(disch:=omega) only[vm,seval,h.1];done)|rfl
 simp(disch:=omega) only[vm,seval,h.1]
 refine⟨hk2 (s0,bi1) () _ _ _ _ h.2 slr ?_ ?_ ?_ (by omega)⟩<;>first|(simp(disch:=omega) only[vm,seval,h.1];done)|rfl
theorem QN {a0 r} (h:IJ N a0=some r) (ha:args=[.int .u8 a0]) (hQ: ∀n',n≤n'→Gl (Q (.int .u64 r) ⟨m,n'⟩)):ACall vE 136 args ⟨m,n⟩ Q:=by
 rw[IJ]at h
 subst ha
 refine ent hQ Tryz.func136 rfl Tryz.ntmps136 Tryz.results136 (.q (.r []) (.q (.q (.r []) (.c (.q (.r []) .z) .z)) (.q (.r []) .z))) fun R hR=>?_
 replace h:=And.intro trivial h
 replace h:=AA h
 obtain⟨y1,h⟩:=h
 simp(disch:=omega) only[vm,seval,h.1]
 refine⟨JN h.1.1 (by first|(simp(disch:=omega) only[vm,seval,h.1];done)|rfl) fun n2 hn2=>?_⟩
 replace h:=AC h
 rcases h with h|h
 obtain⟨H,h⟩:=h
 cases h
 simp(disch:=omega) only[vm,seval,H]
 refine⟨(hR _ _ _ _ _ _ (by simp(disch:=omega) only[vm,seval,H];rfl) slr ?_ (by omega) ?_).1⟩<;>first|(simp(disch:=omega) only[vm,seval,H];done)|rfl
 obtain⟨H,h⟩:=h
 cases h
 simp(disch:=omega) only[vm,seval,H]
 refine⟨(hR _ _ _ _ _ _ (by simp(disch:=omega) only[vm,seval,H];rfl) slr ?_ (by omega) ?_).1⟩<;>first|(simp(disch:=omega) only[vm,seval,H];done)|rfl
theorem Mg {a0 a1 r} (h:strings_HasPrefix N a0 a1=some r) (ha:args=[.str a0,.str a1]) (hQ: ∀n',n≤n'→Gl (Q (.bool r) ⟨m,n'⟩)):ACall vE 101 args ⟨m,n⟩ Q:=by
 rw[strings_HasPrefix]at h
 subst ha
 refine ent hQ Tryz.func101 rfl Tryz.ntmps101 Tryz.results101 (.q (.r []) (.q (.r []) .z)) fun R hR=>?_
 replace h:=And.intro trivial h
 replace h:=AA h
 obtain⟨y1,h⟩:=h
 simp(disch:=omega) only[vm,seval,h.1]
 refine⟨IW h.1.1 (by first|(simp(disch:=omega) only[vm,seval,h.1];done)|rfl) fun n2 hn2=>?_⟩
 obtain⟨H,h⟩:=h
 cases h
 simp(disch:=omega) only[vm,seval,H]
 refine⟨(hR _ _ _ _ _ _ (by simp(disch:=omega) only[vm,seval,H];rfl) slr ?_ (by omega) ?_).1⟩<;>first|(simp(disch:=omega) only[vm,seval,H];done)|rfl
theorem Nw {a0 a1 r} (h:GX N a0 a1=some r) (ha:args=[.str a0,.int .i64 a1]) (hQ: ∀n',n≤n'→Gl (Q (.tuple [.int .i64 r.1,.int .i64 r.2.1,.int .i64 r.2.2]) ⟨m,n'⟩)):ACall vE 102 args ⟨m,n⟩ Q:=by
 rw[GX]at h
 subst ha
 refine ent hQ Tryz.func102 rfl Tryz.ntmps102 Tryz.results102 (.q (.r []) (.q .z .z)) fun R hR=>?_
 replace h:=And.intro trivial h
 simp(disch:=omega) only[vm,seval,h.1]
 refine⟨Ad (γ:=Unit) h [11,12,13,14,15,16,17] [18] (fun j1 g=>[.bool j1]) (fun j1 g=>m) (.r []) ?_ ?_⟩<;>clear h
 rintro j1 _ n4 hnn4 _ _ h
 refine AB (.c (.q (.r []) .z) .z) ?_
 replace h:=AC h
 rcases h with h|h
 obtain⟨H,h⟩:=h
 cases h
 simp(disch:=omega) only[vm,seval,H]
 refine⟨(hR _ _ _ _ _ _ (by simp(disch:=omega) only[vm,seval,H];rfl) slr ?_ (by omega) ?_).1⟩<;>first|(simp(disch:=omega) only[vm,seval,H];done)|rfl
 simp(disch:=omega) only[vm,seval,h.1]
 refine⟨Ad (γ:=Unit) h [4,5,6,7,8,9,10,19,20,21,22,23,24,25,26,27,28,29,30,31,32,33,34,35,36,37,38,39,40,41,42,43,44,45,46,47,48,49,50,51,52,53,54,55,56,57,58,59,60,61,62,63,64,65,66,67,68,69,70,71,72,73,74,75,76,77,78,79,80,81,82,83] [] (fun j5 g=>[]) (fun j5 g=>m) (.q (.r []) .z) ?_ ?_⟩<;>clear h
 rintro j5 _ n8 hnn8 _ _ h
 refine AB (.q (.r []) .z) ?_
 obtain⟨H,h⟩:=h
 cases h
 simp(disch:=omega) only[vm,seval,H]
 refine⟨(hR _ _ _ _ _ _ (by simp(disch:=omega) only[vm,seval,H];rfl) slr ?_ (by omega) ?_).1⟩<;>first|(simp(disch:=omega) only[vm,seval,H];done)|rfl
 intro k6 Jk6 hk6 h
 replace h:=Ag h
 obtain⟨hfk9,h⟩:=h
 simp(disch:=omega) only[vm,seval,h.1]
 refine⟨NI (σ:=Unit) (γ:=Unit) 0 4 hfk9 (fun xs i s=>Bw N a0 a1 k6 xs i) (fun i s g=>[.int .i64 i]) (fun i s g=>m) [4,5,6,7,8,9,10,21,22,23,24,25,26,27,28,29,30,31,32,33,34,35,36,37,38,39,40,41,42,43,44,45,46,47,48,49,50,51,52,53,54,55,56,57,58,59,60,61,62,63,64,65,66,67,68,69,70,71,72,73,74,75,76,77,78,79,80,81,82,83] [20] () () h (by first|(simp(disch:=omega) only[vm,seval,h.1];done)|rfl) (by first|(simp(disch:=omega) only[vm,seval,h.1];done)|rfl) ?_ ?_⟩<;>clear h
 rintro s20 _ _ nL0_1 hnL0_1 _ h
 change _∧Bw N a0 a1 k6 0 s20=_ at h
 rw[Bw]at h
 refine AB (.q (.r []) (.q (.c .z .z) (.q (.q (.r []) (.q (.q .z (.c .z .z)) (.q .z (.q (.q (.r []) (.c .z .z)) .z)))) (.r [])))) ?_
 simp(disch:=omega) only[vm,seval,h.1]
 refine⟨hk6 () () _ _ _ _ h.2 slr ?_ ?_ ?_ (by omega)⟩<;>first|(simp(disch:=omega) only[vm,seval,h.1];done)|rfl
 rintro xsk9 s20 _ _ nL0_1 hnL0_1 _ h Jk9 hk9
 change _∧Bw N a0 a1 k6 (xsk9+1) s20=_ at h
 rw[Bw]at h
 refine AB (.q (.r []) (.q (.c .z .z) (.q (.q (.r []) (.q (.q .z (.c .z .z)) (.q .z (.q (.q (.r []) (.c .z .z)) .z)))) (.r [])))) ?_
 replace h:=AA h
 obtain⟨x10,h⟩:=h
 replace h:=Aa (Lc (k:=.i64) h.1.1) h
 replace h:=AA h
 obtain⟨x11,h⟩:=h
 simp(disch:=omega) only[vm,seval,h.1]
 refine⟨BB [] (.take 0 (.take 1 (.take 2 (.take 3 (.take 4 (.take 5 (.take 6 (.take 7 (.take 8 (.done)))))))))) Av (by kernel_rfl) ?_⟩
 replace h:=AC h
 rcases h with h|h
 simp(disch:=omega) only[vm,seval,h.1]
 refine⟨hk9 () () _ _ _ _ h.2 (.cons _ slr) ?_ ?_ ?_ (by omega)⟩<;>first|(simp(disch:=omega) only[vm,seval,h.1];done)|rfl
 simp(disch:=omega) only[vm,seval,h.1]
 refine⟨BB [] (.take 0 (.take 1 (.take 2 (.take 3 (.take 4 (.take 5 (.take 6 (.alt 7 [] (.done) (.stop))))))))) Av (by kernel_rfl) ?_⟩
 replace h:=AC h
 rcases h with h|h
 simp(disch:=omega) only[vm,seval,h.1]
 refine⟨hk6 () () _ _ _ _ h.2 (.cons _ slr) ?_ ?_ ?_ (by omega)⟩<;>first|(simp(disch:=omega) only[vm,seval,h.1];done)|rfl
 simp(disch:=omega) only[vm,seval,h.1]
 refine⟨Ad (γ:=Unit) h [4,5,6,10,47,48,49,50,51,52,53,54,55,56,57,58,59,60,61,62,63,64,65,66,67,68] [9] (fun j12 g=>[.int .i64 j12]) (fun j12 g=>(nL0_1,[.int .u8 x10.mark,.int .u8 x10.mask,.int .i64 x10.least])::m) (.q (.r []) .z) ?_ ?_⟩<;>clear h
 rintro j12 _ n15 hnn15 _ _ h
 refine AB (.q .z (.q (.r []) .z)) ?_
 simp(disch:=omega) only[vm,seval,h.1]
 refine⟨Ad (γ:=Unit) h [69,70,71,72,73,74,75,76] [77] (fun j18 g=>[.bool j18]) (fun j18 g=>(nL0_1,[.int .u8 x10.mark,.int .u8 x10.mask,.int .i64 x10.least])::m) (.r []) ?_ ?_⟩<;>clear h
 rintro j18 _ n21 hnn21 _ _ h
 refine AB (.c .z .z) ?_
 replace h:=AC h
 rcases h with h|h
 simp(disch:=omega) only[vm,seval,h.1]
 refine⟨hk6 () () _ _ _ _ h.2 (.cons _ slr) ?_ ?_ ?_ (by omega)⟩<;>first|(simp(disch:=omega) only[vm,seval,h.1];done)|rfl
 obtain⟨H,h⟩:=h
 cases h
 simp(disch:=omega) only[vm,seval,H]
 refine⟨(hR _ _ _ _ _ _ (by simp(disch:=omega) only[vm,seval,H];rfl) (.cons _ slr) ?_ (by omega) ?_).1⟩<;>first|(simp(disch:=omega) only[vm,seval,H];done)|rfl
 intro k19 Jk19 hk19 h
 replace h:=AC h
 rcases h with h|h
 simp(disch:=omega) only[vm,seval,h.1]
 refine⟨hk19 true () _ _ _ _ h.2 slr ?_ ?_ ?_ (by omega)⟩<;>first|(simp(disch:=omega) only[vm,seval,h.1];done)|rfl
 replace h:=AA h
 obtain⟨y22,h⟩:=h
 simp(disch:=omega) only[vm,seval,h.1]
 refine⟨OZ h.1.1 (by first|(simp(disch:=omega) only[vm,seval,h.1];done)|rfl) fun n23 hn23=>?_⟩
 simp(disch:=omega) only[vm,seval,h.1]
 refine⟨hk19 (!y22) () _ _ _ _ h.2 slr ?_ ?_ ?_ (by omega)⟩<;>first|(simp(disch:=omega) only[vm,seval,h.1];done)|rfl
 intro k13 Jk13 hk13 h
 simp(disch:=omega) only[vm,seval,h.1]
 refine⟨D7 (σ:=Int×Int) (γ:=Unit) (fun k s=>BM N a0 a1 s20 k13 k s.1 s.2) (fun s g=>[.int .i64 s.1,.int .i64 s.2]) (fun s g=>(nL0_1,[.int .u8 x10.mark,.int .u8 x10.mask,.int .i64 x10.least])::m) [4,5,6,47,48,49,50,51,52,53,54,55,56,57,58,59,60,61,62,63,64,65,66,67,68] [9,10] ((wr .i64 (Dc .u8 (Am x11) x10.mask)),1) () h (fun _=>rfl) (by first|(simp(disch:=omega) only[vm,seval,h.1];done)|rfl) (by first|(simp(disch:=omega) only[vm,seval,h.1];done)|rfl) ?_⟩
 clear h
 rintro k16 ⟨s9,s10⟩ _ nL1_2 hnL1_2 _ h Jk16 hk16
 change _∧BM N a0 a1 s20 k13 (k16+1) s9 s10=_ at h
 rw[BM]at h
 refine AB (.q (.q (.r []) (.c .z .z)) (.q (.q (.q (.r []) (.c (.q (.r []) .z) .z)) (.r [])) (.r []))) ?_
 replace h:=AC h
 rcases h with h|h
 replace h:=AA h
 obtain⟨x17,h⟩:=h
 replace h:=AC h
 rcases h with h|h
 obtain⟨H,h⟩:=h
 cases h
 simp(disch:=omega) only[vm,seval,H]
 refine⟨(hR _ _ _ _ _ _ (by simp(disch:=omega) only[vm,seval,H];rfl) (.cons _ slr) ?_ (by omega) ?_).1⟩<;>first|(simp(disch:=omega) only[vm,seval,H];done)|rfl
 simp(disch:=omega) only[vm,seval,h.1]
 refine⟨hk16 ((Iy .i64 (JE .i64 s9 6) (wr .i64 (Dc .u8 (Am x17) 63))),(wr .i64 (s10+1))) () _ _ _ _ h.2 slr ?_ ?_ ?_ (by omega)⟩<;>first|(simp(disch:=omega) only[vm,seval,h.1];done)|rfl
 simp(disch:=omega) only[vm,seval,h.1]
 refine⟨hk13 s9 () _ _ _ _ h.2 slr ?_ ?_ ?_ (by omega)⟩<;>first|(simp(disch:=omega) only[vm,seval,h.1];done)|rfl
 intro k2 Jk2 hk2 h
 replace h:=AC h
 rcases h with h|h
 simp(disch:=omega) only[vm,seval,h.1]
 refine⟨hk2 true () _ _ _ _ h.2 slr ?_ ?_ ?_ (by omega)⟩<;>first|(simp(disch:=omega) only[vm,seval,h.1];done)|rfl
 simp(disch:=omega) only[vm,seval,h.1]
 refine⟨hk2 (decide (a1≥(a0.length:Int))) () _ _ _ _ h.2 slr ?_ ?_ ?_ (by omega)⟩<;>first|(simp(disch:=omega) only[vm,seval,h.1];done)|rfl
theorem Ae {a0 a1 r}{i0:Nat} (h:AL N a0 a1=some r) (ha:args=[.ptr i0 0,.str a1]) (hi0:Bi m i0=some ([Fb i0 51 2 a0.builder.addr,.buf 5 a0.builder.buf true])) (hQ: ∀n',n≤n'→Gl (Q (.tuple [.int .i64 r.1,.nilIface]) ⟨Br m i0 ([Fb i0 51 2 r.2.2.builder.addr,.buf 5 r.2.2.builder.buf true]),n'⟩)):ACall vE 40 args ⟨m,n⟩ Q:=by
 rw[AL]at h
 subst ha
 refine ACall.front hi0 fun hin=>ent (fun n' k=>⟨_,rfl,(hQ n' k).go⟩) Tryz.func40 rfl Tryz.ntmps40 Tryz.results40 (.q (.r []) (.q (.r []) (.q (.r [12]) (.q (.r []) .z)))) fun R hR=>?_
 replace h:=And.intro trivial h
 replace h:=AA h
 obtain⟨y1,h⟩:=h
 simp(disch:=omega) only[vm,seval,h.1]
 refine⟨Fv h.1.1 (by first|(simp(disch:=omega) only[vm,seval,h.1];done)|rfl) (i0:=i0) (by simp(disch:=omega) only[vm,seval,h.1]) fun n2 hn2=>?_⟩
 replace h:=Ag h
 obtain⟨c,h⟩:=h
 try simp only[liE,seval]at c
 replace h:=Aa c h
 obtain⟨H,h⟩:=h
 cases h
 simp(disch:=omega) only[vm,seval,H]
 refine⟨(hR _ _ _ _ _ _ (by simp(disch:=omega) only[vm,seval,H];rfl) slr ?_ (by omega) ?_).1⟩<;>first|(simp(disch:=omega) only[vm,seval,H];done)|rfl
theorem LW {a0 r} (h:Ho N a0=some r) (ha:args=[.int .u64 a0]) (hQ: ∀n',n≤n'→Gl (Q (.int .i64 r) ⟨m,n'⟩)):ACall vE 82 args ⟨m,n⟩ Q:=by
 rw[Ho]at h
 subst ha
 refine ent hQ Tryz.func82 rfl Tryz.ntmps82 Tryz.results82 (.q (.r []) (.q (.c (.q (.r []) .z) .z) (.q (.r []) .z))) fun R hR=>?_
 replace h:=And.intro trivial h
 replace h:=AA h
 obtain⟨y1,h⟩:=h
 simp(disch:=omega) only[vm,seval,h.1]
 refine⟨OE h.1.1 (by first|(simp(disch:=omega) only[vm,seval,h.1];done)|rfl) fun n2 hn2=>?_⟩
 obtain⟨H,h⟩:=h
 cases h
 simp(disch:=omega) only[vm,seval,H]
 refine⟨(hR _ _ _ _ _ _ (by simp(disch:=omega) only[vm,seval,H];rfl) slr ?_ (by omega) ?_).1⟩<;>first|(simp(disch:=omega) only[vm,seval,H];done)|rfl
theorem Ld {a0 a1 r} (h:GJ N a0 a1=some r) (ha:args=[.str a0,.str a1]) (hQ: ∀n',n≤n'→Gl (Q (.int .i64 r) ⟨m,n'⟩)):ACall vE 67 args ⟨m,n⟩ Q:=by
 rw[GJ]at h
 subst ha
 refine ent hQ Tryz.func67 rfl Tryz.ntmps67 Tryz.results67 (.q (.r []) (.q (.r []) (.q (.r []) (.q (.q (.r []) (.c (.q (.q (.r []) (.c (.q (.r []) .z) .z)) (.q (.r []) .z)) .z)) (.q (.q (.r []) (.c (.q (.r []) .z) .z)) (.q (.q (.r []) (.c (.q (.r []) .z) .z)) (.q (.q (.r []) (.c (.q (.r []) .z) .z)) (.q (.r []) .z)))))))) fun R hR=>?_
 replace h:=And.intro trivial h
 replace h:=AA h
 obtain⟨y1,h⟩:=h
 simp(disch:=omega) only[vm,seval,h.1]
 refine⟨Jf h.1.1 (by first|(simp(disch:=omega) only[vm,seval,h.1];done)|rfl) fun n2 hn2=>?_⟩
 replace h:=AA h
 obtain⟨y3,h⟩:=h
 simp(disch:=omega) only[vm,seval,h.1]
 refine⟨Jf h.1.1 (by first|(simp(disch:=omega) only[vm,seval,h.1];done)|rfl) fun n4 hn4=>?_⟩
 replace h:=AC h
 rcases h with h|h
 replace h:=AC h
 rcases h with h|h
 obtain⟨H,h⟩:=h
 cases h
 simp(disch:=omega) only[vm,seval,H]
 refine⟨(hR _ _ _ _ _ _ (by simp(disch:=omega) only[vm,seval,H];rfl) slr ?_ (by omega) ?_).1⟩<;>first|(simp(disch:=omega) only[vm,seval,H];done)|rfl
 obtain⟨H,h⟩:=h
 cases h
 simp(disch:=omega) only[vm,seval,H]
 refine⟨(hR _ _ _ _ _ _ (by simp(disch:=omega) only[vm,seval,H];rfl) slr ?_ (by omega) ?_).1⟩<;>first|(simp(disch:=omega) only[vm,seval,H];done)|rfl
 replace h:=AC h
 rcases h with h|h
 obtain⟨H,h⟩:=h
 cases h
 simp(disch:=omega) only[vm,seval,H]
 refine⟨(hR _ _ _ _ _ _ (by simp(disch:=omega) only[vm,seval,H];rfl) slr ?_ (by omega) ?_).1⟩<;>first|(simp(disch:=omega) only[vm,seval,H];done)|rfl
 replace h:=AC h
 rcases h with h|h
 obtain⟨H,h⟩:=h
 cases h
 simp(disch:=omega) only[vm,seval,H]
 refine⟨(hR _ _ _ _ _ _ (by simp(disch:=omega) only[vm,seval,H];rfl) slr ?_ (by omega) ?_).1⟩<;>first|(simp(disch:=omega) only[vm,seval,H];done)|rfl
 replace h:=AC h
 rcases h with h|h
 obtain⟨H,h⟩:=h
 cases h
 simp(disch:=omega) only[vm,seval,H]
 refine⟨(hR _ _ _ _ _ _ (by simp(disch:=omega) only[vm,seval,H];rfl) slr ?_ (by omega) ?_).1⟩<;>first|(simp(disch:=omega) only[vm,seval,H];done)|rfl
 obtain⟨H,h⟩:=h
 cases h
 simp(disch:=omega) only[vm,seval,H]
 refine⟨(hR _ _ _ _ _ _ (by simp(disch:=omega) only[vm,seval,H];rfl) slr ?_ (by omega) ?_).1⟩<;>first|(simp(disch:=omega) only[vm,seval,H];done)|rfl
end Go.Proofs.YtooeobhihpkicaaGreatDoor
