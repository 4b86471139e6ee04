import Derived.Test.YtjgdhjpafjpjgaaGreatDoorVmFacts
import Derived.Test.YtjgdhjpafjpjgaaGreatDoorDefs
import Derived.Test.YtjgdhjpafjpjgaaGreatDoorVM2
import Derived.Test.YtjgdhjpafjpjgaaGreatDoorW0
import Derived.Test.YtjgdhjpafjpjgaaGreatDoorW2
import Derived.Test.YtjgdhjpafjpjgaaGreatDoorW4
import Derived.Test.YtjgdhjpafjpjgaaGreatDoorW5
set_option linter.unusedVariables false
set_option linter.unusedSimpArgs false
set_option maxHeartbeats 4000000
set_option maxRecDepth 100000
set_option linter.defProp false
namespace Go.Proofs.YtjgdhjpafjpjgaaGreatDoor
open Go.VM
variable{N n:Nat}{m:MS}{Q:PQ}{args:List AVal}
theorem EK {a0 a1 r} (h:strings_Cut N a0 a1=some r) (ha:args=[.str a0,.str a1]) (hQ: ∀n',n≤n'→Gl (Q (.tuple [.str r.1,.str r.2.1,.bool r.2.2]) ⟨m,n'⟩)):ACall vE 38 args ⟨m,n⟩ Q:=by
 rw[strings_Cut]at h
 subst ha
 refine ent hQ Tryz.func38 rfl Tryz.ntmps38 Tryz.results38 (.q (.r []) (.q (.r []) .z)) fun R hR=>?_
 replace h:=And.intro trivial h
 replace h:=AA h
 obtain⟨y1,h⟩:=h
 simp(disch:=omega) only[vm,seval,h.1]
 refine⟨Kn h.1.1 (by first|(simp(disch:=omega) only[vm,seval,h.1];done)|rfl) fun n2 hn2=>?_⟩
 obtain⟨H,h⟩:=h
 cases h
 simp(disch:=omega) only[vm,seval,H]
 refine⟨(hR _ _ _ _ _ _ (by simp(disch:=omega) only[vm,seval,H];rfl) slr ?_ (by omega) ?_).1⟩<;>first|(simp(disch:=omega) only[vm,seval,H];done)|rfl
theorem EO {a0 r} (h:CF N a0=some r) (ha:args=[.int .u8 a0]) (hQ: ∀n',n≤n'→Gl (Q (.bool r) ⟨m,n'⟩)):ACall vE 77 args ⟨m,n⟩ Q:=by
 rw[CF]at h
 subst ha
 refine ent hQ Tryz.func77 rfl Tryz.ntmps77 Tryz.results77 (.q (.r []) (.q (.r []) .z)) fun R hR=>?_
 replace h:=And.intro trivial h
 replace h:=AA h
 obtain⟨y1,h⟩:=h
 simp(disch:=omega) only[vm,seval,h.1]
 refine⟨Ui h.1.1 (by first|(simp(disch:=omega) only[vm,seval,h.1];done)|rfl) fun n2 hn2=>?_⟩
 replace h:=AC h
 rcases h with h|h
 obtain⟨H,h⟩:=h
 cases h
 simp(disch:=omega) only[vm,seval,H]
 refine⟨(hR _ _ _ _ _ _ (by simp(disch:=omega) only[vm,seval,H];rfl) slr ?_ (by omega) ?_).1⟩<;>first|(simp(disch:=omega) only[vm,seval,H];done)|rfl
 replace h:=AA h
 obtain⟨y3,h⟩:=h
 simp(disch:=omega) only[vm,seval,h.1]
 refine⟨UQ h.1.1 (by first|(simp(disch:=omega) only[vm,seval,h.1];done)|rfl) fun n4 hn4=>?_⟩
 obtain⟨H,h⟩:=h
 cases h
 simp(disch:=omega) only[vm,seval,H]
 refine⟨(hR _ _ _ _ _ _ (by simp(disch:=omega) only[vm,seval,H];rfl) slr ?_ (by omega) ?_).1⟩<;>first|(simp(disch:=omega) only[vm,seval,H];done)|rfl
theorem R9 {a0 a1 r} (h:I1 N a0 a1=some r) (ha:args=[.str a0,.int .u64 a1]) (hQ: ∀n',n≤n'→Gl (Q (.tuple [.int .u64 r.1,.int .i64 r.2]) ⟨m,n'⟩)):ACall vE 237 args ⟨m,n⟩ Q:=by
 rw[I1]at h
 subst ha
 refine ent hQ Tryz.func237 rfl Tryz.ntmps237 Tryz.results237 (.q (.r []) (.q (.r []) .z)) fun R hR=>?_
 replace h:=And.intro trivial h
 replace h:=AA h
 obtain⟨y1,h⟩:=h
 simp(disch:=omega) only[vm,seval,h.1]
 refine⟨Jc h.1.1 (by first|(simp(disch:=omega) only[vm,seval,h.1];done)|rfl) fun n2 hn2=>?_⟩
 obtain⟨H,h⟩:=h
 cases h
 simp(disch:=omega) only[vm,seval,H]
 refine⟨(hR _ _ _ _ _ _ (by simp(disch:=omega) only[vm,seval,H];rfl) slr ?_ (by omega) ?_).1⟩<;>first|(simp(disch:=omega) only[vm,seval,H];done)|rfl
theorem Me {a0 a1 r} (h:strings_Count N a0 a1=some r) (ha:args=[.str a0,.str a1]) (hQ: ∀n',n≤n'→Gl (Q (.int .i64 r) ⟨m,n'⟩)):ACall vE 248 args ⟨m,n⟩ Q:=by
 rw[strings_Count]at h
 subst ha
 refine ent hQ Tryz.func248 rfl Tryz.ntmps248 Tryz.results248 (.q (.r []) (.q (.q (.r []) (.c (.q (.r []) .z) .z)) (.q (.q (.r []) (.c (.q (.r []) .z) .z)) (.q (.r []) .z)))) fun R hR=>?_
 replace h:=And.intro trivial h
 replace h:=AC h
 rcases h with h|h
 replace h:=AA h
 obtain⟨y1,h⟩:=h
 simp(disch:=omega) only[vm,seval,h.1]
 refine⟨Ev h.1.1 (by first|(simp(disch:=omega) only[vm,seval,h.1];done)|rfl) fun n2 hn2=>?_⟩
 obtain⟨H,h⟩:=h
 cases h
 simp(disch:=omega) only[vm,seval,H]
 refine⟨(hR _ _ _ _ _ _ (by simp(disch:=omega) only[vm,seval,H];rfl) slr ?_ (by omega) ?_).1⟩<;>first|(simp(disch:=omega) only[vm,seval,H];done)|rfl
 replace h:=AC h
 rcases h with h|h
 replace h:=AA h
 obtain⟨x3,h⟩:=h
 simp(disch:=omega) only[vm,seval,h.1]
 refine⟨ARR ?_⟩
 obtain⟨H,h⟩:=h
 cases h
 simp(disch:=omega) only[vm,seval,H]
 refine⟨(hR _ _ _ _ _ _ (by simp(disch:=omega) only[vm,seval,H];rfl) slr ?_ (by omega) ?_).1⟩<;>first|(simp(disch:=omega) only[vm,seval,H];done)|rfl
 simp(disch:=omega) only[vm,seval,h.1]
 refine⟨Ka (σ:=(List UInt8)×Int) (γ:=Unit) (fun k s=>FQ N a1 k s.1 s.2) (fun s g=>[.str s.1,.int .i64 s.2]) (fun s g=>m) [4,6,20,21,22,23,24,25,26,27,28,29,30,31,32,33] [0,5] (a0,0) () h (fun _=>rfl) (by first|(simp(disch:=omega) only[vm,seval,h.1];done)|rfl) (by first|(simp(disch:=omega) only[vm,seval,h.1];done)|rfl) ?_⟩
 clear h
 rintro k4 ⟨s0,s5⟩ _ nL0_1 hnL0_1 _ h Jk4 hk4
 change _∧FQ N a1 (k4+1) s0 s5=_ at h
 rw[FQ]at h
 refine AB (.q (.r []) (.q (.q (.r []) (.c (.q (.r []) .z) .z)) (.q (.r []) (.r [])))) ?_
 replace h:=AA h
 obtain⟨y5,h⟩:=h
 simp(disch:=omega) only[vm,seval,h.1]
 refine⟨H5 h.1.1 (by first|(simp(disch:=omega) only[vm,seval,h.1];done)|rfl) fun n6 hn6=>?_⟩
 replace h:=AC h
 rcases h with h|h
 obtain⟨H,h⟩:=h
 cases h
 simp(disch:=omega) only[vm,seval,H]
 refine⟨(hR _ _ _ _ _ _ (by simp(disch:=omega) only[vm,seval,H];rfl) slr ?_ (by omega) ?_).1⟩<;>first|(simp(disch:=omega) only[vm,seval,H];done)|rfl
 replace h:=AA h
 obtain⟨x7,h⟩:=h
 simp(disch:=omega) only[vm,seval,h.1]
 refine⟨hk4 (x7,(wr .i64 (s5+1))) () _ _ _ _ h.2 slr ?_ ?_ ?_ (by omega)⟩<;>first|(simp(disch:=omega) only[vm,seval,h.1];done)|rfl
theorem FZ {a0 r} (h:Du N a0=some r) (ha:args=[.str a0]) (hQ: ∀n',n≤n'→Gl (Q (.tuple [.str r.1,.int .i64 r.2]) ⟨m,n'⟩)):ACall vE 39 args ⟨m,n⟩ Q:=by
 rw[Du]at h
 subst ha
 refine ent hQ Tryz.func39 rfl Tryz.ntmps39 Tryz.results39 (.q (.r []) (.q (.q (.r []) (.c (.q (.r []) .z) .z)) (.q (.r []) .z))) fun R hR=>?_
 replace h:=And.intro trivial h
 replace h:=AC h
 rcases h with h|h
 obtain⟨H,h⟩:=h
 cases h
 simp(disch:=omega) only[vm,seval,H]
 refine⟨(hR _ _ _ _ _ _ (by simp(disch:=omega) only[vm,seval,H];rfl) slr ?_ (by omega) ?_).1⟩<;>first|(simp(disch:=omega) only[vm,seval,H];done)|rfl
 simp(disch:=omega) only[vm,seval,h.1]
 refine⟨AV (γ:=Unit) h [2,3,5,6,7,8,12,13,14,15,16,17,18,19,20,21,22,23,24,25,26,27,28,29,30,31,32,33,34,35,36,37] [4] (fun j1 g=>[.slice 1 (List.map (AVal.int .u8) j1) true]) (fun j1 g=>m) (.q (.r []) .z) ?_ ?_⟩<;>clear h
 rintro j1 _ n4 hnn4 _ _ h
 refine AB (.q (.r []) .z) ?_
 obtain⟨H,h⟩:=h
 cases h
 simp(disch:=omega) only[vm,seval,H]
 refine⟨(hR _ _ _ _ _ _ (by simp(disch:=omega) only[vm,seval,H];rfl) slr ?_ (by omega) ?_).1⟩<;>first|(simp(disch:=omega) only[vm,seval,H];done)|rfl
 intro k2 Jk2 hk2 h
 simp(disch:=omega) only[vm,seval,h.1]
 refine⟨Ka (σ:=(List Int)×Int) (γ:=Unit) (fun k s=>Cw N a0 k2 k s.1 s.2) (fun s g=>[.slice 1 (List.map (AVal.int .u8) s.1) true,.int .i64 s.2]) (fun s g=>m) [2,3,6,7,8,12,13,14,15,16,17,18,19,20,21,22,23,24,25,26,27,28,29,30,31,32,33,34,35,36,37] [4,5] ([],0) () h (fun _=>rfl) (by first|(simp(disch:=omega) only[vm,seval,h.1];done)|rfl) (by first|(simp(disch:=omega) only[vm,seval,h.1];done)|rfl) ?_⟩
 clear h
 rintro k5 ⟨s4,s5⟩ _ nL0_1 hnL0_1 _ h Jk5 hk5
 change _∧Cw N a0 k2 (k5+1) s4 s5=_ at h
 rw[Cw]at h
 refine AB (.q (.q (.r []) (.c .z .z)) (.q (.q (.r []) .z) (.r []))) ?_
 replace h:=AC h
 rcases h with h|h
 replace h:=AA h
 obtain⟨x6,h⟩:=h
 simp(disch:=omega) only[vm,seval,h.1]
 refine⟨AV (γ:=Unit) h [2,3,7,8,21,22,23,24,25,26,27,28,29,30,31,32,33] [5,6] (fun j7 g=>[.int .i64 j7.1,.int .u8 j7.2]) (fun j7 g=>m) (.q (.r []) (.c (.q (.r []) (.q (.q (.r []) (.c (.q (.r []) .z) .z)) (.q (.r []) (.r [])))) .z)) ?_ ?_⟩<;>clear h
 rintro j7 _ n10 hnn10 _ _ h
 refine AB (.r [34]) ?_
 replace h:=AR h
 obtain⟨c,h⟩:=h
 try simp only[liE,seval]at c
 replace h:=AO c h
 simp(disch:=omega) only[vm,seval,h.1]
 refine⟨hk5 ((s4++[j7.2]),(wr .i64 (j7.1+1))) () _ _ _ _ h.2 slr ?_ ?_ ?_ (by omega)⟩<;>first|(simp(disch:=omega) only[vm,seval,h.1];done)|rfl
 intro k8 Jk8 hk8 h
 replace h:=AC h
 rcases h with h|h
 replace h:=AA h
 obtain⟨y11,h⟩:=h
 simp(disch:=omega) only[vm,seval,h.1]
 refine⟨LB h.1.1 (by first|(simp(disch:=omega) only[vm,seval,h.1];done)|rfl) fun n12 hn12=>?_⟩
 replace h:=AC h
 rcases h with h|h
 simp(disch:=omega) only[vm,seval,h.1]
 refine⟨hk8 ((wr .i64 (s5+2)),y11.1) () _ _ _ _ h.2 slr ?_ ?_ ?_ (by omega)⟩<;>first|(simp(disch:=omega) only[vm,seval,h.1];done)|rfl
 obtain⟨H,h⟩:=h
 cases h
 simp(disch:=omega) only[vm,seval,H]
 refine⟨(hR _ _ _ _ _ _ (by simp(disch:=omega) only[vm,seval,H];rfl) slr ?_ (by omega) ?_).1⟩<;>first|(simp(disch:=omega) only[vm,seval,H];done)|rfl
 simp(disch:=omega) only[vm,seval,h.1]
 refine⟨hk8 (s5,(AJ x6)) () _ _ _ _ h.2 slr ?_ ?_ ?_ (by omega)⟩<;>first|(simp(disch:=omega) only[vm,seval,h.1];done)|rfl
 simp(disch:=omega) only[vm,seval,h.1]
 refine⟨hk2 s4 () _ _ _ _ h.2 slr ?_ ?_ ?_ (by omega)⟩<;>first|(simp(disch:=omega) only[vm,seval,h.1];done)|rfl
theorem Kk {a0 a1 r} (h:strings_IndexAny N a0 a1=some r) (ha:args=[.str a0,.str a1]) (hQ: ∀n',n≤n'→Gl (Q (.int .i64 r) ⟨m,n'⟩)):ACall vE 158 args ⟨m,n⟩ Q:=by
 rw[strings_IndexAny]at h
 subst ha
 refine ent hQ Tryz.func158 rfl Tryz.ntmps158 Tryz.results158 (.q (.r []) (.q (.q (.r []) (.c (.q (.r []) .z) .z)) (.q (.q (.r []) (.c (.q (.r []) .z) .z)) .z))) fun R hR=>?_
 replace h:=And.intro trivial h
 replace h:=AC h
 rcases h with h|h
 obtain⟨H,h⟩:=h
 cases h
 simp(disch:=omega) only[vm,seval,H]
 refine⟨(hR _ _ _ _ _ _ (by simp(disch:=omega) only[vm,seval,H];rfl) slr ?_ (by omega) ?_).1⟩<;>first|(simp(disch:=omega) only[vm,seval,H];done)|rfl
 replace h:=AC h
 rcases h with h|h
 replace h:=AA h
 obtain⟨x1,h⟩:=h
 simp(disch:=omega) only[vm,seval,h.1]
 refine⟨AV (γ:=Unit) h [19,20] [5] (fun j2 g=>[.int .i32 j2]) (fun j2 g=>m) (.q (.r []) (.c (.r []) .z)) ?_ ?_⟩<;>clear h
 rintro j2 _ n5 hnn5 _ _ h
 refine AB (.q (.r []) .z) ?_
 replace h:=AA h
 obtain⟨y6,h⟩:=h
 simp(disch:=omega) only[vm,seval,h.1]
 refine⟨KA h.1.1 (by first|(simp(disch:=omega) only[vm,seval,h.1];done)|rfl) fun n7 hn7=>?_⟩
 obtain⟨H,h⟩:=h
 cases h
 simp(disch:=omega) only[vm,seval,H]
 refine⟨(hR _ _ _ _ _ _ (by simp(disch:=omega) only[vm,seval,H];rfl) slr ?_ (by omega) ?_).1⟩<;>first|(simp(disch:=omega) only[vm,seval,H];done)|rfl
 intro k3 Jk3 hk3 h
 replace h:=AC h
 rcases h with h|h
 simp(disch:=omega) only[vm,seval,h.1]
 refine⟨hk3 65533 () _ _ _ _ h.2 slr ?_ ?_ ?_ (by omega)⟩<;>first|(simp(disch:=omega) only[vm,seval,h.1];done)|rfl
 simp(disch:=omega) only[vm,seval,h.1]
 refine⟨hk3 (wr .i32 (AJ x1)) () _ _ _ _ h.2 slr ?_ ?_ ?_ (by omega)⟩<;>first|(simp(disch:=omega) only[vm,seval,h.1];done)|rfl
 simp(disch:=omega) only[vm,seval,h.1]
 refine⟨AV (γ:=Unit) h [4,6,7,8,24,25,26,27,28,29,30,31,32,33,34,35,36,37,38,39,40,41,42,43] [] (fun j8 g=>[]) (fun j8 g=>m) (.q (.r []) (.c (.q (.r []) (.q (.r []) (.c .z .z))) .z)) ?_ ?_⟩<;>clear h
 rintro j8 _ n11 hnn11 _ _ h
 refine AB .z ?_
 simp(disch:=omega) only[vm,seval,h.1]
 refine⟨AV (γ:=Unit) h [4,9,10,44,45,46,47,48,49,50,51,52,53,54] [] (fun j23 g=>[]) (fun j23 g=>m) (.q (.r []) .z) ?_ ?_⟩<;>clear h
 rintro j23 _ n26 hnn26 _ _ h
 refine AB (.q (.r []) .z) ?_
 obtain⟨H,h⟩:=h
 cases h
 simp(disch:=omega) only[vm,seval,H]
 refine⟨(hR _ _ _ _ _ _ (by simp(disch:=omega) only[vm,seval,H];rfl) slr ?_ (by omega) ?_).1⟩<;>first|(simp(disch:=omega) only[vm,seval,H];done)|rfl
 intro k24 Jk24 hk24 h
 simp(disch:=omega) only[vm,seval,h.1]
 refine⟨Ka (σ:=Nat) (γ:=Unit) (fun k s=>CV N a0 a1 k24 k s) (fun s g=>[.iter a0 s]) (fun s g=>m) [4,9,10,46,47,48,49,50,51,52,53,54] [45] 0 () h (fun _=>rfl) (by first|(simp(disch:=omega) only[vm,seval,h.1];done)|rfl) (by first|(simp(disch:=omega) only[vm,seval,h.1];done)|rfl) ?_⟩
 clear h
 rintro k27 s45 _ nL1_1 hnL1_1 _ h Jk27 hk27
 change _∧CV N a0 a1 k24 (k27+1) s45=_ at h
 rw[CV]at h
 refine AB (.q (.r []) (.q (.c .z .z) (.q (.r []) (.q (.r []) (.c (.q (.r []) .z) .z))))) ?_
 replace h:=AC h
 rcases h with h|h
 replace h:=AA h
 obtain⟨y28,h⟩:=h
 simp(disch:=omega) only[vm,seval,h.1]
 refine⟨KA h.1.1 (by first|(simp(disch:=omega) only[vm,seval,h.1];done)|rfl) fun n29 hn29=>?_⟩
 replace h:=AC h
 rcases h with h|h
 obtain⟨H,h⟩:=h
 cases h
 simp(disch:=omega) only[vm,seval,H]
 refine⟨(hR _ _ _ _ _ _ (by simp(disch:=omega) only[vm,seval,H];rfl) slr ?_ (by omega) ?_).1⟩<;>first|(simp(disch:=omega) only[vm,seval,H];done)|rfl
 simp(disch:=omega) only[vm,seval,h.1]
 refine⟨hk27 (s45+(Ct a0 s45).2) () _ _ _ _ h.2 slr ?_ ?_ ?_ (by omega)⟩<;>first|(simp(disch:=omega) only[vm,seval,h.1];done)|rfl
 simp(disch:=omega) only[vm,seval,h.1]
 refine⟨hk24 () () _ _ _ _ h.2 slr ?_ ?_ ?_ (by omega)⟩<;>first|(simp(disch:=omega) only[vm,seval,h.1];done)|rfl
 intro k9 Jk9 hk9 h
 replace h:=AA h
 obtain⟨y12,h⟩:=h
 simp(disch:=omega) only[vm,seval,h.1]
 refine⟨KL h.1.1 (by first|(simp(disch:=omega) only[vm,seval,h.1];done)|rfl) fun n13 hn13=>?_⟩
 replace h:=AC h
 rcases h with h|h
 replace h:=AA h
 obtain⟨y14,h⟩:=h
 simp(disch:=omega) only[vm,seval,h.1]
 refine⟨Mc h.1.1 (by first|(simp(disch:=omega) only[vm,seval,h.1];done)|rfl) fun n15 hn15=>?_⟩
 replace h:=AR h
 obtain⟨c,h⟩:=h
 try simp only[liE,seval]at c
 replace h:=AO c h
 replace h:=AR h
 obtain⟨c,h⟩:=h
 try simp only[liE,seval]at c
 replace h:=AO c h
 replace h:=AC h
 rcases h with h|h
 simp(disch:=omega) only[vm,seval,h.1]
 refine⟨AV (γ:=Unit) h [4,8,33,34,35,36,37,38,39,40,41,42,43] [] (fun j16 g=>[]) (fun j16 g=>(n15,List.map AVal.bool j16)::m) (.q (.r []) .z) ?_ ?_⟩<;>clear h
 rintro j16 _ n19 hnn19 _ _ h
 refine AB (.q (.r []) .z) ?_
 obtain⟨H,h⟩:=h
 cases h
 simp(disch:=omega) only[vm,seval,H]
 refine⟨(hR _ _ _ _ _ _ (by simp(disch:=omega) only[vm,seval,H];rfl) (.cons _ slr) ?_ (by omega) ?_).1⟩<;>first|(simp(disch:=omega) only[vm,seval,H];done)|rfl
 intro k17 Jk17 hk17 h
 replace h:=AR h
 obtain⟨hfk20,h⟩:=h
 simp(disch:=omega) only[vm,seval,h.1]
 refine⟨CB (σ:=(List Bool)) (γ:=Unit) a0 hfk20 (fun xs i s=>BS N k17 xs i s) (fun i s g=>[.int .i64 i]) (fun i s g=>(n15,List.map AVal.bool s)::m) [4,33,34,35,36,37,38,39,40,41,42,43] [8] y14.1 () h (by first|(simp(disch:=omega) only[vm,seval,h.1];done)|rfl) (by first|(simp(disch:=omega) only[vm,seval,h.1];done)|rfl) ?_ ?_⟩<;>clear h
 rintro s8 Yj _ nL0_1 hnL0_1 _ h
 change _∧BS N k17 [] s8 Yj=_ at h
 rw[BS]at h
 refine AB (.q (.q (.r []) (.c .z .z)) (.q (.q (.r []) (.c (.q (.r []) .z) .z)) (.r []))) ?_
 simp(disch:=omega) only[vm,seval,h.1]
 refine⟨hk17 Yj () _ _ _ _ h.2 slr ?_ ?_ ?_ (by omega)⟩<;>first|(simp(disch:=omega) only[vm,seval,h.1];done)|rfl
 rintro xk20 xsk20 s8 Yj _ nL0_1 hnL0_1 _ h Jk20 hk20
 change _∧BS N k17 (xk20::xsk20) s8 Yj=_ at h
 rw[BS]at h
 refine AB (.q (.q (.r []) (.c .z .z)) (.q (.q (.r []) (.c (.q (.r []) .z) .z)) (.r []))) ?_
 replace h:=AA h
 obtain⟨y21,h⟩:=h
 simp(disch:=omega) only[vm,seval,h.1]
 refine⟨KD h.1.1 (by first|(simp(disch:=omega) only[vm,seval,h.1];done)|rfl) (i0:=n15) (by simp(disch:=omega) only[vm,seval,h.1]) fun n22 hn22=>?_⟩
 replace h:=AC h
 rcases h with h|h
 obtain⟨H,h⟩:=h
 cases h
 simp(disch:=omega) only[vm,seval,H]
 refine⟨(hR _ _ _ _ _ _ (by simp(disch:=omega) only[vm,seval,H];rfl) (.cons _ slr) ?_ (by omega) ?_).1⟩<;>first|(simp(disch:=omega) only[vm,seval,H];done)|rfl
 simp(disch:=omega) only[vm,seval,h.1]
 refine⟨hk20 y21.2 () _ _ _ _ h.2 slr ?_ ?_ ?_ (by omega)⟩<;>first|(simp(disch:=omega) only[vm,seval,h.1];done)|rfl
 simp(disch:=omega) only[vm,seval,h.1]
 refine⟨hk9 () () _ _ _ _ h.2 (.cons _ slr) ?_ ?_ ?_ (by omega)⟩<;>first|(simp(disch:=omega) only[vm,seval,h.1];done)|rfl
 simp(disch:=omega) only[vm,seval,h.1]
 refine⟨hk9 () () _ _ _ _ h.2 slr ?_ ?_ ?_ (by omega)⟩<;>first|(simp(disch:=omega) only[vm,seval,h.1];done)|rfl
theorem AAv {a0 r} (h:KU N a0=some r) (ha:args=[.str a0]) (hQ: ∀n',n≤n'→Gl (Q (.bool r) ⟨m,n'⟩)):ACall vE 256 args ⟨m,n⟩ Q:=by
 rw[KU]at h
 subst ha
 refine ent hQ Tryz.func256 rfl Tryz.ntmps256 Tryz.results256 (.q (.r []) (.q (.r []) .z)) fun R hR=>?_
 replace h:=And.intro trivial h
 simp(disch:=omega) only[vm,seval,h.1]
 refine⟨AV (γ:=Unit) h [2,4,5,6,7,8,9,10,11,12,13,14,15,16,17,18,19,20,21,22,23,24,25,26,27,28,29,30,31,32,33,34] [3] (fun j1 g=>[.bool j1]) (fun j1 g=>m) (.q (.r []) .z) ?_ ?_⟩<;>clear h
 rintro j1 _ n4 hnn4 _ _ h
 refine AB (.q (.r []) .z) ?_
 replace h:=AC h
 rcases h with h|h
 obtain⟨H,h⟩:=h
 cases h
 simp(disch:=omega) only[vm,seval,H]
 refine⟨(hR _ _ _ _ _ _ (by simp(disch:=omega) only[vm,seval,H];rfl) slr ?_ (by omega) ?_).1⟩<;>first|(simp(disch:=omega) only[vm,seval,H];done)|rfl
 obtain⟨H,h⟩:=h
 cases h
 simp(disch:=omega) only[vm,seval,H]
 refine⟨(hR _ _ _ _ _ _ (by simp(disch:=omega) only[vm,seval,H];rfl) slr ?_ (by omega) ?_).1⟩<;>first|(simp(disch:=omega) only[vm,seval,H];done)|rfl
 intro k2 Jk2 hk2 h
 replace h:=AR h
 obtain⟨hfk5,h⟩:=h
 simp(disch:=omega) only[vm,seval,h.1]
 refine⟨CB (σ:=Bool) (γ:=Unit) a0 hfk5 (fun xs i s=>Dp N k2 xs s) (fun i s g=>[.bool s,.int .i64 i]) (fun i s g=>m) [2,4,8,9,10,11,12,13,14,15,16,17,18,19,20,21,22,23,24,25,26,27,28,29,30,31,32,33,34] [3,7] true () h (by first|(simp(disch:=omega) only[vm,seval,h.1];done)|rfl) (by first|(simp(disch:=omega) only[vm,seval,h.1];done)|rfl) ?_ ?_⟩<;>clear h
 rintro s7 s3 _ nL0_1 hnL0_1 _ h
 change _∧Dp N k2 [] s3=_ at h
 rw[Dp]at h
 refine AB (.q (.r []) (.q (.c .z .z) (.q (.q (.r []) (.q .z (.r []))) (.r [])))) ?_
 simp(disch:=omega) only[vm,seval,h.1]
 refine⟨hk2 s3 () _ _ _ _ h.2 slr ?_ ?_ ?_ (by omega)⟩<;>first|(simp(disch:=omega) only[vm,seval,h.1];done)|rfl
 rintro xk5 xsk5 s7 s3 _ nL0_1 hnL0_1 _ h Jk5 hk5
 change _∧Dp N k2 (xk5::xsk5) s3=_ at h
 rw[Dp]at h
 refine AB (.q (.r []) (.q (.c .z .z) (.q (.q (.r []) (.q .z (.r []))) (.r [])))) ?_
 simp(disch:=omega) only[vm,seval,h.1]
 refine⟨AV (γ:=Unit) h [10,11,12,13,14,15,16,17,18,19,20,21,22,23,24,25,26,27,28] [29] (fun j6 g=>[.bool j6]) (fun j6 g=>m) (.r []) ?_ ?_⟩<;>clear h
 rintro j6 _ n9 hnn9 _ _ h
 refine AB (.c (.q (.r []) .z) .z) ?_
 replace h:=AC h
 rcases h with h|h
 obtain⟨H,h⟩:=h
 cases h
 simp(disch:=omega) only[vm,seval,H]
 refine⟨(hR _ _ _ _ _ _ (by simp(disch:=omega) only[vm,seval,H];rfl) slr ?_ (by omega) ?_).1⟩<;>first|(simp(disch:=omega) only[vm,seval,H];done)|rfl
 simp(disch:=omega) only[vm,seval,h.1]
 refine⟨hk5 ((AJ xk5)==46) () _ _ _ _ h.2 slr ?_ ?_ ?_ (by omega)⟩<;>first|(simp(disch:=omega) only[vm,seval,h.1];done)|rfl
 intro k7 Jk7 hk7 h
 replace h:=AC h
 rcases h with h|h
 replace h:=AA h
 obtain⟨y10,h⟩:=h
 simp(disch:=omega) only[vm,seval,h.1]
 refine⟨AEB h.1.1 (by first|(simp(disch:=omega) only[vm,seval,h.1];done)|rfl) fun n11 hn11=>?_⟩
 replace h:=AC h
 rcases h with h|h
 replace h:=AC h
 rcases h with h|h
 simp(disch:=omega) only[vm,seval,h.1]
 refine⟨hk7 s3 () _ _ _ _ h.2 slr ?_ ?_ ?_ (by omega)⟩<;>first|(simp(disch:=omega) only[vm,seval,h.1];done)|rfl
 simp(disch:=omega) only[vm,seval,h.1]
 refine⟨hk7 false () _ _ _ _ h.2 slr ?_ ?_ ?_ (by omega)⟩<;>first|(simp(disch:=omega) only[vm,seval,h.1];done)|rfl
 simp(disch:=omega) only[vm,seval,h.1]
 refine⟨hk7 true () _ _ _ _ h.2 slr ?_ ?_ ?_ (by omega)⟩<;>first|(simp(disch:=omega) only[vm,seval,h.1];done)|rfl
 replace h:=AC h
 rcases h with h|h
 simp(disch:=omega) only[vm,seval,h.1]
 refine⟨hk7 s3 () _ _ _ _ h.2 slr ?_ ?_ ?_ (by omega)⟩<;>first|(simp(disch:=omega) only[vm,seval,h.1];done)|rfl
 simp(disch:=omega) only[vm,seval,h.1]
 refine⟨hk7 false () _ _ _ _ h.2 slr ?_ ?_ ?_ (by omega)⟩<;>first|(simp(disch:=omega) only[vm,seval,h.1];done)|rfl
theorem Kt {a0 a1 r} (h:strings_Contains N a0 a1=some r) (ha:args=[.str a0,.str a1]) (hQ: ∀n',n≤n'→Gl (Q (.bool r) ⟨m,n'⟩)):ACall vE 107 args ⟨m,n⟩ Q:=by
 rw[strings_Contains]at h
 subst ha
 refine ent hQ Tryz.func107 rfl Tryz.ntmps107 Tryz.results107 (.q (.r []) (.q (.r []) .z)) fun R hR=>?_
 replace h:=And.intro trivial h
 replace h:=AA h
 obtain⟨y1,h⟩:=h
 simp(disch:=omega) only[vm,seval,h.1]
 refine⟨H5 h.1.1 (by first|(simp(disch:=omega) only[vm,seval,h.1];done)|rfl) fun n2 hn2=>?_⟩
 obtain⟨H,h⟩:=h
 cases h
 simp(disch:=omega) only[vm,seval,H]
 refine⟨(hR _ _ _ _ _ _ (by simp(disch:=omega) only[vm,seval,H];rfl) slr ?_ (by omega) ?_).1⟩<;>first|(simp(disch:=omega) only[vm,seval,H];done)|rfl
theorem Qe {a0 r} (h:FP N a0=some r) (ha:args=[.str a0]) (hQ: ∀n',n≤n'→Gl (Q (.str r) ⟨m,n'⟩)):ACall vE 110 args ⟨m,n⟩ Q:=by
 rw[FP]at h
 subst ha
 refine ent hQ Tryz.func110 rfl Tryz.ntmps110 Tryz.results110 (.q (.r []) (.q (.r [7]) (.q .z (.q (.r []) .z)))) fun R hR=>?_
 replace h:=And.intro trivial h
 replace h:=AR h
 obtain⟨c,h⟩:=h
 try simp only[liE,seval]at c
 replace h:=AO c h
 simp(disch:=omega) only[vm,seval,h.1,BI,BJ,EW,Ao,Au,Am]
 refine⟨Ka (σ:=(List UInt8)×Nat×(List Int)) (γ:=Nat) (fun k s=>Ai N k s.1 s.2.1 s.2.2) (fun s g=>[.str s.1,.gsl 1 g s.2.1]) (fun s g=>(g,List.map (AVal.int .u8) s.2.2)::m) [4,8,9,10,11,12,13,14,15,16,17,18,19,20,21,22,23,24,25,26,27,28,29,30,31,32,33,34,35,36,37,38,39,40,41,42,43,44,45,46,47,48,49,50,51,52,53,54,55,56,57,58,59,60,61,62,63,64,65,66,67] [0,3] (a0,(0:Int).toNat,(List.replicate (0:Int).toNat 0)) n h (fun _=>rfl) (by first|(simp(disch:=omega) only[vm,seval,h.1,BI,BJ,EW,Ao,Au,Am];done)|rfl) (by first|(simp(disch:=omega) only[vm,seval,h.1,BI,BJ,EW,Ao,Au,Am];done)|rfl) ?_⟩
 clear h
 rintro k1 ⟨s0,s3_len,bq3⟩ q3 nL0_1 hnL0_1 _ h Jk1 hk1
 change _∧Ai N (k1+1) s0 s3_len bq3=_ at h
 rw[Ai]at h
 refine AB (.q (.q (.r []) (.c .z .z)) (.q (.r []) (.c (.r []) (.q (.r []) (.c (.r []) (.q (.r []) (.c (.r []) (.q (.r []) (.c (.r []) .z))))))))) ?_
 replace h:=AC h
 rcases h with h|h
 replace h:=AR h
 obtain⟨c,h⟩:=h
 try simp only[liE,seval]at c
 replace h:=AO c h
 obtain⟨H,h⟩:=h
 cases h
 simp(disch:=omega) only[vm,seval,H,BI,BJ,EW,Ao,Au,Am]
 refine⟨(hR _ _ _ _ _ _ (by simp(disch:=omega) only[vm,seval,H,BI,BJ,EW,Ao,Au,Am];rfl) (.cons _ slr) ?_ (by omega) ?_).1⟩<;>first|(simp(disch:=omega) only[vm,seval,H,BI,BJ,EW,Ao,Au,Am];done)|rfl
 replace h:=AA h
 obtain⟨y2,h⟩:=h
 simp(disch:=omega) only[vm,seval,h.1,BI,BJ,EW,Ao,Au,Am]
 refine⟨FI h.1.1 (by first|(simp(disch:=omega) only[vm,seval,h.1,BI,BJ,EW,Ao,Au,Am];done)|rfl) fun n3 hn3=>?_⟩
 replace h:=AC h
 rcases h with h|h
 replace h:=AA h
 obtain⟨x4,h⟩:=h
 simp(disch:=omega) only[vm,seval,h.1,BI,BJ,EW,Ao,Au,Am]
 refine⟨hk1 (x4,s3_len,bq3) q3 _ _ _ _ h.2 slr ?_ ?_ ?_ (by omega)⟩<;>first|(simp(disch:=omega) only[vm,seval,h.1,BI,BJ,EW,Ao,Au,Am];done)|rfl
 replace h:=AA h
 obtain⟨y5,h⟩:=h
 simp(disch:=omega) only[vm,seval,h.1,BI,BJ,EW,Ao,Au,Am]
 refine⟨FI h.1.1 (by first|(simp(disch:=omega) only[vm,seval,h.1,BI,BJ,EW,Ao,Au,Am];done)|rfl) fun n6 hn6=>?_⟩
 replace h:=AC h
 rcases h with h|h
 replace h:=AA h
 obtain⟨x7,h⟩:=h
 simp(disch:=omega) only[vm,seval,h.1,BI,BJ,EW,Ao,Au,Am]
 refine⟨hk1 (x7,s3_len,bq3) q3 _ _ _ _ h.2 slr ?_ ?_ ?_ (by omega)⟩<;>first|(simp(disch:=omega) only[vm,seval,h.1,BI,BJ,EW,Ao,Au,Am];done)|rfl
 replace h:=AA h
 obtain⟨y8,h⟩:=h
 simp(disch:=omega) only[vm,seval,h.1,BI,BJ,EW,Ao,Au,Am]
 refine⟨FI h.1.1 (by first|(simp(disch:=omega) only[vm,seval,h.1,BI,BJ,EW,Ao,Au,Am];done)|rfl) fun n9 hn9=>?_⟩
 replace h:=AC h
 rcases h with h|h
 replace h:=AA h
 obtain⟨x10,h⟩:=h
 simp(disch:=omega) only[vm,seval,h.1,BI,BJ,EW,Ao,Au,Am]
 refine⟨hk1 (x10,s3_len,bq3) q3 _ _ _ _ h.2 slr ?_ ?_ ?_ (by omega)⟩<;>first|(simp(disch:=omega) only[vm,seval,h.1,BI,BJ,EW,Ao,Au,Am];done)|rfl
 replace h:=AC h
 rcases h with h|h
 simp(disch:=omega) only[vm,seval,h.1,BI,BJ,EW,Ao,Au,Am]
 refine⟨hk1 (([47]:List UInt8),s3_len,bq3) q3 _ _ _ _ h.2 slr ?_ ?_ ?_ (by omega)⟩<;>first|(simp(disch:=omega) only[vm,seval,h.1,BI,BJ,EW,Ao,Au,Am];done)|rfl
 simp(disch:=omega) only[vm,seval,h.1,BI,BJ,EW,Ao,Au,Am]
 refine⟨AV (γ:=Unit) h [45,46,47,48,49,50] [44] (fun j11 g=>[.bool j11]) (fun j11 g=>(q3,List.map (AVal.int .u8) bq3)::m) (.r []) ?_ ?_⟩<;>clear h
 rintro j11 _ n14 hnn14 _ _ h
 refine AB (.c (.q (.r []) (.r [])) .z) ?_
 replace h:=AC h
 rcases h with h|h
 replace h:=AA h
 obtain⟨x17,h⟩:=h
 replace h:=AA h
 obtain⟨y18,h⟩:=h
 simp(disch:=omega) only[vm,seval,h.1,BI,BJ,EW,Ao,Au,Am]
 refine⟨NT h.1.1 (by first|(simp(disch:=omega) only[vm,seval,h.1,BI,BJ,EW,Ao,Au,Am];done)|rfl) fun n19 hn19=>?_⟩
 replace h:=AR h
 obtain⟨c,h⟩:=h
 try simp only[liE,seval]at c
 replace h:=AO c h
 replace h:=AR h
 obtain⟨c,h⟩:=h
 try simp only[liE,seval]at c
 replace h:=AO c h
 replace h:=AA h
 obtain⟨y20,h⟩:=h
 simp(disch:=omega) only[vm,seval,h.1,BI,BJ,EW,Ao,Au,Am]
 refine⟨L8 h.1.1 (by first|(simp(disch:=omega) only[vm,seval,h.1,BI,BJ,EW,Ao,Au,Am];done)|rfl) fun n21 hn21=>?_⟩
 replace h:=AR h
 obtain⟨c,h⟩:=h
 try simp only[liE,seval]at c
 replace h:=AO c h
 simp(disch:=omega) only[vm,seval,h.1,BI,BJ,EW,Ao,Au,Am]
 refine⟨hk1 ((([47]:List UInt8)++y18),(if y20>0 then y20 else 0).toNat,bq3) q3 _ _ _ _ h.2 slr ?_ ?_ ?_ (by omega)⟩<;>first|(simp(disch:=omega) only[vm,seval,h.1,BI,BJ,EW,Ao,Au,Am];done)|rfl
 simp(disch:=omega) only[vm,seval,h.1,BI,BJ,EW,Ao,Au,Am]
 refine⟨AV (γ:=Unit) h [62,63,64,65,66,67] [61] (fun j22 g=>[.bool j22]) (fun j22 g=>(q3,List.map (AVal.int .u8) bq3)::m) (.r []) ?_ ?_⟩<;>clear h
 rintro j22 _ n25 hnn25 _ _ h
 refine AB (.c (.r []) (.q (.r []) .z)) ?_
 replace h:=AC h
 rcases h with h|h
 simp(disch:=omega) only[vm,seval,h.1,BI,BJ,EW,Ao,Au,Am]
 refine⟨hk1 ([],s3_len,bq3) q3 _ _ _ _ h.2 slr ?_ ?_ ?_ (by omega)⟩<;>first|(simp(disch:=omega) only[vm,seval,h.1,BI,BJ,EW,Ao,Au,Am];done)|rfl
 replace h:=AA h
 obtain⟨x26,h⟩:=h
 replace h:=AA h
 obtain⟨y27,h⟩:=h
 simp(disch:=omega) only[vm,seval,h.1,BI,BJ,EW,Ao,Au,Am]
 refine⟨Bj h.1.1 (by first|(simp(disch:=omega) only[vm,seval,h.1,BI,BJ,EW,Ao,Au,Am];done)|rfl) fun n28 hn28=>?_⟩
 simp(disch:=omega) only[vm,seval,h.1,BI,BJ,EW,Ao,Au,Am]
 refine⟨AV (γ:=Unit) h [14,15,16,17] [4] (fun j29 g=>[.int .i64 j29]) (fun j29 g=>(q3,List.map (AVal.int .u8) bq3)::m) (.q (.r []) (.c (.r []) .z)) ?_ ?_⟩<;>clear h
 rintro j29 _ n32 hnn32 _ _ h
 refine AB (.q (.r [18]) (.r [])) ?_
 replace h:=AA h
 obtain⟨x33,h⟩:=h
 replace h:=AR h
 obtain⟨c,h⟩:=h
 try simp only[liE,seval]at c
 replace h:=AO c h
 simp(disch:=omega) only[vm,seval,h.1,BI,BJ,EW,Ao,Au,Am]
 refine⟨APq fun i34 hi34=>Gl.go ?_⟩
 replace h:=AA h
 obtain⟨x35,h⟩:=h
 simp(disch:=omega) only[vm,seval,h.1,BI,BJ,EW,Ao,Au,Am]
 refine⟨hk1 (x35,(s3_len+x33.length),(List.take s3_len bq3++List.map AJ x33)) i34 _ _ _ _ h.2 slr ?_ ?_ ?_ (by omega)⟩<;>first|(simp(disch:=omega) only[vm,seval,h.1,BI,BJ,EW,Ao,Au,Am];done)|rfl
 intro k30 Jk30 hk30 h
 replace h:=AC h
 rcases h with h|h
 simp(disch:=omega) only[vm,seval,h.1,BI,BJ,EW,Ao,Au,Am]
 refine⟨hk30 (s0.length:Int) () _ _ _ _ h.2 slr ?_ ?_ ?_ (by omega)⟩<;>first|(simp(disch:=omega) only[vm,seval,h.1,BI,BJ,EW,Ao,Au,Am];done)|rfl
 simp(disch:=omega) only[vm,seval,h.1,BI,BJ,EW,Ao,Au,Am]
 refine⟨hk30 (wr .i64 (1+y27)) () _ _ _ _ h.2 slr ?_ ?_ ?_ (by omega)⟩<;>first|(simp(disch:=omega) only[vm,seval,h.1,BI,BJ,EW,Ao,Au,Am];done)|rfl
 intro k23 Jk23 hk23 h
 replace h:=AC h
 rcases h with h|h
 simp(disch:=omega) only[vm,seval,h.1,BI,BJ,EW,Ao,Au,Am]
 refine⟨hk23 true () _ _ _ _ h.2 slr ?_ ?_ ?_ (by omega)⟩<;>first|(simp(disch:=omega) only[vm,seval,h.1,BI,BJ,EW,Ao,Au,Am];done)|rfl
 simp(disch:=omega) only[vm,seval,h.1,BI,BJ,EW,Ao,Au,Am]
 refine⟨hk23 (s0==([46,46]:List UInt8)) () _ _ _ _ h.2 slr ?_ ?_ ?_ (by omega)⟩<;>first|(simp(disch:=omega) only[vm,seval,h.1,BI,BJ,EW,Ao,Au,Am];done)|rfl
 intro k12 Jk12 hk12 h
 replace h:=AA h
 obtain⟨y15,h⟩:=h
 simp(disch:=omega) only[vm,seval,h.1,BI,BJ,EW,Ao,Au,Am]
 refine⟨FI h.1.1 (by first|(simp(disch:=omega) only[vm,seval,h.1,BI,BJ,EW,Ao,Au,Am];done)|rfl) fun n16 hn16=>?_⟩
 replace h:=AC h
 rcases h with h|h
 simp(disch:=omega) only[vm,seval,h.1,BI,BJ,EW,Ao,Au,Am]
 refine⟨hk12 true () _ _ _ _ h.2 slr ?_ ?_ ?_ (by omega)⟩<;>first|(simp(disch:=omega) only[vm,seval,h.1,BI,BJ,EW,Ao,Au,Am];done)|rfl
 simp(disch:=omega) only[vm,seval,h.1,BI,BJ,EW,Ao,Au,Am]
 refine⟨hk12 (s0==([47,46,46]:List UInt8)) () _ _ _ _ h.2 slr ?_ ?_ ?_ (by omega)⟩<;>first|(simp(disch:=omega) only[vm,seval,h.1,BI,BJ,EW,Ao,Au,Am];done)|rfl
theorem FX {a0 r} (h:CZ N a0=some r) (ha:args=[Bl a0]) (hQ: ∀n',n≤n'→Gl (Q (.str r) ⟨m,n'⟩)):ACall vE 28 args ⟨m,n⟩ Q:=by
 rw[CZ]at h
 subst ha
 refine ent hQ Tryz.func28 rfl Tryz.ntmps28 Tryz.results28 (.q (.r []) (.q .z .z)) fun R hR=>?_
 replace h:=And.intro trivial h
 replace h:=AA h
 obtain⟨y1,h⟩:=h
 have cy1:=h.1.1
 replace h:=AA h
 obtain⟨y3,h⟩:=h
 have cy3:=h.1.1
 replace h:=AR h
 obtain⟨c,h⟩:=h
 try simp only[liE,seval]at c
 replace h:=AO c h
 replace h:=AA h
 obtain⟨y5,h⟩:=h
 have cy5:=h.1.1
 replace h:=AR h
 obtain⟨c,h⟩:=h
 try simp only[liE,seval]at c
 replace h:=AO c h
 simp(disch:=omega) only[vm,seval,h.1]
 refine⟨BM [] (.take 0 (.take 4 (.alt 1 [4] (.alt 2 [4,0] (.take 3 (.alt 5 [3,0] (.take 6 (.alt 7 [] (.done) (.stop))) (.stop))) (.stop)) (.stop)))) A8 (by kernel_rfl) ?_⟩
 simp(disch:=omega) only[vm,seval,h.1]
 refine⟨Rp cy1 (by first|(simp(disch:=omega) only[vm,seval,h.1];done)|rfl) fun n2 hn2=>?_⟩
 simp(disch:=omega) only[vm,seval,h.1]
 refine⟨TI cy3 (by first|(simp(disch:=omega) only[vm,seval,h.1];done)|rfl) fun n4 hn4=>?_⟩
 simp(disch:=omega) only[vm,seval,h.1]
 refine⟨Sq cy5 (by first|(simp(disch:=omega) only[vm,seval,h.1];done)|rfl) fun n6 hn6=>?_⟩
 simp(disch:=omega) only[vm,seval,h.1]
 refine⟨AV (γ:=Unit) h [11,12,13,14,15,16,17] [3] (fun j7 g=>[.str j7]) (fun j7 g=>(n,[.str a0.host,.int .i64 a0.port,.str a0.path,.str a0.query,.str a0.fragment,.bool a0.hasQuery,.bool a0.hasFrag])::m) (.q (.r []) (.c (.r []) .z)) ?_ ?_⟩<;>clear h
 rintro j7 _ n10 hnn10 _ _ h
 refine AB (.q (.r []) .z) ?_
 obtain⟨H,h⟩:=h
 cases h
 simp(disch:=omega) only[vm,seval,H]
 refine⟨(hR _ _ _ _ _ _ (by simp(disch:=omega) only[vm,seval,H];rfl) (.cons _ slr) ?_ (by omega) ?_).1⟩<;>first|(simp(disch:=omega) only[vm,seval,H];done)|rfl
 intro k8 Jk8 hk8 h
 replace h:=AC h
 rcases h with h|h
 replace h:=AR h
 obtain⟨c,h⟩:=h
 try simp only[liE,seval]at c
 replace h:=AO c h
 replace h:=AR h
 obtain⟨c,h⟩:=h
 try simp only[liE,seval]at c
 replace h:=AO c h
 simp(disch:=omega) only[vm,seval,h.1]
 refine⟨hk8 (((([104,116,116,112,115,58,47,47]:List UInt8)++y3)++y5)++(([35]:List UInt8)++a0.fragment)) () _ _ _ _ h.2 slr ?_ ?_ ?_ (by omega)⟩<;>first|(simp(disch:=omega) only[vm,seval,h.1];done)|rfl
 simp(disch:=omega) only[vm,seval,h.1]
 refine⟨hk8 ((([104,116,116,112,115,58,47,47]:List UInt8)++y3)++y5) () _ _ _ _ h.2 slr ?_ ?_ ?_ (by omega)⟩<;>first|(simp(disch:=omega) only[vm,seval,h.1];done)|rfl
theorem GU {a0 a1 r} (h:D9 N a0 a1=some r) (ha:args=[.str a0,.str a1]) (hQ: ∀n',n≤n'→Gl (Q (.tuple [.str r.1,.int .i64 r.2]) ⟨m,n'⟩)):ACall vE 126 args ⟨m,n⟩ Q:=by
 rw[D9]at h
 subst ha
 refine ent hQ Tryz.func126 rfl Tryz.ntmps126 Tryz.results126 (.q (.r []) (.q (.q (.r []) (.c (.q (.r []) .z) .z)) (.q (.r []) .z))) fun R hR=>?_
 replace h:=And.intro trivial h
 replace h:=AC h
 rcases h with h|h
 obtain⟨H,h⟩:=h
 cases h
 simp(disch:=omega) only[vm,seval,H]
 refine⟨(hR _ _ _ _ _ _ (by simp(disch:=omega) only[vm,seval,H];rfl) slr ?_ (by omega) ?_).1⟩<;>first|(simp(disch:=omega) only[vm,seval,H];done)|rfl
 simp(disch:=omega) only[vm,seval,h.1]
 refine⟨AV (γ:=Unit) h [4,5,7,8,9,13,14,15,16,17,18,19,20,21,22,23,24,25,26,27,28,29,30,31,32,33,34,35,36,37,38,39,40,41,42,43,44,45,46,47,48,49,50,51,52,53,54,55,56,57,58,59,60,61] [6] (fun j1 g=>[.slice 1 (List.map (AVal.int .u8) j1) true]) (fun j1 g=>m) (.q (.r []) .z) ?_ ?_⟩<;>clear h
 rintro j1 _ n4 hnn4 _ _ h
 refine AB (.q (.r []) .z) ?_
 obtain⟨H,h⟩:=h
 cases h
 simp(disch:=omega) only[vm,seval,H]
 refine⟨(hR _ _ _ _ _ _ (by simp(disch:=omega) only[vm,seval,H];rfl) slr ?_ (by omega) ?_).1⟩<;>first|(simp(disch:=omega) only[vm,seval,H];done)|rfl
 intro k2 Jk2 hk2 h
 simp(disch:=omega) only[vm,seval,h.1]
 refine⟨Ka (σ:=(List Int)×Int) (γ:=Unit) (fun k s=>CG N a0 a1 k2 k s.1 s.2) (fun s g=>[.slice 1 (List.map (AVal.int .u8) s.1) true,.int .i64 s.2]) (fun s g=>m) [4,5,8,9,13,14,15,16,17,18,19,20,21,22,23,24,25,26,27,28,29,30,31,32,33,34,35,36,37,38,39,40,41,42,43,44,45,46,47,48,49,50,51,52,53,54,55,56,57,58,59,60,61] [6,7] ([],0) () h (fun _=>rfl) (by first|(simp(disch:=omega) only[vm,seval,h.1];done)|rfl) (by first|(simp(disch:=omega) only[vm,seval,h.1];done)|rfl) ?_⟩
 clear h
 rintro k5 ⟨s6,s7⟩ _ nL0_1 hnL0_1 _ h Jk5 hk5
 change _∧CG N a0 a1 k2 (k5+1) s6 s7=_ at h
 rw[CG]at h
 refine AB (.q (.q (.r []) (.c .z .z)) .z) ?_
 replace h:=AC h
 rcases h with h|h
 simp(disch:=omega) only[vm,seval,h.1]
 refine⟨AV (γ:=Unit) h [4,5,8,9,19,20,21,22,23,24,25,26,27,28,29,30,31,32,33,34,35,36,37,38,39,40,41,42,43,44,45,46,47,48,49,50,51,52,53,54,55,56,57,58,59,60,61] [6,7] (fun j6 g=>[.slice 1 (List.map (AVal.int .u8) j6.1) true,.int .i64 j6.2]) (fun j6 g=>m) (.q (.q (.r []) (.c (.q .z (.q (.r [36]) .z)) .z)) (.q (.r []) (.q (.q (.r []) (.c (.q (.r []) .z) .z)) .z))) ?_ ?_⟩<;>clear h
 rintro j6 _ n9 hnn9 _ _ h
 refine AB (.r []) ?_
 simp(disch:=omega) only[vm,seval,h.1]
 refine⟨hk5 (j6.1,(wr .i64 (j6.2+1))) () _ _ _ _ h.2 slr ?_ ?_ ?_ (by omega)⟩<;>first|(simp(disch:=omega) only[vm,seval,h.1];done)|rfl
 intro k7 Jk7 hk7 h
 replace h:=AA h
 obtain⟨x10,h⟩:=h
 replace h:=AC h
 rcases h with h|h
 simp(disch:=omega) only[vm,seval,h.1]
 refine⟨AV (γ:=Unit) h [23,24,25,26,27,28,29,30,31,32,33,34] [35] (fun j11 g=>[.bool j11]) (fun j11 g=>m) (.r []) ?_ ?_⟩<;>clear h
 rintro j11 _ n14 hnn14 _ _ h
 refine AB (.c (.q (.r []) .z) .z) ?_
 replace h:=AC h
 rcases h with h|h
 obtain⟨H,h⟩:=h
 cases h
 simp(disch:=omega) only[vm,seval,H]
 refine⟨(hR _ _ _ _ _ _ (by simp(disch:=omega) only[vm,seval,H];rfl) slr ?_ (by omega) ?_).1⟩<;>first|(simp(disch:=omega) only[vm,seval,H];done)|rfl
 replace h:=AR h
 obtain⟨c,h⟩:=h
 try simp only[liE,seval]at c
 replace h:=AO c h
 simp(disch:=omega) only[vm,seval,h.1]
 refine⟨hk7 ((s6++[(AJ x10)]),s7) () _ _ _ _ h.2 slr ?_ ?_ ?_ (by omega)⟩<;>first|(simp(disch:=omega) only[vm,seval,h.1];done)|rfl
 intro k12 Jk12 hk12 h
 replace h:=AA h
 obtain⟨y15,h⟩:=h
 simp(disch:=omega) only[vm,seval,h.1]
 refine⟨EL h.1.1 (by first|(simp(disch:=omega) only[vm,seval,h.1];done)|rfl) fun n16 hn16=>?_⟩
 replace h:=AC h
 rcases h with h|h
 simp(disch:=omega) only[vm,seval,h.1]
 refine⟨hk12 false () _ _ _ _ h.2 slr ?_ ?_ ?_ (by omega)⟩<;>first|(simp(disch:=omega) only[vm,seval,h.1];done)|rfl
 replace h:=AA h
 obtain⟨y17,h⟩:=h
 simp(disch:=omega) only[vm,seval,h.1]
 refine⟨Gi h.1.1 (by first|(simp(disch:=omega) only[vm,seval,h.1];done)|rfl) fun n18 hn18=>?_⟩
 simp(disch:=omega) only[vm,seval,h.1]
 refine⟨hk12 (!y17) () _ _ _ _ h.2 slr ?_ ?_ ?_ (by omega)⟩<;>first|(simp(disch:=omega) only[vm,seval,h.1];done)|rfl
 replace h:=AA h
 obtain⟨y19,h⟩:=h
 simp(disch:=omega) only[vm,seval,h.1]
 refine⟨NZ h.1.1 (by first|(simp(disch:=omega) only[vm,seval,h.1];done)|rfl) fun n20 hn20=>?_⟩
 replace h:=AC h
 rcases h with h|h
 simp(disch:=omega) only[vm,seval,h.1]
 refine⟨AV (γ:=Unit) h [50,51,52,53,54,55,56,57,58,59] [6] (fun j21 g=>[.slice 1 (List.map (AVal.int .u8) j21) true]) (fun j21 g=>m) (.q (.r []) (.c (.r [52]) (.r [56]))) ?_ ?_⟩<;>clear h
 rintro j21 _ n24 hnn24 _ _ h
 refine AB (.r []) ?_
 simp(disch:=omega) only[vm,seval,h.1]
 refine⟨hk7 (j21,(wr .i64 (s7+2))) () _ _ _ _ h.2 slr ?_ ?_ ?_ (by omega)⟩<;>first|(simp(disch:=omega) only[vm,seval,h.1];done)|rfl
 intro k22 Jk22 hk22 h
 replace h:=AA h
 obtain⟨y25,h⟩:=h
 simp(disch:=omega) only[vm,seval,h.1]
 refine⟨EL h.1.1 (by first|(simp(disch:=omega) only[vm,seval,h.1];done)|rfl) fun n26 hn26=>?_⟩
 replace h:=AC h
 rcases h with h|h
 replace h:=AR h
 obtain⟨c,h⟩:=h
 try simp only[liE,seval]at c
 replace h:=AO c h
 simp(disch:=omega) only[vm,seval,h.1]
 refine⟨hk22 (s6++[y19.1]) () _ _ _ _ h.2 slr ?_ ?_ ?_ (by omega)⟩<;>first|(simp(disch:=omega) only[vm,seval,h.1];done)|rfl
 replace h:=AA h
 obtain⟨y27,h⟩:=h
 simp(disch:=omega) only[vm,seval,h.1]
 refine⟨KX h.1.1 (by first|(simp(disch:=omega) only[vm,seval,h.1];done)|rfl) fun n28 hn28=>?_⟩
 replace h:=AR h
 obtain⟨c,h⟩:=h
 try simp only[liE,seval]at c
 replace h:=AO c h
 simp(disch:=omega) only[vm,seval,h.1]
 refine⟨hk22 (s6++(List.map AJ y27)) () _ _ _ _ h.2 slr ?_ ?_ ?_ (by omega)⟩<;>first|(simp(disch:=omega) only[vm,seval,h.1];done)|rfl
 obtain⟨H,h⟩:=h
 cases h
 simp(disch:=omega) only[vm,seval,H]
 refine⟨(hR _ _ _ _ _ _ (by simp(disch:=omega) only[vm,seval,H];rfl) slr ?_ (by omega) ?_).1⟩<;>first|(simp(disch:=omega) only[vm,seval,H];done)|rfl
 simp(disch:=omega) only[vm,seval,h.1]
 refine⟨hk2 s6 () _ _ _ _ h.2 slr ?_ ?_ ?_ (by omega)⟩<;>first|(simp(disch:=omega) only[vm,seval,h.1];done)|rfl
theorem NR {a0 a1 r} (h:G9 N a0 a1=some r) (ha:args=[.str a0,.int .u64 a1]) (hQ: ∀n',n≤n'→Gl (Q (.tuple [.int .u64 r.1,.int .i64 r.2]) ⟨m,n'⟩)):ACall vE 187 args ⟨m,n⟩ Q:=by
 rw[G9]at h
 subst ha
 refine ent hQ Tryz.func187 rfl Tryz.ntmps187 Tryz.results187 (.q (.r []) (.q (.r []) (.q .z (.q (.r []) .z)))) fun R hR=>?_
 replace h:=And.intro trivial h
 replace h:=AA h
 obtain⟨y1,h⟩:=h
 simp(disch:=omega) only[vm,seval,h.1]
 refine⟨Tx h.1.1 (by first|(simp(disch:=omega) only[vm,seval,h.1];done)|rfl) fun n2 hn2=>?_⟩
 simp(disch:=omega) only[vm,seval,h.1]
 refine⟨AV (γ:=Unit) h [14,15,16,17,18,19,20,21,22,23,24,25,26,27,28] [29] (fun j3 g=>[.bool j3]) (fun j3 g=>m) (.r []) ?_ ?_⟩<;>clear h
 rintro j3 _ n6 hnn6 _ _ h
 refine AB (.c (.q (.r []) .z) .z) ?_
 replace h:=AC h
 rcases h with h|h
 obtain⟨H,h⟩:=h
 cases h
 simp(disch:=omega) only[vm,seval,H]
 refine⟨(hR _ _ _ _ _ _ (by simp(disch:=omega) only[vm,seval,H];rfl) slr ?_ (by omega) ?_).1⟩<;>first|(simp(disch:=omega) only[vm,seval,H];done)|rfl
 obtain⟨H,h⟩:=h
 cases h
 simp(disch:=omega) only[vm,seval,H]
 refine⟨(hR _ _ _ _ _ _ (by simp(disch:=omega) only[vm,seval,H];rfl) slr ?_ (by omega) ?_).1⟩<;>first|(simp(disch:=omega) only[vm,seval,H];done)|rfl
 intro k4 Jk4 hk4 h
 replace h:=AC h
 rcases h with h|h
 replace h:=AC h
 rcases h with h|h
 replace h:=AA h
 obtain⟨x7,h⟩:=h
 simp(disch:=omega) only[vm,seval,h.1]
 refine⟨hk4 ((AJ x7)==48) () _ _ _ _ h.2 slr ?_ ?_ ?_ (by omega)⟩<;>first|(simp(disch:=omega) only[vm,seval,h.1];done)|rfl
 simp(disch:=omega) only[vm,seval,h.1]
 refine⟨hk4 false () _ _ _ _ h.2 slr ?_ ?_ ?_ (by omega)⟩<;>first|(simp(disch:=omega) only[vm,seval,h.1];done)|rfl
 replace h:=AC h
 rcases h with h|h
 replace h:=AC h
 rcases h with h|h
 replace h:=AA h
 obtain⟨x8,h⟩:=h
 simp(disch:=omega) only[vm,seval,h.1]
 refine⟨hk4 ((AJ x8)==48) () _ _ _ _ h.2 slr ?_ ?_ ?_ (by omega)⟩<;>first|(simp(disch:=omega) only[vm,seval,h.1];done)|rfl
 simp(disch:=omega) only[vm,seval,h.1]
 refine⟨hk4 false () _ _ _ _ h.2 slr ?_ ?_ ?_ (by omega)⟩<;>first|(simp(disch:=omega) only[vm,seval,h.1];done)|rfl
 simp(disch:=omega) only[vm,seval,h.1]
 refine⟨hk4 false () _ _ _ _ h.2 slr ?_ ?_ ?_ (by omega)⟩<;>first|(simp(disch:=omega) only[vm,seval,h.1];done)|rfl
theorem FM {a0 r} (h:EJ N a0=some r) (ha:args=[.str a0]) (hQ: ∀n',n≤n'→Gl (Q (.tuple [.str r.1,.int .i64 r.2]) ⟨m,n'⟩)):ACall vE 42 args ⟨m,n⟩ Q:=by
 rw[EJ]at h
 subst ha
 refine ent hQ Tryz.func42 rfl Tryz.ntmps42 Tryz.results42 (.q (.r []) (.q (.q (.r []) (.c (.q (.r []) .z) .z)) (.q (.r []) .z))) fun R hR=>?_
 replace h:=And.intro trivial h
 replace h:=AC h
 rcases h with h|h
 obtain⟨H,h⟩:=h
 cases h
 simp(disch:=omega) only[vm,seval,H]
 refine⟨(hR _ _ _ _ _ _ (by simp(disch:=omega) only[vm,seval,H];rfl) slr ?_ (by omega) ?_).1⟩<;>first|(simp(disch:=omega) only[vm,seval,H];done)|rfl
 simp(disch:=omega) only[vm,seval,h.1]
 refine⟨AV (γ:=Unit) h [2,3,5,6,7,8,12,13,14,15,16,17,18,19,20,21,22,23,24,25,26,27,28,29,30,31,32,33,34,35,36,37] [4] (fun j1 g=>[.slice 1 (List.map (AVal.int .u8) j1) true]) (fun j1 g=>m) (.q (.r []) .z) ?_ ?_⟩<;>clear h
 rintro j1 _ n4 hnn4 _ _ h
 refine AB (.q (.r []) .z) ?_
 obtain⟨H,h⟩:=h
 cases h
 simp(disch:=omega) only[vm,seval,H]
 refine⟨(hR _ _ _ _ _ _ (by simp(disch:=omega) only[vm,seval,H];rfl) slr ?_ (by omega) ?_).1⟩<;>first|(simp(disch:=omega) only[vm,seval,H];done)|rfl
 intro k2 Jk2 hk2 h
 simp(disch:=omega) only[vm,seval,h.1]
 refine⟨Ka (σ:=(List Int)×Int) (γ:=Unit) (fun k s=>D7 N a0 k2 k s.1 s.2) (fun s g=>[.slice 1 (List.map (AVal.int .u8) s.1) true,.int .i64 s.2]) (fun s g=>m) [2,3,6,7,8,12,13,14,15,16,17,18,19,20,21,22,23,24,25,26,27,28,29,30,31,32,33,34,35,36,37] [4,5] ([],0) () h (fun _=>rfl) (by first|(simp(disch:=omega) only[vm,seval,h.1];done)|rfl) (by first|(simp(disch:=omega) only[vm,seval,h.1];done)|rfl) ?_⟩
 clear h
 rintro k5 ⟨s4,s5⟩ _ nL0_1 hnL0_1 _ h Jk5 hk5
 change _∧D7 N a0 k2 (k5+1) s4 s5=_ at h
 rw[D7]at h
 refine AB (.q (.q (.r []) (.c .z .z)) (.q (.q (.r []) .z) (.r []))) ?_
 replace h:=AC h
 rcases h with h|h
 replace h:=AA h
 obtain⟨x6,h⟩:=h
 simp(disch:=omega) only[vm,seval,h.1]
 refine⟨AV (γ:=Unit) h [2,3,7,8,21,22,23,24,25,26,27,28,29,30,31,32,33] [5,6] (fun j7 g=>[.int .i64 j7.1,.int .u8 j7.2]) (fun j7 g=>m) (.q (.r []) (.c (.q (.r []) (.q (.q (.r []) (.c (.q (.r []) .z) .z)) (.r []))) .z)) ?_ ?_⟩<;>clear h
 rintro j7 _ n10 hnn10 _ _ h
 refine AB (.r [34]) ?_
 replace h:=AR h
 obtain⟨c,h⟩:=h
 try simp only[liE,seval]at c
 replace h:=AO c h
 simp(disch:=omega) only[vm,seval,h.1]
 refine⟨hk5 ((s4++[j7.2]),(wr .i64 (j7.1+1))) () _ _ _ _ h.2 slr ?_ ?_ ?_ (by omega)⟩<;>first|(simp(disch:=omega) only[vm,seval,h.1];done)|rfl
 intro k8 Jk8 hk8 h
 replace h:=AC h
 rcases h with h|h
 replace h:=AA h
 obtain⟨y11,h⟩:=h
 simp(disch:=omega) only[vm,seval,h.1]
 refine⟨NZ h.1.1 (by first|(simp(disch:=omega) only[vm,seval,h.1];done)|rfl) fun n12 hn12=>?_⟩
 replace h:=AC h
 rcases h with h|h
 simp(disch:=omega) only[vm,seval,h.1]
 refine⟨hk8 ((wr .i64 (s5+2)),y11.1) () _ _ _ _ h.2 slr ?_ ?_ ?_ (by omega)⟩<;>first|(simp(disch:=omega) only[vm,seval,h.1];done)|rfl
 obtain⟨H,h⟩:=h
 cases h
 simp(disch:=omega) only[vm,seval,H]
 refine⟨(hR _ _ _ _ _ _ (by simp(disch:=omega) only[vm,seval,H];rfl) slr ?_ (by omega) ?_).1⟩<;>first|(simp(disch:=omega) only[vm,seval,H];done)|rfl
 simp(disch:=omega) only[vm,seval,h.1]
 refine⟨hk8 (s5,(AJ x6)) () _ _ _ _ h.2 slr ?_ ?_ ?_ (by omega)⟩<;>first|(simp(disch:=omega) only[vm,seval,h.1];done)|rfl
 simp(disch:=omega) only[vm,seval,h.1]
 refine⟨hk2 s4 () _ _ _ _ h.2 slr ?_ ?_ ?_ (by omega)⟩<;>first|(simp(disch:=omega) only[vm,seval,h.1];done)|rfl
theorem Sd {a0 r} (h:I4 N a0=some r) (ha:args=[KW a0]) (hQ: ∀n',n≤n'→Gl (Q (.str r) ⟨m,n'⟩)):ACall vE 70 args ⟨m,n⟩ Q:=by
 rw[I4]at h
 subst ha
 refine ent hQ Tryz.func70 rfl Tryz.ntmps70 Tryz.results70 (.q (.r []) (.q .z .z)) fun R hR=>?_
 replace h:=And.intro trivial h
 replace h:=AA h
 obtain⟨y1,h⟩:=h
 have cy1:=h.1.1
 replace h:=AR h
 obtain⟨c,h⟩:=h
 try simp only[liE,seval]at c
 replace h:=AO c h
 replace h:=AR h
 obtain⟨c,h⟩:=h
 try simp only[liE,seval]at c
 replace h:=AO c h
 replace h:=AR h
 obtain⟨c,h⟩:=h
 try simp only[liE,seval]at c
 replace h:=AO c h
 simp(disch:=omega) only[vm,seval,h.1]
 refine⟨BM [] (.take 0 (.take 1 (.take 5 (.take 6 (.alt 2 [6,5,0] (.take 3 (.take 4 (.take 7 (.alt 8 [] (.done) (.stop))))) (.stop)))))) A8 (by kernel_rfl) ?_⟩
 simp(disch:=omega) only[vm,seval,h.1]
 refine⟨Ke cy1 (by first|(simp(disch:=omega) only[vm,seval,h.1];done)|rfl) fun n2 hn2=>?_⟩
 obtain⟨H,h⟩:=h
 cases h
 simp(disch:=omega) only[vm,seval,H]
 refine⟨(hR _ _ _ _ _ _ (by simp(disch:=omega) only[vm,seval,H];rfl) (.cons _ slr) ?_ (by omega) ?_).1⟩<;>first|(simp(disch:=omega) only[vm,seval,H];done)|rfl
end Go.Proofs.YtjgdhjpafjpjgaaGreatDoor
