import Derived.Test.YtooeobhihpkicaaGreatDoorVmFacts
import Derived.Test.YtooeobhihpkicaaGreatDoorDefs
import Derived.Test.YtooeobhihpkicaaGreatDoorVM2
import Derived.Test.YtooeobhihpkicaaGreatDoorW0
import Derived.Test.YtooeobhihpkicaaGreatDoorW1
import Derived.Test.YtooeobhihpkicaaGreatDoorW2
import Derived.Test.YtooeobhihpkicaaGreatDoorW4
import Derived.Test.YtooeobhihpkicaaGreatDoorW5
import Derived.Test.YtooeobhihpkicaaGreatDoorW6
import Derived.Test.YtooeobhihpkicaaGreatDoorW7
import Derived.Test.YtooeobhihpkicaaGreatDoorW8
import Derived.Test.YtooeobhihpkicaaGreatDoorW9
set_option linter.unusedVariables false
set_option linter.unusedSimpArgs false
set_option maxHeartbeats 4000000
set_option maxRecDepth 100000
set_option linter.defProp false
namespace Go.Proofs.YtooeobhihpkicaaGreatDoor
open Go.VM
variable{N n:Nat}{m:MS}{Q:PQ}{args:List AVal}
theorem VF {a0 a1 r} (h:Jr N a0 a1=some r) (ha:args=[.str a0,.int .i64 a1]) (hQ: ∀n',n≤n'→Gl (Q (.tuple [IC r.1,.int .i64 r.2.1,.int .i64 r.2.2]) ⟨m,n'⟩)):ACall vE 39 args ⟨m,n⟩ Q:=by
 rw[Jr]at h
 subst ha
 refine ent hQ Tryz.func39 rfl Tryz.ntmps39 Tryz.results39 (.q (.r []) (.q .z .z)) fun R hR=>?_
 replace h:=And.intro trivial h
 simp(disch:=omega) only[vm,seval,h.1]
 refine⟨Ad (γ:=Unit) h [14,15,16,17,18,19,20] [21] (fun j1 g=>[.bool j1]) (fun j1 g=>(n,[.int .i64 0,.str [],.int .i64 0])::m) (.r []) ?_ ?_⟩<;>clear h
 rintro j1 _ n4 hnn4 _ _ h
 refine AB (.c (.q (.r []) .z) .z) ?_
 replace h:=AC h
 rcases h with h|h
 obtain⟨H,h⟩:=h
 cases h
 simp(disch:=omega) only[vm,seval,H]
 refine⟨(hR _ _ _ _ _ _ (by simp(disch:=omega) only[vm,seval,H];rfl) (.cons _ slr) ?_ (by omega) ?_).1⟩<;>first|(simp(disch:=omega) only[vm,seval,H];done)|rfl
 simp(disch:=omega) only[vm,seval,h.1]
 refine⟨Ad (γ:=Unit) h [23,24,25,26,27,28,29,30,31,32,33,34] [1] (fun j5 g=>[.int .i64 j5]) (fun j5 g=>(n,[.int .i64 0,.str [],.int .i64 0])::m) .z ?_ ?_⟩<;>clear h
 rintro j5 _ n8 hnn8 _ _ h
 refine AB (.q (.q (.r []) (.c (.q (.r []) .z) .z)) (.q (.q (.r []) (.q (.r []) (.c (.q (.r []) .z) (.q (.r []) (.c (.q (.r []) (.q (.q (.r []) (.c (.q (.r []) .z) .z)) (.q (.r []) .z))) .z))))) (.q (.r []) .z))) ?_
 replace h:=AC h
 rcases h with h|h
 obtain⟨H,h⟩:=h
 cases h
 simp(disch:=omega) only[vm,seval,H]
 refine⟨(hR _ _ _ _ _ _ (by simp(disch:=omega) only[vm,seval,H];rfl) (.cons _ slr) ?_ (by omega) ?_).1⟩<;>first|(simp(disch:=omega) only[vm,seval,H];done)|rfl
 replace h:=AA h
 obtain⟨x17,h⟩:=h
 replace h:=AA h
 obtain⟨y18,h⟩:=h
 simp(disch:=omega) only[vm,seval,h.1]
 refine⟨Iw h.1.1 (by first|(simp(disch:=omega) only[vm,seval,h.1];done)|rfl) fun n19 hn19=>?_⟩
 replace h:=AC h
 rcases h with h|h
 replace h:=AA h
 obtain⟨x20,h⟩:=h
 obtain⟨H,h⟩:=h
 cases h
 simp(disch:=omega) only[vm,seval,H]
 refine⟨(hR _ _ _ _ _ _ (by simp(disch:=omega) only[vm,seval,H];rfl) (.cons _ slr) ?_ (by omega) ?_).1⟩<;>first|(simp(disch:=omega) only[vm,seval,H];done)|rfl
 replace h:=AC h
 rcases h with h|h
 replace h:=AA h
 obtain⟨y21,h⟩:=h
 simp(disch:=omega) only[vm,seval,h.1]
 refine⟨Vd h.1.1 (by first|(simp(disch:=omega) only[vm,seval,h.1];done)|rfl) fun n22 hn22=>?_⟩
 replace h:=AC h
 rcases h with h|h
 obtain⟨H,h⟩:=h
 cases h
 simp(disch:=omega) only[vm,seval,H]
 refine⟨(hR _ _ _ _ _ _ (by simp(disch:=omega) only[vm,seval,H];rfl) (.cons _ slr) ?_ (by omega) ?_).1⟩<;>first|(simp(disch:=omega) only[vm,seval,H];done)|rfl
 obtain⟨H,h⟩:=h
 cases h
 simp(disch:=omega) only[vm,seval,H]
 refine⟨(hR _ _ _ _ _ _ (by simp(disch:=omega) only[vm,seval,H];rfl) (.cons _ slr) ?_ (by omega) ?_).1⟩<;>first|(simp(disch:=omega) only[vm,seval,H];done)|rfl
 simp(disch:=omega) only[vm,seval,h.1]
 refine⟨Ad (γ:=Unit) h [76,77,78,79,80,81] [75] (fun j23 g=>[.bool j23]) (fun j23 g=>(n,[.int .i64 0,.str [],.int .i64 0])::m) (.r []) ?_ ?_⟩<;>clear h
 rintro j23 _ n26 hnn26 _ _ h
 refine AB (.c (.q (.r []) (.q (.q (.r []) (.c (.q (.r []) .z) .z)) (.q (.r []) .z))) .z) ?_
 replace h:=AC h
 rcases h with h|h
 replace h:=AA h
 obtain⟨x29,h⟩:=h
 replace h:=AA h
 obtain⟨y30,h⟩:=h
 simp(disch:=omega) only[vm,seval,h.1]
 refine⟨LY h.1.1 (by first|(simp(disch:=omega) only[vm,seval,h.1];done)|rfl) fun n31 hn31=>?_⟩
 replace h:=AC h
 rcases h with h|h
 obtain⟨H,h⟩:=h
 cases h
 simp(disch:=omega) only[vm,seval,H]
 refine⟨(hR _ _ _ _ _ _ (by simp(disch:=omega) only[vm,seval,H];rfl) (.cons _ slr) ?_ (by omega) ?_).1⟩<;>first|(simp(disch:=omega) only[vm,seval,H];done)|rfl
 replace h:=AA h
 obtain⟨x32,h⟩:=h
 obtain⟨H,h⟩:=h
 cases h
 simp(disch:=omega) only[vm,seval,H]
 refine⟨(hR _ _ _ _ _ _ (by simp(disch:=omega) only[vm,seval,H];rfl) (.cons _ slr) ?_ (by omega) ?_).1⟩<;>first|(simp(disch:=omega) only[vm,seval,H];done)|rfl
 simp(disch:=omega) only[vm,seval,h.1]
 refine⟨Ad (γ:=Unit) h [100,101,102,103,104,105,106,107,108,109,110,111,112,113,114,115] [12] (fun j33 g=>[.int .i64 j33]) (fun j33 g=>(n,[.int .i64 0,.str [],.int .i64 0])::m) .z ?_ ?_⟩<;>clear h
 rintro j33 _ n36 hnn36 _ _ h
 refine AB (.q (.q (.r []) .z) (.q (.r []) .z)) ?_
 replace h:=AA h
 obtain⟨x45,h⟩:=h
 simp(disch:=omega) only[vm,seval,h.1]
 refine⟨Ad (γ:=Unit) h [122,123,124,125,126,127,128,129,130] [131] (fun j46 g=>[.bool j46]) (fun j46 g=>(n,[.int .i64 0,.str [],.int .i64 0])::m) (.r []) ?_ ?_⟩<;>clear h
 rintro j46 _ n49 hnn49 _ _ h
 refine AB (.c (.q (.r []) .z) .z) ?_
 replace h:=AC h
 rcases h with h|h
 obtain⟨H,h⟩:=h
 cases h
 simp(disch:=omega) only[vm,seval,H]
 refine⟨(hR _ _ _ _ _ _ (by simp(disch:=omega) only[vm,seval,H];rfl) (.cons _ slr) ?_ (by omega) ?_).1⟩<;>first|(simp(disch:=omega) only[vm,seval,H];done)|rfl
 obtain⟨H,h⟩:=h
 cases h
 simp(disch:=omega) only[vm,seval,H]
 refine⟨(hR _ _ _ _ _ _ (by simp(disch:=omega) only[vm,seval,H];rfl) (.cons _ slr) ?_ (by omega) ?_).1⟩<;>first|(simp(disch:=omega) only[vm,seval,H];done)|rfl
 intro k47 Jk47 hk47 h
 replace h:=AC h
 rcases h with h|h
 simp(disch:=omega) only[vm,seval,h.1]
 refine⟨hk47 true () _ _ _ _ h.2 slr ?_ ?_ ?_ (by omega)⟩<;>first|(simp(disch:=omega) only[vm,seval,h.1];done)|rfl
 replace h:=AC h
 rcases h with h|h
 simp(disch:=omega) only[vm,seval,h.1]
 refine⟨hk47 true () _ _ _ _ h.2 slr ?_ ?_ ?_ (by omega)⟩<;>first|(simp(disch:=omega) only[vm,seval,h.1];done)|rfl
 simp(disch:=omega) only[vm,seval,h.1]
 refine⟨hk47 (x45==([110,117,108,108]:List UInt8)) () _ _ _ _ h.2 slr ?_ ?_ ?_ (by omega)⟩<;>first|(simp(disch:=omega) only[vm,seval,h.1];done)|rfl
 intro k34 Jk34 hk34 h
 simp(disch:=omega) only[vm,seval,h.1]
 refine⟨D7 (σ:=Int) (γ:=Unit) (fun k s=>El N a0 j5 k34 k s) (fun s g=>[.int .i64 s]) (fun s g=>(n,[.int .i64 0,.str [],.int .i64 0])::m) [100,101,102,103,104,105,106,107,108,109,110,111,112,113,114,115] [12] 0 () h (fun _=>rfl) (by first|(simp(disch:=omega) only[vm,seval,h.1];done)|rfl) (by first|(simp(disch:=omega) only[vm,seval,h.1];done)|rfl) ?_⟩
 clear h
 rintro k37 s12 _ nL1_1 hnL1_1 _ h Jk37 hk37
 change _∧El N a0 j5 k34 (k37+1) s12=_ at h
 rw[El]at h
 refine AB (.q .z (.r [])) ?_
 simp(disch:=omega) only[vm,seval,h.1]
 refine⟨Ad (γ:=Unit) h [100,101,102,103,104,105,106,107,108,109,110,111,112] [113] (fun j38 g=>[.bool j38]) (fun j38 g=>(n,[.int .i64 0,.str [],.int .i64 0])::m) (.r []) ?_ ?_⟩<;>clear h
 rintro j38 _ n41 hnn41 _ _ h
 refine AB (.c .z .z) ?_
 replace h:=AC h
 rcases h with h|h
 simp(disch:=omega) only[vm,seval,h.1]
 refine⟨hk37 (wr .i64 (s12+1)) () _ _ _ _ h.2 slr ?_ ?_ ?_ (by omega)⟩<;>first|(simp(disch:=omega) only[vm,seval,h.1];done)|rfl
 simp(disch:=omega) only[vm,seval,h.1]
 refine⟨hk34 s12 () _ _ _ _ h.2 slr ?_ ?_ ?_ (by omega)⟩<;>first|(simp(disch:=omega) only[vm,seval,h.1];done)|rfl
 intro k39 Jk39 hk39 h
 replace h:=AC h
 rcases h with h|h
 replace h:=AA h
 obtain⟨x42,h⟩:=h
 replace h:=AA h
 obtain⟨y43,h⟩:=h
 simp(disch:=omega) only[vm,seval,h.1]
 refine⟨Pk h.1.1 (by first|(simp(disch:=omega) only[vm,seval,h.1];done)|rfl) fun n44 hn44=>?_⟩
 simp(disch:=omega) only[vm,seval,h.1]
 refine⟨hk39 y43 () _ _ _ _ h.2 slr ?_ ?_ ?_ (by omega)⟩<;>first|(simp(disch:=omega) only[vm,seval,h.1];done)|rfl
 simp(disch:=omega) only[vm,seval,h.1]
 refine⟨hk39 false () _ _ _ _ h.2 slr ?_ ?_ ?_ (by omega)⟩<;>first|(simp(disch:=omega) only[vm,seval,h.1];done)|rfl
 intro k24 Jk24 hk24 h
 replace h:=AC h
 rcases h with h|h
 simp(disch:=omega) only[vm,seval,h.1]
 refine⟨hk24 true () _ _ _ _ h.2 slr ?_ ?_ ?_ (by omega)⟩<;>first|(simp(disch:=omega) only[vm,seval,h.1];done)|rfl
 replace h:=AA h
 obtain⟨y27,h⟩:=h
 simp(disch:=omega) only[vm,seval,h.1]
 refine⟨GR h.1.1 (by first|(simp(disch:=omega) only[vm,seval,h.1];done)|rfl) fun n28 hn28=>?_⟩
 simp(disch:=omega) only[vm,seval,h.1]
 refine⟨hk24 y27 () _ _ _ _ h.2 slr ?_ ?_ ?_ (by omega)⟩<;>first|(simp(disch:=omega) only[vm,seval,h.1];done)|rfl
 intro k6 Jk6 hk6 h
 simp(disch:=omega) only[vm,seval,h.1]
 refine⟨D7 (σ:=Int) (γ:=Unit) (fun k s=>Ep N a0 k6 k s) (fun s g=>[.int .i64 s]) (fun s g=>(n,[.int .i64 0,.str [],.int .i64 0])::m) [23,24,25,26,27,28,29,30,31,32,33,34] [1] a1 () h (fun _=>rfl) (by first|(simp(disch:=omega) only[vm,seval,h.1];done)|rfl) (by first|(simp(disch:=omega) only[vm,seval,h.1];done)|rfl) ?_⟩
 clear h
 rintro k9 s1 _ nL0_1 hnL0_1 _ h Jk9 hk9
 change _∧Ep N a0 k6 (k9+1) s1=_ at h
 rw[Ep]at h
 refine AB (.q .z (.r [])) ?_
 simp(disch:=omega) only[vm,seval,h.1]
 refine⟨Ad (γ:=Unit) h [23,24,25,26,27,28,29,30,31] [32] (fun j10 g=>[.bool j10]) (fun j10 g=>(n,[.int .i64 0,.str [],.int .i64 0])::m) (.r []) ?_ ?_⟩<;>clear h
 rintro j10 _ n13 hnn13 _ _ h
 refine AB (.c .z .z) ?_
 replace h:=AC h
 rcases h with h|h
 simp(disch:=omega) only[vm,seval,h.1]
 refine⟨hk9 (wr .i64 (s1+1)) () _ _ _ _ h.2 slr ?_ ?_ ?_ (by omega)⟩<;>first|(simp(disch:=omega) only[vm,seval,h.1];done)|rfl
 simp(disch:=omega) only[vm,seval,h.1]
 refine⟨hk6 s1 () _ _ _ _ h.2 slr ?_ ?_ ?_ (by omega)⟩<;>first|(simp(disch:=omega) only[vm,seval,h.1];done)|rfl
 intro k11 Jk11 hk11 h
 replace h:=AC h
 rcases h with h|h
 replace h:=AA h
 obtain⟨x14,h⟩:=h
 replace h:=AA h
 obtain⟨y15,h⟩:=h
 simp(disch:=omega) only[vm,seval,h.1]
 refine⟨Sa h.1.1 (by first|(simp(disch:=omega) only[vm,seval,h.1];done)|rfl) fun n16 hn16=>?_⟩
 simp(disch:=omega) only[vm,seval,h.1]
 refine⟨hk11 y15 () _ _ _ _ h.2 slr ?_ ?_ ?_ (by omega)⟩<;>first|(simp(disch:=omega) only[vm,seval,h.1];done)|rfl
 simp(disch:=omega) only[vm,seval,h.1]
 refine⟨hk11 false () _ _ _ _ h.2 slr ?_ ?_ ?_ (by omega)⟩<;>first|(simp(disch:=omega) only[vm,seval,h.1];done)|rfl
 intro k2 Jk2 hk2 h
 replace h:=AC h
 rcases h with h|h
 simp(disch:=omega) only[vm,seval,h.1]
 refine⟨hk2 true () _ _ _ _ h.2 slr ?_ ?_ ?_ (by omega)⟩<;>first|(simp(disch:=omega) only[vm,seval,h.1];done)|rfl
 simp(disch:=omega) only[vm,seval,h.1]
 refine⟨hk2 (decide (a1>(a0.length:Int))) () _ _ _ _ h.2 slr ?_ ?_ ?_ (by omega)⟩<;>first|(simp(disch:=omega) only[vm,seval,h.1];done)|rfl
theorem QS {a0 r} (h:EN N a0=some r) (ha:args=[.str a0]) (hQ: ∀n',n≤n'→Gl (Q (.tuple [.str r.1,.int .i64 r.2]) ⟨m,n'⟩)):ACall vE 62 args ⟨m,n⟩ Q:=by
 rw[EN]at h
 subst ha
 refine ent hQ Tryz.func62 rfl Tryz.ntmps62 Tryz.results62 (.q (.r []) (.q (.r []) (.q (.q (.r []) .z) (.q (.r []) .z)))) fun R hR=>?_
 replace h:=And.intro trivial h
 replace h:=AA h
 obtain⟨y1,h⟩:=h
 simp(disch:=omega) only[vm,seval,h.1]
 refine⟨LZ h.1.1 (by first|(simp(disch:=omega) only[vm,seval,h.1];done)|rfl) (i0:=n) (by simp(disch:=omega) only[vm,seval,h.1]) fun n2 hn2=>?_⟩
 simp(disch:=omega) only[vm,seval,h.1]
 refine⟨Ad (γ:=Unit) h [26,27,28,29,30,31,32,33] [34] (fun j3 g=>[.bool j3]) (fun j3 g=>(n,[.str y1.2.2.s,.int .i64 y1.2.2.at_])::m) (.r []) ?_ ?_⟩<;>clear h
 rintro j3 _ n6 hnn6 _ _ h
 refine AB (.c (.q (.r []) .z) .z) ?_
 replace h:=AC h
 rcases h with h|h
 obtain⟨H,h⟩:=h
 cases h
 simp(disch:=omega) only[vm,seval,H]
 refine⟨(hR _ _ _ _ _ _ (by simp(disch:=omega) only[vm,seval,H];rfl) (.cons _ slr) ?_ (by omega) ?_).1⟩<;>first|(simp(disch:=omega) only[vm,seval,H];done)|rfl
 simp(disch:=omega) only[vm,seval,h.1]
 refine⟨Ad (γ:=Unit) h [36,37,38,39,40] [7,8] (fun j7 g=>[.str j7.1,.str j7.2]) (fun j7 g=>(n,[.str y1.2.2.s,.int .i64 y1.2.2.at_])::m) (.q (.r []) (.c .z .z)) ?_ ?_⟩<;>clear h
 rintro j7 _ n10 hnn10 _ _ h
 refine AB (.q (.r []) (.q (.r []) (.q (.r []) (.q (.r []) (.q (.q (.r []) (.c (.q (.r []) .z) .z)) (.q (.r []) (.q .z (.q (.q (.r []) (.c (.q (.r []) .z) (.q (.r []) (.c (.q (.r []) .z) .z)))) (.q (.r []) .z))))))))) ?_
 replace h:=AA h
 obtain⟨y13,h⟩:=h
 simp(disch:=omega) only[vm,seval,h.1]
 refine⟨SG h.1.1 (by first|(simp(disch:=omega) only[vm,seval,h.1];done)|rfl) fun n14 hn14=>?_⟩
 replace h:=AA h
 obtain⟨y15,h⟩:=h
 simp(disch:=omega) only[vm,seval,h.1]
 refine⟨Ml h.1.1 (by first|(simp(disch:=omega) only[vm,seval,h.1];done)|rfl) fun n16 hn16=>?_⟩
 replace h:=AA h
 obtain⟨y17,h⟩:=h
 simp(disch:=omega) only[vm,seval,h.1]
 refine⟨Ml h.1.1 (by first|(simp(disch:=omega) only[vm,seval,h.1];done)|rfl) fun n18 hn18=>?_⟩
 replace h:=Ag h
 obtain⟨c,h⟩:=h
 try simp only[liE,seval]at c
 replace h:=Aa c h
 replace h:=AA h
 obtain⟨y19,h⟩:=h
 simp(disch:=omega) only[vm,seval,h.1]
 refine⟨Js h.1.1 (by first|(simp(disch:=omega) only[vm,seval,h.1];done)|rfl) fun n20 hn20=>?_⟩
 replace h:=AA h
 obtain⟨y21,h⟩:=h
 simp(disch:=omega) only[vm,seval,h.1]
 refine⟨Mi h.1.1 (by first|(simp(disch:=omega) only[vm,seval,h.1];done)|rfl) fun n22 hn22=>?_⟩
 replace h:=AC h
 rcases h with h|h
 obtain⟨H,h⟩:=h
 cases h
 simp(disch:=omega) only[vm,seval,H]
 refine⟨(hR _ _ _ _ _ _ (by simp(disch:=omega) only[vm,seval,H];rfl) (.cons _ slr) ?_ (by omega) ?_).1⟩<;>first|(simp(disch:=omega) only[vm,seval,H];done)|rfl
 replace h:=AA h
 obtain⟨y23,h⟩:=h
 simp(disch:=omega) only[vm,seval,h.1]
 refine⟨OL h.1.1 (by first|(simp(disch:=omega) only[vm,seval,h.1];done)|rfl) fun n24 hn24=>?_⟩
 simp(disch:=omega) only[vm,seval,h.1]
 refine⟨Ad (γ:=Unit) h [73,74,75,76,77,78,79,80,81,82] [83] (fun j25 g=>[.bool j25]) (fun j25 g=>(n,[.str y1.2.2.s,.int .i64 y1.2.2.at_])::m) (.r []) ?_ ?_⟩<;>clear h
 rintro j25 _ n28 hnn28 _ _ h
 refine AB (.c (.q (.r []) .z) .z) ?_
 replace h:=AC h
 rcases h with h|h
 obtain⟨H,h⟩:=h
 cases h
 simp(disch:=omega) only[vm,seval,H]
 refine⟨(hR _ _ _ _ _ _ (by simp(disch:=omega) only[vm,seval,H];rfl) (.cons _ slr) ?_ (by omega) ?_).1⟩<;>first|(simp(disch:=omega) only[vm,seval,H];done)|rfl
 replace h:=AC h
 rcases h with h|h
 replace h:=Ag h
 obtain⟨c,h⟩:=h
 try simp only[liE,seval]at c
 replace h:=Aa c h
 replace h:=Ag h
 obtain⟨c,h⟩:=h
 try simp only[liE,seval]at c
 replace h:=Aa c h
 replace h:=AA h
 obtain⟨y29,h⟩:=h
 simp(disch:=omega) only[vm,seval,h.1]
 refine⟨LU h.1.1 (by first|(simp(disch:=omega) only[vm,seval,h.1];done)|rfl) fun n30 hn30=>?_⟩
 replace h:=Ag h
 obtain⟨c,h⟩:=h
 try simp only[liE,seval]at c
 replace h:=Aa c h
 obtain⟨H,h⟩:=h
 cases h
 simp(disch:=omega) only[vm,seval,H]
 refine⟨(hR _ _ _ _ _ _ (by simp(disch:=omega) only[vm,seval,H];rfl) (.cons _ slr) ?_ (by omega) ?_).1⟩<;>first|(simp(disch:=omega) only[vm,seval,H];done)|rfl
 replace h:=AC h
 rcases h with h|h
 replace h:=Ag h
 obtain⟨c,h⟩:=h
 try simp only[liE,seval]at c
 replace h:=Aa c h
 replace h:=Ag h
 obtain⟨c,h⟩:=h
 try simp only[liE,seval]at c
 replace h:=Aa c h
 replace h:=AA h
 obtain⟨y31,h⟩:=h
 simp(disch:=omega) only[vm,seval,h.1]
 refine⟨LU h.1.1 (by first|(simp(disch:=omega) only[vm,seval,h.1];done)|rfl) fun n32 hn32=>?_⟩
 replace h:=Ag h
 obtain⟨c,h⟩:=h
 try simp only[liE,seval]at c
 replace h:=Aa c h
 obtain⟨H,h⟩:=h
 cases h
 simp(disch:=omega) only[vm,seval,H]
 refine⟨(hR _ _ _ _ _ _ (by simp(disch:=omega) only[vm,seval,H];rfl) (.cons _ slr) ?_ (by omega) ?_).1⟩<;>first|(simp(disch:=omega) only[vm,seval,H];done)|rfl
 replace h:=Ag h
 obtain⟨c,h⟩:=h
 try simp only[liE,seval]at c
 replace h:=Aa c h
 obtain⟨H,h⟩:=h
 cases h
 simp(disch:=omega) only[vm,seval,H]
 refine⟨(hR _ _ _ _ _ _ (by simp(disch:=omega) only[vm,seval,H];rfl) (.cons _ slr) ?_ (by omega) ?_).1⟩<;>first|(simp(disch:=omega) only[vm,seval,H];done)|rfl
 intro k26 Jk26 hk26 h
 replace h:=AC h
 rcases h with h|h
 simp(disch:=omega) only[vm,seval,h.1]
 refine⟨hk26 true () _ _ _ _ h.2 slr ?_ ?_ ?_ (by omega)⟩<;>first|(simp(disch:=omega) only[vm,seval,h.1];done)|rfl
 replace h:=AC h
 rcases h with h|h
 simp(disch:=omega) only[vm,seval,h.1]
 refine⟨hk26 true () _ _ _ _ h.2 slr ?_ ?_ ?_ (by omega)⟩<;>first|(simp(disch:=omega) only[vm,seval,h.1];done)|rfl
 simp(disch:=omega) only[vm,seval,h.1]
 refine⟨hk26 (decide ((wr .i64 ((wr .i64 ((wr .i64 (y23-(y17.2.1.length:Int)))+(y19.length:Int)))-(y21.length:Int)))>400)) () _ _ _ _ h.2 slr ?_ ?_ ?_ (by omega)⟩<;>first|(simp(disch:=omega) only[vm,seval,h.1];done)|rfl
 intro k8 Jk8 hk8 h
 replace h:=AA h
 obtain⟨x11,h⟩:=h
 replace h:=AC h
 rcases h with h|h
 replace h:=AA h
 obtain⟨x12,h⟩:=h
 simp(disch:=omega) only[vm,seval,h.1]
 refine⟨BB [] (.take 0 (.take 1 (.alt 2 [1,0] (.alt 3 [] (.done) (.stop)) (.stop)))) Av (by kernel_rfl) ?_⟩
 simp(disch:=omega) only[vm,seval,h.1]
 refine⟨hk8 (([45]:List UInt8),x12) () _ _ _ _ h.2 slr ?_ ?_ ?_ (by omega)⟩<;>first|(simp(disch:=omega) only[vm,seval,h.1];done)|rfl
 simp(disch:=omega) only[vm,seval,h.1]
 refine⟨hk8 ([],a0) () _ _ _ _ h.2 slr ?_ ?_ ?_ (by omega)⟩<;>first|(simp(disch:=omega) only[vm,seval,h.1];done)|rfl
 intro k4 Jk4 hk4 h
 replace h:=AC h
 rcases h with h|h
 simp(disch:=omega) only[vm,seval,h.1]
 refine⟨hk4 ((y1.1.length:Int) !=(a0.length:Int)) () _ _ _ _ h.2 slr ?_ ?_ ?_ (by omega)⟩<;>first|(simp(disch:=omega) only[vm,seval,h.1];done)|rfl
 simp(disch:=omega) only[vm,seval,h.1]
 refine⟨hk4 true () _ _ _ _ h.2 slr ?_ ?_ ?_ (by omega)⟩<;>first|(simp(disch:=omega) only[vm,seval,h.1];done)|rfl
theorem FM (N:Nat): ∀D:Nat,(∀ {l0:Nat}{a0:(List Int)}{a1:Int}{a2:Int}{a3:Int}{c4_0:ApiValue}{r:(List Int)} (h:Ai N D l0 a0 a1 a2 a3 c4_0=some r){args:List AVal}{n:Nat}{m:MS}{i0:Nat} (ha:args=[.bsl 1 i0 0 l0,.int .i64 a1,.int .i64 a2,.int .i64 a3,.fn (.func 66) [] [.cptr [.int .i64 c4_0.kind,.str c4_0.text,.slice 1 (List.map AVal.str c4_0.keys) false,.slice 4 (List.map AJ c4_0.items) false]]]) (hi0:Bi m i0=some (List.map (AVal.int .i64) a0)){Q:PQ} (hQ: ∀n',n≤n'→Gl (Q (.tuple []) ⟨Br m i0 (List.map (AVal.int .i64) r),n'⟩)),ACall vE 81 args ⟨m,n⟩ Q):=by
 intro D
 induction D with
 |zero=>
  intro l0 a0 a1 a2 a3 c4_0 r h
  simp only[Ai,reduceCtorEq]at h
 |succ D ih_slices_pdqsortCmpFunc_int__jsonwrite_order_1=>
  intro l0 a0 a1 a2 a3 c4_0 r h args n m i0 ha hi0 Q hQ
  rw[Ai]at h
  subst ha
  refine ACall.front hi0 fun hin=>Mr (fun n' k=>⟨_,rfl,(hQ n' k).go⟩) Tryz.func81 rfl Tryz.ntmps81 Tryz.results81 (.q (.r []) (.q (.r []) .z)) fun R hR=>?_
  replace h:=And.intro trivial h
  simp(disch:=omega) only[vm,seval,h.1]
  refine⟨D7 (σ:=Int×Int×Int×Bool×Bool×(List Int)) (γ:=Unit) (fun k s=>Al N l0 c4_0 (Ai N D) k s.1 s.2.1 s.2.2.1 s.2.2.2.1 s.2.2.2.2.1 s.2.2.2.2.2) (fun s g=>[.int .i64 s.1,.int .i64 s.2.1,.int .i64 s.2.2.1,.bool s.2.2.2.1,.bool s.2.2.2.2.1]) (fun s g=>(i0,List.map (AVal.int .i64) s.2.2.2.2.2)::BP m i0) [12,13,14,15,16,17,18,19,20,21,22,23,24,25,26,27,28,29,30,31,32,33,34,35,36,37,38,39,40,41,42,43,44,45,46,47,48,49,50,51,52,53,54,55,56,57,58,59,60,61,62,63,64,65,66,67,68,69,70,71,72,73,74,75,76,77,78,79,80,81,82,83,84,85,86,87,88,89,90,91,92,93,94,95,96,97,98,99,100,101,102,103,104,105,106,107,108,109,110,111,112,113,114,115,116,117,118,119,120,121,122,123,124,125,126,127,128,129,130,131,132,133,134,135,136,137,138,139,140,141,142,143,144,145,146,147] [1,2,3,10,11] (a1,a2,a3,true,true,a0) () h (fun _=>rfl) (by first|(simp(disch:=omega) only[vm,seval,h.1];done)|rfl) (by first|(simp(disch:=omega) only[vm,seval,h.1];done)|rfl) ?_⟩
  clear h
  rintro k1 ⟨s1_0,s2_0,s3_0,s10_0,s11_0,bi0_0⟩ _ nL0_1 hnL0_1 _ h Jk1 hk1
  change _∧Al N l0 c4_0 (Ai N D) (k1+1) s1_0 s2_0 s3_0 s10_0 s11_0 bi0_0=_ at h
  rw[Al]at h
  refine AB (.q (.r []) (.q (.q (.r []) (.c (.q (.r []) .z) .z)) (.q (.q (.r []) (.c (.q (.r []) .z) .z)) .z))) ?_
  replace h:=AC h
  rcases h with h|h
  replace h:=AA h
  obtain⟨y2,h⟩:=h
  simp(disch:=omega) only[vm,seval,h.1]
  refine⟨Ej h.1.1 (by first|(simp(disch:=omega) only[vm,seval,h.1];done)|rfl) (i0:=i0) (by simp(disch:=omega) only[vm,seval,h.1]) fun n3 hn3=>?_⟩
  obtain⟨H,h⟩:=h
  cases h
  simp(disch:=omega) only[vm,seval,H]
  refine⟨(hR _ _ _ _ _ _ (by simp(disch:=omega) only[vm,seval,H];rfl) slr ?_ (by omega) ?_).1⟩<;>first|(simp(disch:=omega) only[vm,seval,H];done)|rfl
  replace h:=AC h
  rcases h with h|h
  replace h:=AA h
  obtain⟨y4,h⟩:=h
  simp(disch:=omega) only[vm,seval,h.1]
  refine⟨FT h.1.1 (by first|(simp(disch:=omega) only[vm,seval,h.1];done)|rfl) (i0:=i0) (by simp(disch:=omega) only[vm,seval,h.1]) fun n5 hn5=>?_⟩
  obtain⟨H,h⟩:=h
  cases h
  simp(disch:=omega) only[vm,seval,H]
  refine⟨(hR _ _ _ _ _ _ (by simp(disch:=omega) only[vm,seval,H];rfl) slr ?_ (by omega) ?_).1⟩<;>first|(simp(disch:=omega) only[vm,seval,H];done)|rfl
  simp(disch:=omega) only[vm,seval,h.1]
  refine⟨Ad (γ:=Unit) h [38,39,40,41,42,43,44,45,46] [3] (fun j6 g=>[.int .i64 j6.1]) (fun j6 g=>(i0,List.map (AVal.int .i64) j6.2)::BP m i0) (.q (.r []) (.c (.q (.r []) (.r [])) .z)) ?_ ?_⟩<;>clear h
  rintro j6 _ n9 hnn9 _ _ h
  refine AB (.q (.r []) .z) ?_
  replace h:=AA h
  obtain⟨y12,h⟩:=h
  simp(disch:=omega) only[vm,seval,h.1]
  refine⟨Eu h.1.1 (by first|(simp(disch:=omega) only[vm,seval,h.1];done)|rfl) (i0:=i0) (by simp(disch:=omega) only[vm,seval,h.1]) fun n13 hn13=>?_⟩
  simp(disch:=omega) only[vm,seval,h.1]
  refine⟨Ad (γ:=Unit) h [55,56,57,58,59,60,61,62,63,64,65,66,67] [13,14] (fun j14 g=>[.int .i64 j14.1,.int .i64 j14.2.1]) (fun j14 g=>(i0,List.map (AVal.int .i64) j14.2.2)::BP m i0) (.q (.r []) (.c (.q (.r []) (.q (.r []) (.r []))) .z)) ?_ ?_⟩<;>clear h
  rintro j14 _ n17 hnn17 _ _ h
  refine AB .z ?_
  simp(disch:=omega) only[vm,seval,h.1]
  refine⟨Ad (γ:=Unit) h [68,69,70,71,72,73,74,75,76,77,78,79,80] [] (fun j20 g=>[]) (fun j20 g=>(i0,List.map (AVal.int .i64) j20)::BP m i0) .z ?_ ?_⟩<;>clear h
  rintro j20 _ n23 hnn23 _ _ h
  refine AB (.q .z (.q (.r []) (.q (.r []) (.q (.r []) (.q (.r []) (.q (.r []) (.c (.q (.r []) (.q (.r []) (.r []))) (.q (.r []) (.q (.r []) (.r [])))))))))) ?_
  simp(disch:=omega) only[vm,seval,h.1]
  refine⟨Ad (γ:=Unit) h [81,82,83,84,85,86,87,88,89,90,91,92,93,94,95,96] [97] (fun j30 g=>[.bool j30]) (fun j30 g=>(i0,List.map (AVal.int .i64) j20)::BP m i0) .z ?_ ?_⟩<;>clear h
  rintro j30 _ n33 hnn33 _ _ h
  refine AB (.c (.q (.r []) (.q (.r []) .z)) .z) ?_
  replace h:=AC h
  rcases h with h|h
  replace h:=AA h
  obtain⟨y38,h⟩:=h
  simp(disch:=omega) only[vm,seval,h.1]
  refine⟨Eg h.1.1 (by first|(simp(disch:=omega) only[vm,seval,h.1];done)|rfl) (i0:=i0) (by simp(disch:=omega) only[vm,seval,h.1]) fun n39 hn39=>?_⟩
  simp(disch:=omega) only[vm,seval,h.1]
  refine⟨hk1 (y38.1,s2_0,j6.1,s10_0,s11_0,y38.2) () _ _ _ _ h.2 slr ?_ ?_ ?_ (by omega)⟩<;>first|(simp(disch:=omega) only[vm,seval,h.1];done)|rfl
  replace h:=AA h
  obtain⟨y40,h⟩:=h
  simp(disch:=omega) only[vm,seval,h.1]
  refine⟨FK h.1.1 (by first|(simp(disch:=omega) only[vm,seval,h.1];done)|rfl) (i0:=i0) (by simp(disch:=omega) only[vm,seval,h.1]) fun n41 hn41=>?_⟩
  replace h:=AC h
  rcases h with h|h
  replace h:=AA h
  obtain⟨y42,h⟩:=h
  simp(disch:=omega) only[vm,seval,h.1]
  refine⟨ih_slices_pdqsortCmpFunc_int__jsonwrite_order_1 h.1.1 (by first|(simp(disch:=omega) only[vm,seval,h.1];done)|rfl) (i0:=i0) (by simp(disch:=omega) only[vm,seval,h.1]) fun n43 hn43=>?_⟩
  simp(disch:=omega) only[vm,seval,h.1]
  refine⟨hk1 ((wr .i64 (y40.1+1)),s2_0,j6.1,(decide ((wr .i64 (y40.1-s1_0))≥(wr .i64 ((wr .i64 (s2_0-s1_0)).tdiv 8)))),y40.2.1,y42) () _ _ _ _ h.2 slr ?_ ?_ ?_ (by omega)⟩<;>first|(simp(disch:=omega) only[vm,seval,h.1];done)|rfl
  replace h:=AA h
  obtain⟨y44,h⟩:=h
  simp(disch:=omega) only[vm,seval,h.1]
  refine⟨ih_slices_pdqsortCmpFunc_int__jsonwrite_order_1 h.1.1 (by first|(simp(disch:=omega) only[vm,seval,h.1];done)|rfl) (i0:=i0) (by simp(disch:=omega) only[vm,seval,h.1]) fun n45 hn45=>?_⟩
  simp(disch:=omega) only[vm,seval,h.1]
  refine⟨hk1 (s1_0,y40.1,j6.1,(decide ((wr .i64 (s2_0-y40.1))≥(wr .i64 ((wr .i64 (s2_0-s1_0)).tdiv 8)))),y40.2.1,y44) () _ _ _ _ h.2 slr ?_ ?_ ?_ (by omega)⟩<;>first|(simp(disch:=omega) only[vm,seval,h.1];done)|rfl
  intro k31 Jk31 hk31 h
  replace h:=AC h
  rcases h with h|h
  replace h:=Ag h
  obtain⟨c,h⟩:=h
  try simp only[liE,seval]at c
  replace h:=Aa c h
  replace h:=AA h
  obtain⟨x34,h⟩:=h
  replace h:=Ag h
  obtain⟨c,h⟩:=h
  try simp only[liE,seval]at c
  replace h:=Aa c h
  replace h:=AA h
  obtain⟨x35,h⟩:=h
  replace h:=AA h
  obtain⟨y36,h⟩:=h
  have cy36:=h.1.1
  simp(disch:=omega) only[vm,seval,h.1]
  refine⟨BB [] (.take 0 (.take 1 (.take 2 (.take 3 (.take 4 (.take 5 (.take 6 (.take 7 (.take 8 (.take 9 (.take 10 (.take 11 (.take 12 (.alt 13 [11,10,9,7,6,5,4,1,0] (.take 14 (.take 15 (.take 16 (.done)))) (.stop))))))))))))))) Av (by kernel_rfl) ?_⟩
  simp(disch:=omega) only[vm,seval,h.1]
  refine⟨Be cy36 (by first|(simp(disch:=omega) only[vm,seval,h.1];done)|rfl) fun n37 hn37=>?_⟩
  simp(disch:=omega) only[vm,seval,h.1]
  refine⟨hk31 (!(decide (y36<0))) () _ _ _ _ h.2 slr ?_ ?_ ?_ (by omega)⟩<;>first|(simp(disch:=omega) only[vm,seval,h.1];done)|rfl
  simp(disch:=omega) only[vm,seval,h.1]
  refine⟨BB [] (.take 0 (.take 1 (.take 2 (.take 3 (.take 4 (.take 5 (.take 6 (.take 7 (.take 8 (.take 9 (.take 10 (.take 11 (.take 12 (.alt 13 [11,10,9,7,6,5,4,1,0] (.take 14 (.take 15 (.take 16 (.done)))) (.stop))))))))))))))) Av (by kernel_rfl) ?_⟩
  simp(disch:=omega) only[vm,seval,h.1]
  refine⟨hk31 false () _ _ _ _ h.2 slr ?_ ?_ ?_ (by omega)⟩<;>first|(simp(disch:=omega) only[vm,seval,h.1];done)|rfl
  intro k21 Jk21 hk21 h
  simp(disch:=omega) only[vm,seval,h.1]
  refine⟨Ad (γ:=Unit) h [68,69,70,71,72,73,74] [75] (fun j24 g=>[.bool j24]) (fun j24 g=>(i0,List.map (AVal.int .i64) j14.2.2)::BP m i0) (.r []) ?_ ?_⟩<;>clear h
  rintro j24 _ n27 hnn27 _ _ h
  refine AB (.c (.q (.r []) (.c .z .z)) .z) ?_
  replace h:=AC h
  rcases h with h|h
  replace h:=AA h
  obtain⟨y28,h⟩:=h
  simp(disch:=omega) only[vm,seval,h.1]
  refine⟨EH h.1.1 (by first|(simp(disch:=omega) only[vm,seval,h.1];done)|rfl) (i0:=i0) (by simp(disch:=omega) only[vm,seval,h.1]) fun n29 hn29=>?_⟩
  replace h:=AC h
  rcases h with h|h
  obtain⟨H,h⟩:=h
  cases h
  simp(disch:=omega) only[vm,seval,H]
  refine⟨(hR _ _ _ _ _ _ (by simp(disch:=omega) only[vm,seval,H];rfl) slr ?_ (by omega) ?_).1⟩<;>first|(simp(disch:=omega) only[vm,seval,H];done)|rfl
  simp(disch:=omega) only[vm,seval,h.1]
  refine⟨hk21 y28.2 () _ _ _ _ h.2 slr ?_ ?_ ?_ (by omega)⟩<;>first|(simp(disch:=omega) only[vm,seval,h.1];done)|rfl
  simp(disch:=omega) only[vm,seval,h.1]
  refine⟨hk21 j14.2.2 () _ _ _ _ h.2 slr ?_ ?_ ?_ (by omega)⟩<;>first|(simp(disch:=omega) only[vm,seval,h.1];done)|rfl
  intro k25 Jk25 hk25 h
  replace h:=AC h
  rcases h with h|h
  replace h:=AC h
  rcases h with h|h
  simp(disch:=omega) only[vm,seval,h.1]
  refine⟨hk25 (j14.2.1==1) () _ _ _ _ h.2 slr ?_ ?_ ?_ (by omega)⟩<;>first|(simp(disch:=omega) only[vm,seval,h.1];done)|rfl
  simp(disch:=omega) only[vm,seval,h.1]
  refine⟨hk25 false () _ _ _ _ h.2 slr ?_ ?_ ?_ (by omega)⟩<;>first|(simp(disch:=omega) only[vm,seval,h.1];done)|rfl
  simp(disch:=omega) only[vm,seval,h.1]
  refine⟨hk25 false () _ _ _ _ h.2 slr ?_ ?_ ?_ (by omega)⟩<;>first|(simp(disch:=omega) only[vm,seval,h.1];done)|rfl
  intro k15 Jk15 hk15 h
  replace h:=AC h
  rcases h with h|h
  replace h:=AA h
  obtain⟨y18,h⟩:=h
  simp(disch:=omega) only[vm,seval,h.1]
  refine⟨Et h.1.1 (by first|(simp(disch:=omega) only[vm,seval,h.1];done)|rfl) (i0:=i0) (by simp(disch:=omega) only[vm,seval,h.1]) fun n19 hn19=>?_⟩
  simp(disch:=omega) only[vm,seval,h.1]
  refine⟨hk15 ((wr .i64 ((wr .i64 (s2_0-1))-(wr .i64 (y12.1-s1_0)))),1,y18) () _ _ _ _ h.2 slr ?_ ?_ ?_ (by omega)⟩<;>first|(simp(disch:=omega) only[vm,seval,h.1];done)|rfl
  simp(disch:=omega) only[vm,seval,h.1]
  refine⟨hk15 (y12.1,y12.2.1,y12.2.2) () _ _ _ _ h.2 slr ?_ ?_ ?_ (by omega)⟩<;>first|(simp(disch:=omega) only[vm,seval,h.1];done)|rfl
  intro k7 Jk7 hk7 h
  replace h:=AC h
  rcases h with h|h
  simp(disch:=omega) only[vm,seval,h.1]
  refine⟨hk7 (s3_0,bi0_0) () _ _ _ _ h.2 slr ?_ ?_ ?_ (by omega)⟩<;>first|(simp(disch:=omega) only[vm,seval,h.1];done)|rfl
  replace h:=AA h
  obtain⟨y10,h⟩:=h
  simp(disch:=omega) only[vm,seval,h.1]
  refine⟨Eh h.1.1 (by first|(simp(disch:=omega) only[vm,seval,h.1];done)|rfl) (i0:=i0) (by simp(disch:=omega) only[vm,seval,h.1]) fun n11 hn11=>?_⟩
  simp(disch:=omega) only[vm,seval,h.1]
  refine⟨hk7 ((wr .i64 (s3_0-1)),y10) () _ _ _ _ h.2 slr ?_ ?_ ?_ (by omega)⟩<;>first|(simp(disch:=omega) only[vm,seval,h.1];done)|rfl
theorem Fp {l0 a0 a1 a2 a3 c4_0 r}{i0:Nat} (h:Ai N N l0 a0 a1 a2 a3 c4_0=some r) (ha:args=[.bsl 1 i0 0 l0,.int .i64 a1,.int .i64 a2,.int .i64 a3,.fn (.func 66) [] [.cptr [.int .i64 c4_0.kind,.str c4_0.text,.slice 1 (List.map AVal.str c4_0.keys) false,.slice 4 (List.map AJ c4_0.items) false]]]) (hi0:Bi m i0=some (List.map (AVal.int .i64) a0)) (hQ: ∀n',n≤n'→Gl (Q (.tuple []) ⟨Br m i0 (List.map (AVal.int .i64) r),n'⟩)):ACall vE 81 args ⟨m,n⟩ Q:=
 (FM N N h ha hi0 hQ)
end Go.Proofs.YtooeobhihpkicaaGreatDoor
