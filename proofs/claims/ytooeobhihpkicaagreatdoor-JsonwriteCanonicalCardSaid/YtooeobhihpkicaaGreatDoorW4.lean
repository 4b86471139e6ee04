import Derived.Test.YtooeobhihpkicaaGreatDoorVmFacts
import Derived.Test.YtooeobhihpkicaaGreatDoorDefs
import Derived.Test.YtooeobhihpkicaaGreatDoorVM2
import Derived.Test.YtooeobhihpkicaaGreatDoorW0
import Derived.Test.YtooeobhihpkicaaGreatDoorW2
set_option linter.unusedVariables false
set_option linter.unusedSimpArgs false
set_option maxHeartbeats 4000000
set_option maxRecDepth 100000
set_option linter.defProp false
namespace Go.Proofs.YtooeobhihpkicaaGreatDoor
open Go.VM
variable{N n:Nat}{m:MS}{Q:PQ}{args:List AVal}
theorem LY {a0 r} (h:Gc N a0=some r) (ha:args=[.str a0]) (hQ: ∀n',n≤n'→Gl (Q (.int .i64 r) ⟨m,n'⟩)):ACall vE 50 args ⟨m,n⟩ Q:=by
 rw[Gc]at h
 subst ha
 refine ent hQ Tryz.func50 rfl Tryz.ntmps50 Tryz.results50 (.q (.r []) (.q (.r []) .z)) fun R hR=>?_
 replace h:=And.intro trivial h
 simp(disch:=omega) only[vm,seval,h.1]
 refine⟨Ad (γ:=Unit) h [7,8,9,10,11,12,13,14,15,16,17,18] [3] (fun j1 g=>[.int .i64 j1]) (fun j1 g=>m) .z ?_ ?_⟩<;>clear h
 rintro j1 _ n4 hnn4 _ _ h
 refine AB (.q .z .z) ?_
 simp(disch:=omega) only[vm,seval,h.1]
 refine⟨Ad (γ:=Unit) h [19,20,21,22,23,24,25,26,27,28] [29] (fun j10 g=>[.bool j10]) (fun j10 g=>m) (.r []) ?_ ?_⟩<;>clear h
 rintro j10 _ n13 hnn13 _ _ h
 refine AB (.c (.q (.r []) .z) .z) ?_
 replace h:=AC h
 rcases h with h|h
 obtain⟨H,h⟩:=h
 cases h
 simp(disch:=omega) only[vm,seval,H]
 refine⟨(hR _ _ _ _ _ _ (by simp(disch:=omega) only[vm,seval,H];rfl) slr ?_ (by omega) ?_).1⟩<;>first|(simp(disch:=omega) only[vm,seval,H];done)|rfl
 simp(disch:=omega) only[vm,seval,h.1]
 refine⟨Ad (γ:=Unit) h [30,31,32,33,34,35,36,37,38,39,40,41] [3] (fun j17 g=>[.int .i64 j17]) (fun j17 g=>m) (.q (.r []) (.c (.r []) (.r []))) ?_ ?_⟩<;>clear h
 rintro j17 _ n20 hnn20 _ _ h
 refine AB .z ?_
 simp(disch:=omega) only[vm,seval,h.1]
 refine⟨Ad (γ:=Unit) h [4,42,43,44,45,46,47,48,49,50,51,52,53,54,55,56,57,58,59,60,61,62,63,64] [3] (fun j25 g=>[.int .i64 j25]) (fun j25 g=>m) (.q (.r []) .z) ?_ ?_⟩<;>clear h
 rintro j25 _ n28 hnn28 _ _ h
 refine AB .z ?_
 simp(disch:=omega) only[vm,seval,h.1]
 refine⟨Ad (γ:=Unit) h [5,6,65,66,67,68,69,70,71,72,73,74,75,76,77,78,79,80,81,82,83,84,85,86,87,88,89,90,91,92,93,94,95,96,97] [3] (fun j38 g=>[.int .i64 j38]) (fun j38 g=>m) .z ?_ ?_⟩<;>clear h
 rintro j38 _ n41 hnn41 _ _ h
 refine AB (.q (.r []) .z) ?_
 obtain⟨H,h⟩:=h
 cases h
 simp(disch:=omega) only[vm,seval,H]
 refine⟨(hR _ _ _ _ _ _ (by simp(disch:=omega) only[vm,seval,H];rfl) slr ?_ (by omega) ?_).1⟩<;>first|(simp(disch:=omega) only[vm,seval,H];done)|rfl
 intro k39 Jk39 hk39 h
 simp(disch:=omega) only[vm,seval,h.1]
 refine⟨Ad (γ:=Unit) h [65,66,67,68,69,70,71,72,73] [74] (fun j42 g=>[.bool j42]) (fun j42 g=>m) (.r []) ?_ ?_⟩<;>clear h
 rintro j42 _ n45 hnn45 _ _ h
 refine AB (.c (.q (.r []) .z) .z) ?_
 replace h:=AC h
 rcases h with h|h
 simp(disch:=omega) only[vm,seval,h.1]
 refine⟨Ad (γ:=Unit) h [77,78,79,80,81,82,83,84,85,86,87,88] [5] (fun j49 g=>[.int .i64 j49]) (fun j49 g=>m) .z ?_ ?_⟩<;>clear h
 rintro j49 _ n52 hnn52 _ _ h
 refine AB (.q (.r []) (.q (.r []) (.c (.r []) .z))) ?_
 replace h:=AA h
 obtain⟨y60,h⟩:=h
 simp(disch:=omega) only[vm,seval,h.1]
 refine⟨LA h.1.1 (by first|(simp(disch:=omega) only[vm,seval,h.1];done)|rfl) fun n61 hn61=>?_⟩
 replace h:=AA h
 obtain⟨y62,h⟩:=h
 simp(disch:=omega) only[vm,seval,h.1]
 refine⟨MJ h.1.1 (by first|(simp(disch:=omega) only[vm,seval,h.1];done)|rfl) fun n63 hn63=>?_⟩
 replace h:=AC h
 rcases h with h|h
 simp(disch:=omega) only[vm,seval,h.1]
 refine⟨hk39 (wr .i64 (j49+y62)) () _ _ _ _ h.2 slr ?_ ?_ ?_ (by omega)⟩<;>first|(simp(disch:=omega) only[vm,seval,h.1];done)|rfl
 simp(disch:=omega) only[vm,seval,h.1]
 refine⟨hk39 j25 () _ _ _ _ h.2 slr ?_ ?_ ?_ (by omega)⟩<;>first|(simp(disch:=omega) only[vm,seval,h.1];done)|rfl
 intro k50 Jk50 hk50 h
 simp(disch:=omega) only[vm,seval,h.1]
 refine⟨Ad (γ:=Unit) h [77,78,79,80,81,82,83,84,85] [86] (fun j53 g=>[.bool j53]) (fun j53 g=>m) (.r []) ?_ ?_⟩<;>clear h
 rintro j53 _ n56 hnn56 _ _ h
 refine AB (.c (.r []) .z) ?_
 replace h:=AC h
 rcases h with h|h
 simp(disch:=omega) only[vm,seval,h.1]
 refine⟨hk50 (wr .i64 ((wr .i64 (j25+1))+1)) () _ _ _ _ h.2 slr ?_ ?_ ?_ (by omega)⟩<;>first|(simp(disch:=omega) only[vm,seval,h.1];done)|rfl
 simp(disch:=omega) only[vm,seval,h.1]
 refine⟨hk50 (wr .i64 (j25+1)) () _ _ _ _ h.2 slr ?_ ?_ ?_ (by omega)⟩<;>first|(simp(disch:=omega) only[vm,seval,h.1];done)|rfl
 intro k54 Jk54 hk54 h
 replace h:=AC h
 rcases h with h|h
 replace h:=AA h
 obtain⟨x57,h⟩:=h
 replace h:=AA h
 obtain⟨y58,h⟩:=h
 simp(disch:=omega) only[vm,seval,h.1]
 refine⟨Iw h.1.1 (by first|(simp(disch:=omega) only[vm,seval,h.1];done)|rfl) fun n59 hn59=>?_⟩
 simp(disch:=omega) only[vm,seval,h.1]
 refine⟨hk54 y58 () _ _ _ _ h.2 slr ?_ ?_ ?_ (by omega)⟩<;>first|(simp(disch:=omega) only[vm,seval,h.1];done)|rfl
 simp(disch:=omega) only[vm,seval,h.1]
 refine⟨hk54 false () _ _ _ _ h.2 slr ?_ ?_ ?_ (by omega)⟩<;>first|(simp(disch:=omega) only[vm,seval,h.1];done)|rfl
 simp(disch:=omega) only[vm,seval,h.1]
 refine⟨hk39 j25 () _ _ _ _ h.2 slr ?_ ?_ ?_ (by omega)⟩<;>first|(simp(disch:=omega) only[vm,seval,h.1];done)|rfl
 intro k43 Jk43 hk43 h
 replace h:=AC h
 rcases h with h|h
 replace h:=AA h
 obtain⟨x46,h⟩:=h
 replace h:=AA h
 obtain⟨y47,h⟩:=h
 simp(disch:=omega) only[vm,seval,h.1]
 refine⟨Iw h.1.1 (by first|(simp(disch:=omega) only[vm,seval,h.1];done)|rfl) fun n48 hn48=>?_⟩
 simp(disch:=omega) only[vm,seval,h.1]
 refine⟨hk43 y47 () _ _ _ _ h.2 slr ?_ ?_ ?_ (by omega)⟩<;>first|(simp(disch:=omega) only[vm,seval,h.1];done)|rfl
 simp(disch:=omega) only[vm,seval,h.1]
 refine⟨hk43 false () _ _ _ _ h.2 slr ?_ ?_ ?_ (by omega)⟩<;>first|(simp(disch:=omega) only[vm,seval,h.1];done)|rfl
 intro k26 Jk26 hk26 h
 replace h:=AA h
 obtain⟨y29,h⟩:=h
 simp(disch:=omega) only[vm,seval,h.1]
 refine⟨LA h.1.1 (by first|(simp(disch:=omega) only[vm,seval,h.1];done)|rfl) fun n30 hn30=>?_⟩
 replace h:=AA h
 obtain⟨y31,h⟩:=h
 simp(disch:=omega) only[vm,seval,h.1]
 refine⟨MJ h.1.1 (by first|(simp(disch:=omega) only[vm,seval,h.1];done)|rfl) fun n32 hn32=>?_⟩
 simp(disch:=omega) only[vm,seval,h.1]
 refine⟨Ad (γ:=Unit) h [47,48,49,50,51,52,53,54,55,56,57,58,59] [60] (fun j33 g=>[.bool j33]) (fun j33 g=>m) (.r []) ?_ ?_⟩<;>clear h
 rintro j33 _ n36 hnn36 _ _ h
 refine AB (.c (.r []) .z) ?_
 replace h:=AC h
 rcases h with h|h
 simp(disch:=omega) only[vm,seval,h.1]
 refine⟨hk26 (wr .i64 (j17+(wr .i64 (1+y31)))) () _ _ _ _ h.2 slr ?_ ?_ ?_ (by omega)⟩<;>first|(simp(disch:=omega) only[vm,seval,h.1];done)|rfl
 simp(disch:=omega) only[vm,seval,h.1]
 refine⟨hk26 j17 () _ _ _ _ h.2 slr ?_ ?_ ?_ (by omega)⟩<;>first|(simp(disch:=omega) only[vm,seval,h.1];done)|rfl
 intro k34 Jk34 hk34 h
 replace h:=AC h
 rcases h with h|h
 replace h:=AA h
 obtain⟨x37,h⟩:=h
 replace h:=AC h
 rcases h with h|h
 simp(disch:=omega) only[vm,seval,h.1]
 refine⟨hk34 (decide (y31>0)) () _ _ _ _ h.2 slr ?_ ?_ ?_ (by omega)⟩<;>first|(simp(disch:=omega) only[vm,seval,h.1];done)|rfl
 simp(disch:=omega) only[vm,seval,h.1]
 refine⟨hk34 false () _ _ _ _ h.2 slr ?_ ?_ ?_ (by omega)⟩<;>first|(simp(disch:=omega) only[vm,seval,h.1];done)|rfl
 simp(disch:=omega) only[vm,seval,h.1]
 refine⟨hk34 false () _ _ _ _ h.2 slr ?_ ?_ ?_ (by omega)⟩<;>first|(simp(disch:=omega) only[vm,seval,h.1];done)|rfl
 intro k18 Jk18 hk18 h
 replace h:=AA h
 obtain⟨x21,h⟩:=h
 replace h:=AC h
 rcases h with h|h
 simp(disch:=omega) only[vm,seval,h.1]
 refine⟨hk18 (wr .i64 (j1+1)) () _ _ _ _ h.2 slr ?_ ?_ ?_ (by omega)⟩<;>first|(simp(disch:=omega) only[vm,seval,h.1];done)|rfl
 replace h:=AA h
 obtain⟨x22,h⟩:=h
 replace h:=AA h
 obtain⟨y23,h⟩:=h
 simp(disch:=omega) only[vm,seval,h.1]
 refine⟨MJ h.1.1 (by first|(simp(disch:=omega) only[vm,seval,h.1];done)|rfl) fun n24 hn24=>?_⟩
 simp(disch:=omega) only[vm,seval,h.1]
 refine⟨hk18 (wr .i64 (j1+y23)) () _ _ _ _ h.2 slr ?_ ?_ ?_ (by omega)⟩<;>first|(simp(disch:=omega) only[vm,seval,h.1];done)|rfl
 intro k11 Jk11 hk11 h
 replace h:=AC h
 rcases h with h|h
 simp(disch:=omega) only[vm,seval,h.1]
 refine⟨hk11 true () _ _ _ _ h.2 slr ?_ ?_ ?_ (by omega)⟩<;>first|(simp(disch:=omega) only[vm,seval,h.1];done)|rfl
 replace h:=AA h
 obtain⟨x14,h⟩:=h
 replace h:=AA h
 obtain⟨y15,h⟩:=h
 simp(disch:=omega) only[vm,seval,h.1]
 refine⟨GR h.1.1 (by first|(simp(disch:=omega) only[vm,seval,h.1];done)|rfl) fun n16 hn16=>?_⟩
 simp(disch:=omega) only[vm,seval,h.1]
 refine⟨hk11 (!y15) () _ _ _ _ h.2 slr ?_ ?_ ?_ (by omega)⟩<;>first|(simp(disch:=omega) only[vm,seval,h.1];done)|rfl
 intro k2 Jk2 hk2 h
 simp(disch:=omega) only[vm,seval,h.1]
 refine⟨Ad (γ:=Unit) h [7,8,9,10,11,12,13,14,15] [16] (fun j5 g=>[.bool j5]) (fun j5 g=>m) (.r []) ?_ ?_⟩<;>clear h
 rintro j5 _ n8 hnn8 _ _ h
 refine AB (.c (.r []) .z) ?_
 replace h:=AC h
 rcases h with h|h
 simp(disch:=omega) only[vm,seval,h.1]
 refine⟨hk2 (wr .i64 (0+1)) () _ _ _ _ h.2 slr ?_ ?_ ?_ (by omega)⟩<;>first|(simp(disch:=omega) only[vm,seval,h.1];done)|rfl
 simp(disch:=omega) only[vm,seval,h.1]
 refine⟨hk2 0 () _ _ _ _ h.2 slr ?_ ?_ ?_ (by omega)⟩<;>first|(simp(disch:=omega) only[vm,seval,h.1];done)|rfl
 intro k6 Jk6 hk6 h
 replace h:=AC h
 rcases h with h|h
 replace h:=AA h
 obtain⟨x9,h⟩:=h
 simp(disch:=omega) only[vm,seval,h.1]
 refine⟨hk6 ((Am x9)==45) () _ _ _ _ h.2 slr ?_ ?_ ?_ (by omega)⟩<;>first|(simp(disch:=omega) only[vm,seval,h.1];done)|rfl
 simp(disch:=omega) only[vm,seval,h.1]
 refine⟨hk6 false () _ _ _ _ h.2 slr ?_ ?_ ?_ (by omega)⟩<;>first|(simp(disch:=omega) only[vm,seval,h.1];done)|rfl
theorem Si {a0 a1 a2 r} (h:J8 N a0 a1 a2=some r) (ha:args=[.str a0,.int .u64 a1,.int .u64 a2]) (hQ: ∀n',n≤n'→Gl (Q (.tuple [.int .u64 r.1,.int .i64 r.2]) ⟨m,n'⟩)):ACall vE 129 args ⟨m,n⟩ Q:=by
 rw[J8]at h
 subst ha
 refine ent hQ Tryz.func129 rfl Tryz.ntmps129 Tryz.results129 (.q (.r []) (.q (.q (.r []) (.c (.q (.r []) .z) .z)) .z)) fun R hR=>?_
 replace h:=And.intro trivial h
 replace h:=AC h
 rcases h with h|h
 obtain⟨H,h⟩:=h
 cases h
 simp(disch:=omega) only[vm,seval,H]
 refine⟨(hR _ _ _ _ _ _ (by simp(disch:=omega) only[vm,seval,H];rfl) slr ?_ (by omega) ?_).1⟩<;>first|(simp(disch:=omega) only[vm,seval,H];done)|rfl
 simp(disch:=omega) only[vm,seval,h.1]
 refine⟨Ad (γ:=Unit) h [6,7,8,14,15,16,17,18,19,20,21,22,23,24,25,26,27,28,29,30,31,32,33,34,35,36,37,38,39] [] (fun j1 g=>[]) (fun j1 g=>m) (.q (.r []) .z) ?_ ?_⟩<;>clear h
 rintro j1 _ n4 hnn4 _ _ h
 refine AB (.q (.r []) .z) ?_
 simp(disch:=omega) only[vm,seval,h.1]
 refine⟨Ad (γ:=Unit) h [6,7,10,11,40,41,42,43,44,45,46,47,48,49,50,51,52,53,54,55,56,57,58,59,60,61,62,63,64,65,66,67,68,69,70,71,72,73,74,75,76,77,78,79,80,81,82,83,84,85] [9] (fun j16 g=>[.int .u64 j16]) (fun j16 g=>m) (.q (.r []) .z) ?_ ?_⟩<;>clear h
 rintro j16 _ n19 hnn19 _ _ h
 refine AB (.q (.r []) .z) ?_
 obtain⟨H,h⟩:=h
 cases h
 simp(disch:=omega) only[vm,seval,H]
 refine⟨(hR _ _ _ _ _ _ (by simp(disch:=omega) only[vm,seval,H];rfl) slr ?_ (by omega) ?_).1⟩<;>first|(simp(disch:=omega) only[vm,seval,H];done)|rfl
 intro k17 Jk17 hk17 h
 replace h:=Ag h
 obtain⟨hfk20,h⟩:=h
 simp(disch:=omega) only[vm,seval,h.1]
 refine⟨Hl (σ:=Int) (γ:=Unit) a0 hfk20 (fun xs i s=>Cn N a1 a2 k17 xs s) (fun i s g=>[.int .u64 s,.int .i64 i]) (fun i s g=>m) [6,7,11,40,41,42,43,44,45,46,47,48,49,50,51,52,53,54,55,56,57,58,59,60,61,62,63,64,65,66,67,68,69,70,71,72,73,74,75,76,77,78,79,80,81,82,83,84,85] [9,10] 0 () h (by first|(simp(disch:=omega) only[vm,seval,h.1];done)|rfl) (by first|(simp(disch:=omega) only[vm,seval,h.1];done)|rfl) ?_ ?_⟩<;>clear h
 rintro s10 s9 _ nL1_1 hnL1_1 _ h
 change _∧Cn N a1 a2 k17 [] s9=_ at h
 rw[Cn]at h
 refine AB (.q (.q (.r []) (.c .z .z)) (.q (.q (.r []) .z) (.r []))) ?_
 simp(disch:=omega) only[vm,seval,h.1]
 refine⟨hk17 s9 () _ _ _ _ h.2 slr ?_ ?_ ?_ (by omega)⟩<;>first|(simp(disch:=omega) only[vm,seval,h.1];done)|rfl
 rintro xk20 xsk20 s10 s9 _ nL1_1 hnL1_1 _ h Jk20 hk20
 change _∧Cn N a1 a2 k17 (xk20::xsk20) s9=_ at h
 rw[Cn]at h
 refine AB (.q (.q (.r []) (.c .z .z)) (.q (.q (.r []) .z) (.r []))) ?_
 simp(disch:=omega) only[vm,seval,h.1]
 refine⟨Ad (γ:=Unit) h [51,52,53,54,55,56,57,58,59,60,61] [11] (fun j21 g=>[.int .u64 j21]) (fun j21 g=>m) (.q (.r []) (.c (.r []) .z)) ?_ ?_⟩<;>clear h
 rintro j21 _ n24 hnn24 _ _ h
 refine AB (.q .z (.r [])) ?_
 simp(disch:=omega) only[vm,seval,h.1]
 refine⟨Ad (γ:=Unit) h [62,63,64,65,66,67,68,69,70,71,72,73,74,75,76,77,78,79] [80] (fun j25 g=>[.bool j25]) (fun j25 g=>m) (.r []) ?_ ?_⟩<;>clear h
 rintro j25 _ n28 hnn28 _ _ h
 refine AB (.c (.q (.r []) .z) .z) ?_
 replace h:=AC h
 rcases h with h|h
 obtain⟨H,h⟩:=h
 cases h
 simp(disch:=omega) only[vm,seval,H]
 refine⟨(hR _ _ _ _ _ _ (by simp(disch:=omega) only[vm,seval,H];rfl) slr ?_ (by omega) ?_).1⟩<;>first|(simp(disch:=omega) only[vm,seval,H];done)|rfl
 simp(disch:=omega) only[vm,seval,h.1]
 refine⟨hk20 (wr .u64 ((wr .u64 (s9 * a1))+j21)) () _ _ _ _ h.2 slr ?_ ?_ ?_ (by omega)⟩<;>first|(simp(disch:=omega) only[vm,seval,h.1];done)|rfl
 intro k26 Jk26 hk26 h
 replace h:=Ag h
 obtain⟨c,h⟩:=h
 try simp only[liE,seval]at c
 replace h:=Aa c h
 replace h:=AC h
 rcases h with h|h
 simp(disch:=omega) only[vm,seval,h.1]
 refine⟨hk26 true () _ _ _ _ h.2 slr ?_ ?_ ?_ (by omega)⟩<;>first|(simp(disch:=omega) only[vm,seval,h.1];done)|rfl
 replace h:=AC h
 rcases h with h|h
 simp(disch:=omega) only[vm,seval,h.1]
 refine⟨hk26 true () _ _ _ _ h.2 slr ?_ ?_ ?_ (by omega)⟩<;>first|(simp(disch:=omega) only[vm,seval,h.1];done)|rfl
 simp(disch:=omega) only[vm,seval,h.1]
 refine⟨hk26 (decide (j21>a2)) () _ _ _ _ h.2 slr ?_ ?_ ?_ (by omega)⟩<;>first|(simp(disch:=omega) only[vm,seval,h.1];done)|rfl
 intro k22 Jk22 hk22 h
 replace h:=AC h
 rcases h with h|h
 simp(disch:=omega) only[vm,seval,h.1]
 refine⟨hk22 (wr .u64 ((wr .u64 ((wr .u64 (Iy .u8 (Am xk20) 32))-97))+10)) () _ _ _ _ h.2 slr ?_ ?_ ?_ (by omega)⟩<;>first|(simp(disch:=omega) only[vm,seval,h.1];done)|rfl
 simp(disch:=omega) only[vm,seval,h.1]
 refine⟨hk22 (wr .u64 (wr .u8 ((Am xk20)-48))) () _ _ _ _ h.2 slr ?_ ?_ ?_ (by omega)⟩<;>first|(simp(disch:=omega) only[vm,seval,h.1];done)|rfl
 intro k2 Jk2 hk2 h
 replace h:=Ag h
 obtain⟨hfk5,h⟩:=h
 simp(disch:=omega) only[vm,seval,h.1]
 refine⟨Hl (σ:=Unit) (γ:=Unit) a0 hfk5 (fun xs i s=>Dr N a1 k2 xs) (fun i s g=>[.int .i64 i]) (fun i s g=>m) [6,7,14,15,16,17,18,19,20,21,22,23,24,25,26,27,28,29,30,31,32,33,34,35,36,37,38,39] [8] () () h (by first|(simp(disch:=omega) only[vm,seval,h.1];done)|rfl) (by first|(simp(disch:=omega) only[vm,seval,h.1];done)|rfl) ?_ ?_⟩<;>clear h
 rintro s8 _ _ nL0_1 hnL0_1 _ h
 change _∧Dr N a1 k2 []=_ at h
 rw[Dr]at h
 refine AB (.q (.q (.r []) (.c .z .z)) (.q .z (.r []))) ?_
 simp(disch:=omega) only[vm,seval,h.1]
 refine⟨hk2 () () _ _ _ _ h.2 slr ?_ ?_ ?_ (by omega)⟩<;>first|(simp(disch:=omega) only[vm,seval,h.1];done)|rfl
 rintro xk5 xsk5 s8 _ _ nL0_1 hnL0_1 _ h Jk5 hk5
 change _∧Dr N a1 k2 (xk5::xsk5)=_ at h
 rw[Dr]at h
 refine AB (.q (.q (.r []) (.c .z .z)) (.q .z (.r []))) ?_
 simp(disch:=omega) only[vm,seval,h.1]
 refine⟨Ad (γ:=Unit) h [20,21,22,23,24,25,26,27,28,29,30,31,32,33,34,35,36,37,38] [39] (fun j6 g=>[.bool j6]) (fun j6 g=>m) (.r []) ?_ ?_⟩<;>clear h
 rintro j6 _ n9 hnn9 _ _ h
 refine AB (.c (.q (.r []) .z) .z) ?_
 replace h:=AC h
 rcases h with h|h
 obtain⟨H,h⟩:=h
 cases h
 simp(disch:=omega) only[vm,seval,H]
 refine⟨(hR _ _ _ _ _ _ (by simp(disch:=omega) only[vm,seval,H];rfl) slr ?_ (by omega) ?_).1⟩<;>first|(simp(disch:=omega) only[vm,seval,H];done)|rfl
 simp(disch:=omega) only[vm,seval,h.1]
 refine⟨hk5 () () _ _ _ _ h.2 slr ?_ ?_ ?_ (by omega)⟩<;>first|(simp(disch:=omega) only[vm,seval,h.1];done)|rfl
 intro k7 Jk7 hk7 h
 replace h:=AC h
 rcases h with h|h
 replace h:=AA h
 obtain⟨y10,h⟩:=h
 simp(disch:=omega) only[vm,seval,h.1]
 refine⟨GR h.1.1 (by first|(simp(disch:=omega) only[vm,seval,h.1];done)|rfl) fun n11 hn11=>?_⟩
 replace h:=AC h
 rcases h with h|h
 replace h:=AC h
 rcases h with h|h
 replace h:=AA h
 obtain⟨y12,h⟩:=h
 simp(disch:=omega) only[vm,seval,h.1]
 refine⟨M0 h.1.1 (by first|(simp(disch:=omega) only[vm,seval,h.1];done)|rfl) fun n13 hn13=>?_⟩
 simp(disch:=omega) only[vm,seval,h.1]
 refine⟨hk7 (!y12) () _ _ _ _ h.2 slr ?_ ?_ ?_ (by omega)⟩<;>first|(simp(disch:=omega) only[vm,seval,h.1];done)|rfl
 simp(disch:=omega) only[vm,seval,h.1]
 refine⟨hk7 false () _ _ _ _ h.2 slr ?_ ?_ ?_ (by omega)⟩<;>first|(simp(disch:=omega) only[vm,seval,h.1];done)|rfl
 simp(disch:=omega) only[vm,seval,h.1]
 refine⟨hk7 true () _ _ _ _ h.2 slr ?_ ?_ ?_ (by omega)⟩<;>first|(simp(disch:=omega) only[vm,seval,h.1];done)|rfl
 replace h:=AC h
 rcases h with h|h
 replace h:=AA h
 obtain⟨y14,h⟩:=h
 simp(disch:=omega) only[vm,seval,h.1]
 refine⟨M0 h.1.1 (by first|(simp(disch:=omega) only[vm,seval,h.1];done)|rfl) fun n15 hn15=>?_⟩
 simp(disch:=omega) only[vm,seval,h.1]
 refine⟨hk7 (!y14) () _ _ _ _ h.2 slr ?_ ?_ ?_ (by omega)⟩<;>first|(simp(disch:=omega) only[vm,seval,h.1];done)|rfl
 simp(disch:=omega) only[vm,seval,h.1]
 refine⟨hk7 false () _ _ _ _ h.2 slr ?_ ?_ ?_ (by omega)⟩<;>first|(simp(disch:=omega) only[vm,seval,h.1];done)|rfl
theorem Q4 {a0 a1 r} (h:Ic N a0 a1=some r) (ha:args=[.str a0,.int .i64 a1]) (hQ: ∀n',n≤n'→Gl (Q (.tuple [.int .i64 r.1,.int .i64 r.2.1,.int .i64 r.2.2]) ⟨m,n'⟩)):ACall vE 70 args ⟨m,n⟩ Q:=by
 rw[Ic]at h
 subst ha
 refine ent hQ Tryz.func70 rfl Tryz.ntmps70 Tryz.results70 (.q (.r []) (.q .z .z)) fun R hR=>?_
 replace h:=And.intro trivial h
 simp(disch:=omega) only[vm,seval,h.1]
 refine⟨Ad (γ:=Unit) h [11,12,13,14,15,16,17] [18] (fun j1 g=>[.bool j1]) (fun j1 g=>m) (.r []) ?_ ?_⟩<;>clear h
 rintro j1 _ n4 hnn4 _ _ h
 refine AB (.c (.q (.r []) .z) .z) ?_
 replace h:=AC h
 rcases h with h|h
 obtain⟨H,h⟩:=h
 cases h
 simp(disch:=omega) only[vm,seval,H]
 refine⟨(hR _ _ _ _ _ _ (by simp(disch:=omega) only[vm,seval,H];rfl) slr ?_ (by omega) ?_).1⟩<;>first|(simp(disch:=omega) only[vm,seval,H];done)|rfl
 simp(disch:=omega) only[vm,seval,h.1]
 refine⟨Ad (γ:=Unit) h [4,5,6,7,8,9,10,19,20,21,22,23,24,25,26,27,28,29,30,31,32,33,34,35,36,37,38,39,40,41,42,43,44,45,46,47,48,49,50,51,52,53,54,55,56,57,58] [] (fun j5 g=>[]) (fun j5 g=>m) (.q (.r []) .z) ?_ ?_⟩<;>clear h
 rintro j5 _ n8 hnn8 _ _ h
 refine AB (.q (.r []) .z) ?_
 obtain⟨H,h⟩:=h
 cases h
 simp(disch:=omega) only[vm,seval,H]
 refine⟨(hR _ _ _ _ _ _ (by simp(disch:=omega) only[vm,seval,H];rfl) slr ?_ (by omega) ?_).1⟩<;>first|(simp(disch:=omega) only[vm,seval,H];done)|rfl
 intro k6 Jk6 hk6 h
 simp(disch:=omega) only[vm,seval,h.1]
 refine⟨D7 (σ:=Int) (γ:=Unit) (fun k s=>DW N a0 a1 k6 k s) (fun s g=>[.int .i64 s]) (fun s g=>m) [4,5,6,8,9,10,19,20,21,22,23,24,25,26,27,28,29,30,31,32,33,34,35,36,37,38,39,40,41,42,43,44,45,46,47,48,49,50,51,52,53,54,55,56,57,58] [7] 1 () h (fun _=>rfl) (by first|(simp(disch:=omega) only[vm,seval,h.1];done)|rfl) (by first|(simp(disch:=omega) only[vm,seval,h.1];done)|rfl) ?_⟩
 clear h
 rintro k9 s7 _ nL0_1 hnL0_1 _ h Jk9 hk9
 change _∧DW N a0 a1 k6 (k9+1) s7=_ at h
 rw[DW]at h
 refine AB (.q .z (.q (.q (.r []) (.q (.r []) .z)) (.r []))) ?_
 simp(disch:=omega) only[vm,seval,h.1]
 refine⟨Ad (γ:=Unit) h [19,20,21,22,23,24,25,26,27] [28] (fun j10 g=>[.bool j10]) (fun j10 g=>m) (.r []) ?_ ?_⟩<;>clear h
 rintro j10 _ n13 hnn13 _ _ h
 refine AB (.c .z .z) ?_
 replace h:=AC h
 rcases h with h|h
 replace h:=AA h
 obtain⟨x14,h⟩:=h
 replace h:=AA h
 obtain⟨y15,h⟩:=h
 simp(disch:=omega) only[vm,seval,h.1]
 refine⟨SX h.1.1 (by first|(simp(disch:=omega) only[vm,seval,h.1];done)|rfl) fun n16 hn16=>?_⟩
 replace h:=AA h
 obtain⟨y17,h⟩:=h
 simp(disch:=omega) only[vm,seval,h.1]
 refine⟨Jq h.1.1 (by first|(simp(disch:=omega) only[vm,seval,h.1];done)|rfl) fun n18 hn18=>?_⟩
 simp(disch:=omega) only[vm,seval,h.1]
 refine⟨Ad (γ:=Unit) h [43,44,45,46,47,48,49,50,51,52,53] [54] (fun j19 g=>[.bool j19]) (fun j19 g=>m) (.r []) ?_ ?_⟩<;>clear h
 rintro j19 _ n22 hnn22 _ _ h
 refine AB (.c (.q (.r []) .z) .z) ?_
 replace h:=AC h
 rcases h with h|h
 obtain⟨H,h⟩:=h
 cases h
 simp(disch:=omega) only[vm,seval,H]
 refine⟨(hR _ _ _ _ _ _ (by simp(disch:=omega) only[vm,seval,H];rfl) slr ?_ (by omega) ?_).1⟩<;>first|(simp(disch:=omega) only[vm,seval,H];done)|rfl
 simp(disch:=omega) only[vm,seval,h.1]
 refine⟨hk9 (wr .i64 (s7+1)) () _ _ _ _ h.2 slr ?_ ?_ ?_ (by omega)⟩<;>first|(simp(disch:=omega) only[vm,seval,h.1];done)|rfl
 intro k20 Jk20 hk20 h
 replace h:=AC h
 rcases h with h|h
 simp(disch:=omega) only[vm,seval,h.1]
 refine⟨hk20 (y17.1==x14) () _ _ _ _ h.2 slr ?_ ?_ ?_ (by omega)⟩<;>first|(simp(disch:=omega) only[vm,seval,h.1];done)|rfl
 simp(disch:=omega) only[vm,seval,h.1]
 refine⟨hk20 false () _ _ _ _ h.2 slr ?_ ?_ ?_ (by omega)⟩<;>first|(simp(disch:=omega) only[vm,seval,h.1];done)|rfl
 simp(disch:=omega) only[vm,seval,h.1]
 refine⟨hk6 () () _ _ _ _ h.2 slr ?_ ?_ ?_ (by omega)⟩<;>first|(simp(disch:=omega) only[vm,seval,h.1];done)|rfl
 intro k11 Jk11 hk11 h
 replace h:=AC h
 rcases h with h|h
 simp(disch:=omega) only[vm,seval,h.1]
 refine⟨hk11 (decide ((wr .i64 (a1+s7))≤(a0.length:Int))) () _ _ _ _ h.2 slr ?_ ?_ ?_ (by omega)⟩<;>first|(simp(disch:=omega) only[vm,seval,h.1];done)|rfl
 simp(disch:=omega) only[vm,seval,h.1]
 refine⟨hk11 false () _ _ _ _ h.2 slr ?_ ?_ ?_ (by omega)⟩<;>first|(simp(disch:=omega) only[vm,seval,h.1];done)|rfl
 intro k2 Jk2 hk2 h
 replace h:=AC h
 rcases h with h|h
 simp(disch:=omega) only[vm,seval,h.1]
 refine⟨hk2 true () _ _ _ _ h.2 slr ?_ ?_ ?_ (by omega)⟩<;>first|(simp(disch:=omega) only[vm,seval,h.1];done)|rfl
 simp(disch:=omega) only[vm,seval,h.1]
 refine⟨hk2 (decide (a1≥(a0.length:Int))) () _ _ _ _ h.2 slr ?_ ?_ ?_ (by omega)⟩<;>first|(simp(disch:=omega) only[vm,seval,h.1];done)|rfl
theorem Ee {a0 a1 r}{i0:Nat} (h:Bv N a0 a1=some r) (ha:args=[.ptr i0 0,.str a1]) (hi0:Bi m i0=some ([.str a0.s,.int .i64 a0.at_])) (hQ: ∀n',n≤n'→Gl (Q (.bool r.1) ⟨Br m i0 ([.str r.2.s,.int .i64 r.2.at_]),n'⟩)):ACall vE 88 args ⟨m,n⟩ Q:=by
 rw[Bv]at h
 subst ha
 refine ACall.front hi0 fun hin=>ent (fun n' k=>⟨_,rfl,(hQ n' k).go⟩) Tryz.func88 rfl Tryz.ntmps88 Tryz.results88 (.q (.r []) (.q .z (.q (.r []) .z))) fun R hR=>?_
 replace h:=And.intro trivial h
 simp(disch:=omega) only[vm,seval,h.1]
 refine⟨Ad (γ:=Unit) h [5,6,7,8,9,10,11,12,13,14,15,16,17,18,19,20,21,22,23,24,25,26,27] [28] (fun j1 g=>[.bool j1]) (fun j1 g=>(i0,[.str a0.s,.int .i64 a0.at_])::BP m i0) .z ?_ ?_⟩<;>clear h
 rintro j1 _ n4 hnn4 _ _ h
 refine AB (.c (.q (.r []) (.q (.r []) .z)) .z) ?_
 replace h:=AC h
 rcases h with h|h
 obtain⟨H,h⟩:=h
 cases h
 simp(disch:=omega) only[vm,seval,H]
 refine⟨(hR _ _ _ _ _ _ (by simp(disch:=omega) only[vm,seval,H];rfl) slr ?_ (by omega) ?_).1⟩<;>first|(simp(disch:=omega) only[vm,seval,H];done)|rfl
 obtain⟨H,h⟩:=h
 cases h
 simp(disch:=omega) only[vm,seval,H]
 refine⟨(hR _ _ _ _ _ _ (by simp(disch:=omega) only[vm,seval,H];rfl) slr ?_ (by omega) ?_).1⟩<;>first|(simp(disch:=omega) only[vm,seval,H];done)|rfl
 intro k2 Jk2 hk2 h
 replace h:=AC h
 rcases h with h|h
 replace h:=AA h
 obtain⟨x5,h⟩:=h
 replace h:=AA h
 obtain⟨y6,h⟩:=h
 have cy6:=h.1.1
 simp(disch:=omega) only[vm,seval,h.1]
 refine⟨BB [] (.take 0 (.take 1 (.take 2 (.take 3 (.take 4 (.take 5 (.take 6 (.take 7 (.take 8 (.take 9 (.take 10 (.take 11 (.take 12 (.take 13 (.take 14 (.take 15 (.take 16 (.take 17 (.take 18 (.take 19 (.take 20 (.alt 21 [19,18,17,16,15,14,13,12,9,8,7,6,5,4,3,2,1,0] (.take 22 (.take 23 (.done))) (.stop))))))))))))))))))))))) Av (by kernel_rfl) ?_⟩
 simp(disch:=omega) only[vm,seval,h.1]
 refine⟨Hg cy6 (by first|(simp(disch:=omega) only[vm,seval,h.1];done)|rfl) fun n7 hn7=>?_⟩
 simp(disch:=omega) only[vm,seval,h.1]
 refine⟨hk2 (decide (y6≥0)) () _ _ _ _ h.2 slr ?_ ?_ ?_ (by omega)⟩<;>first|(simp(disch:=omega) only[vm,seval,h.1];done)|rfl
 simp(disch:=omega) only[vm,seval,h.1]
 refine⟨BB [] (.take 0 (.take 1 (.take 2 (.take 3 (.take 4 (.take 5 (.take 6 (.take 7 (.take 8 (.take 9 (.take 10 (.take 11 (.take 12 (.take 13 (.take 14 (.take 15 (.take 16 (.take 17 (.take 18 (.take 19 (.take 20 (.alt 21 [19,18,17,16,15,14,13,12,9,8,7,6,5,4,3,2,1,0] (.take 22 (.take 23 (.done))) (.stop))))))))))))))))))))))) Av (by kernel_rfl) ?_⟩
 simp(disch:=omega) only[vm,seval,h.1]
 refine⟨hk2 false () _ _ _ _ h.2 slr ?_ ?_ ?_ (by omega)⟩<;>first|(simp(disch:=omega) only[vm,seval,h.1];done)|rfl
theorem Ik {a0 a1 r}{i0:Nat} (h:Ck N a0 a1=some r) (ha:args=[.ptr i0 0,.int .i64 a1]) (hi0:Bi m i0=some ([.str a0.s,.int .i64 a0.at_])) (hQ: ∀n',n≤n'→Gl (Q (.tuple []) ⟨Br m i0 ([.str r.s,.int .i64 r.at_]),n'⟩)):ACall vE 91 args ⟨m,n⟩ Q:=by
 rw[Ck]at h
 subst ha
 refine ACall.front hi0 fun hin=>ent (fun n' k=>⟨_,rfl,(hQ n' k).go⟩) Tryz.func91 rfl Tryz.ntmps91 Tryz.results91 (.q (.r []) (.c (.r []) .z)) fun R hR=>?_
 replace h:=And.intro trivial h
 replace h:=AA h
 obtain⟨y1,h⟩:=h
 simp(disch:=omega) only[vm,seval,h.1]
 refine⟨Es h.1.1 (by first|(simp(disch:=omega) only[vm,seval,h.1];done)|rfl) (i0:=i0) (by simp(disch:=omega) only[vm,seval,h.1]) fun n2 hn2=>?_⟩
 replace h:=AC h
 rcases h with h|h
 obtain⟨H,h⟩:=h
 cases h
 simp(disch:=omega) only[vm,seval,H]
 refine⟨(hR _ _ _ _ _ _ (by simp(disch:=omega) only[vm,seval,H];rfl) slr ?_ (by omega) ?_).2⟩<;>first|(simp(disch:=omega) only[vm,seval,H];done)|rfl
 obtain⟨H,h⟩:=h
 cases h
 simp(disch:=omega) only[vm,seval,H]
 refine⟨(hR _ _ _ _ _ _ (by simp(disch:=omega) only[vm,seval,H];rfl) slr ?_ (by omega) ?_).2⟩<;>first|(simp(disch:=omega) only[vm,seval,H];done)|rfl
theorem Jj {a0 a1 r} (h:ER N a0 a1=some r) (ha:args=[.str a0,.str a1]) (hQ: ∀n',n≤n'→Gl (Q (.tuple [.str r.1,.str r.2.1,.bool r.2.2]) ⟨m,n'⟩)):ACall vE 92 args ⟨m,n⟩ Q:=by
 rw[ER]at h
 subst ha
 refine ent hQ Tryz.func92 rfl Tryz.ntmps92 Tryz.results92 (.q (.r []) (.q (.q (.r []) (.q (.r []) (.c (.q .z .z) .z))) (.q (.r []) .z))) fun R hR=>?_
 replace h:=And.intro trivial h
 replace h:=AA h
 obtain⟨y1,h⟩:=h
 simp(disch:=omega) only[vm,seval,h.1]
 refine⟨JQ h.1.1 (by first|(simp(disch:=omega) only[vm,seval,h.1];done)|rfl) fun n2 hn2=>?_⟩
 replace h:=AC h
 rcases h with h|h
 replace h:=AA h
 obtain⟨x3,h⟩:=h
 replace h:=AA h
 obtain⟨x4,h⟩:=h
 simp(disch:=omega) only[vm,seval,h.1]
 refine⟨BB [] (.take 0 (.take 1 (.take 2 (.take 3 (.take 4 (.take 5 (.take 6 (.take 7 (.take 8 (.alt 9 [8,7,6,5,4,3] (.alt 10 [] (.alt 11 [] (.done) (.stop)) (.stop)) (.stop))))))))))) Av (by kernel_rfl) ?_⟩
 obtain⟨H,h⟩:=h
 cases h
 simp(disch:=omega) only[vm,seval,H]
 refine⟨(hR _ _ _ _ _ _ (by simp(disch:=omega) only[vm,seval,H];rfl) slr ?_ (by omega) ?_).1⟩<;>first|(simp(disch:=omega) only[vm,seval,H];done)|rfl
 obtain⟨H,h⟩:=h
 cases h
 simp(disch:=omega) only[vm,seval,H]
 refine⟨(hR _ _ _ _ _ _ (by simp(disch:=omega) only[vm,seval,H];rfl) slr ?_ (by omega) ?_).1⟩<;>first|(simp(disch:=omega) only[vm,seval,H];done)|rfl
theorem Mj {a0 a1 r} (h:IV N a0 a1=some r) (ha:args=[.str a0,.int .i32 a1]) (hQ: ∀n',n≤n'→Gl (Q (.int .i64 r) ⟨m,n'⟩)):ACall vE 134 args ⟨m,n⟩ Q:=by
 rw[IV]at h
 subst ha
 refine ent hQ Tryz.func134 rfl Tryz.ntmps134 Tryz.results134 (.q (.r []) .z) fun R hR=>?_
 replace h:=And.intro trivial h
 simp(disch:=omega) only[vm,seval,h.1]
 refine⟨Ad (γ:=Unit) h [161,162,163,164,165,166] [160] (fun j1 g=>[.bool j1]) (fun j1 g=>m) (.r []) ?_ ?_⟩<;>clear h
 rintro j1 _ n4 hnn4 _ _ h
 refine AB (.c (.q (.r []) .z) (.q (.r []) (.c .z (.q (.r []) (.c (.q (.r []) .z) .z))))) ?_
 replace h:=AC h
 rcases h with h|h
 replace h:=AA h
 obtain⟨y5,h⟩:=h
 simp(disch:=omega) only[vm,seval,h.1]
 refine⟨Hg h.1.1 (by first|(simp(disch:=omega) only[vm,seval,h.1];done)|rfl) fun n6 hn6=>?_⟩
 obtain⟨H,h⟩:=h
 cases h
 simp(disch:=omega) only[vm,seval,H]
 refine⟨(hR _ _ _ _ _ _ (by simp(disch:=omega) only[vm,seval,H];rfl) slr ?_ (by omega) ?_).1⟩<;>first|(simp(disch:=omega) only[vm,seval,H];done)|rfl
 replace h:=AC h
 rcases h with h|h
 simp(disch:=omega) only[vm,seval,h.1]
 refine⟨Ad (γ:=Unit) h [4,5,6,174,175,176,177,178,179,180,181,182] [] (fun j7 g=>[]) (fun j7 g=>m) (.q (.r []) .z) ?_ ?_⟩<;>clear h
 rintro j7 _ n10 hnn10 _ _ h
 refine AB (.q (.r []) .z) ?_
 obtain⟨H,h⟩:=h
 cases h
 simp(disch:=omega) only[vm,seval,H]
 refine⟨(hR _ _ _ _ _ _ (by simp(disch:=omega) only[vm,seval,H];rfl) slr ?_ (by omega) ?_).1⟩<;>first|(simp(disch:=omega) only[vm,seval,H];done)|rfl
 intro k8 Jk8 hk8 h
 simp(disch:=omega) only[vm,seval,h.1]
 refine⟨D7 (σ:=Nat) (γ:=Unit) (fun k s=>ET N a0 k8 k s) (fun s g=>[.iter a0 s]) (fun s g=>m) [4,5,6,176,177,178,179,180,181,182] [175] 0 () h (fun _=>rfl) (by first|(simp(disch:=omega) only[vm,seval,h.1];done)|rfl) (by first|(simp(disch:=omega) only[vm,seval,h.1];done)|rfl) ?_⟩
 clear h
 rintro k11 s175 _ nL0_1 hnL0_1 _ h Jk11 hk11
 change _∧ET N a0 k8 (k11+1) s175=_ at h
 rw[ET]at h
 refine AB (.q (.r []) (.q (.c .z .z) (.q (.r []) (.q (.r []) (.c (.q (.r []) .z) .z))))) ?_
 replace h:=AC h
 rcases h with h|h
 replace h:=AC h
 rcases h with h|h
 obtain⟨H,h⟩:=h
 cases h
 simp(disch:=omega) only[vm,seval,H]
 refine⟨(hR _ _ _ _ _ _ (by simp(disch:=omega) only[vm,seval,H];rfl) slr ?_ (by omega) ?_).1⟩<;>first|(simp(disch:=omega) only[vm,seval,H];done)|rfl
 simp(disch:=omega) only[vm,seval,h.1]
 refine⟨hk11 (s175+(EE a0 s175).2) () _ _ _ _ h.2 slr ?_ ?_ ?_ (by omega)⟩<;>first|(simp(disch:=omega) only[vm,seval,h.1];done)|rfl
 simp(disch:=omega) only[vm,seval,h.1]
 refine⟨hk8 () () _ _ _ _ h.2 slr ?_ ?_ ?_ (by omega)⟩<;>first|(simp(disch:=omega) only[vm,seval,h.1];done)|rfl
 replace h:=AA h
 obtain⟨y12,h⟩:=h
 simp(disch:=omega) only[vm,seval,h.1]
 refine⟨KI h.1.1 (by first|(simp(disch:=omega) only[vm,seval,h.1];done)|rfl) fun n13 hn13=>?_⟩
 replace h:=AC h
 rcases h with h|h
 cases h.2
 obtain⟨H,h⟩:=h
 cases h
 simp(disch:=omega) only[vm,seval,H]
 refine⟨(hR _ _ _ _ _ _ (by simp(disch:=omega) only[vm,seval,H];rfl) slr ?_ (by omega) ?_).1⟩<;>first|(simp(disch:=omega) only[vm,seval,H];done)|rfl
 intro k2 Jk2 hk2 h
 replace h:=AC h
 rcases h with h|h
 simp(disch:=omega) only[vm,seval,h.1]
 refine⟨hk2 (decide (a1<128)) () _ _ _ _ h.2 slr ?_ ?_ ?_ (by omega)⟩<;>first|(simp(disch:=omega) only[vm,seval,h.1];done)|rfl
 simp(disch:=omega) only[vm,seval,h.1]
 refine⟨hk2 false () _ _ _ _ h.2 slr ?_ ?_ ?_ (by omega)⟩<;>first|(simp(disch:=omega) only[vm,seval,h.1];done)|rfl
theorem HV {a0 r} (h:Dm N a0=some r) (ha:args=[.str a0]) (hQ: ∀n',n≤n'→Gl (Q (.tuple [.int .i32 r.1,.int .i64 r.2]) ⟨m,n'⟩)):ACall vE 120 args ⟨m,n⟩ Q:=by
 rw[Dm]at h
 subst ha
 refine ent hQ Tryz.func120 rfl Tryz.ntmps120 Tryz.results120 (.q (.r []) (.q (.r []) (.q (.q (.r []) (.c (.q (.r []) .z) .z)) (.q (.r []) (.q (.r []) (.q (.q (.r []) (.c (.q (.r []) .z) .z)) (.q (.r []) .z))))))) fun R hR=>?_
 replace h:=And.intro trivial h
 replace h:=AC h
 rcases h with h|h
 obtain⟨H,h⟩:=h
 cases h
 simp(disch:=omega) only[vm,seval,H]
 refine⟨(hR _ _ _ _ _ _ (by simp(disch:=omega) only[vm,seval,H];rfl) slr ?_ (by omega) ?_).1⟩<;>first|(simp(disch:=omega) only[vm,seval,H];done)|rfl
 replace h:=AA h
 obtain⟨x1,h⟩:=h
 replace h:=AC h
 rcases h with h|h
 obtain⟨H,h⟩:=h
 cases h
 simp(disch:=omega) only[vm,seval,H]
 refine⟨(hR _ _ _ _ _ _ (by simp(disch:=omega) only[vm,seval,H];rfl) slr ?_ (by omega) ?_).1⟩<;>first|(simp(disch:=omega) only[vm,seval,H];done)|rfl
 simp(disch:=omega) only[vm,seval,h.1]
 refine⟨Ad (γ:=Unit) h [23,24,25,26,27,28,29,30,31,32,33] [5] (fun j2 g=>[.int .i64 j2]) (fun j2 g=>m) (.q (.r []) .z) ?_ ?_⟩<;>clear h
 rintro j2 _ n5 hnn5 _ _ h
 refine AB .z ?_
 simp(disch:=omega) only[vm,seval,h.1]
 refine⟨Ad (γ:=Unit) h [34,35] [5] (fun j10 g=>[.int .i64 j10]) (fun j10 g=>m) (.q (.r []) (.c (.r []) .z)) ?_ ?_⟩<;>clear h
 rintro j10 _ n13 hnn13 _ _ h
 refine AB (.q (.r []) (.q (.q (.r []) (.c (.q (.r []) .z) .z)) (.q (.r []) .z))) ?_
 replace h:=AA h
 obtain⟨x14,h⟩:=h
 replace h:=AA h
 obtain⟨y15,h⟩:=h
 simp(disch:=omega) only[vm,seval,h.1]
 refine⟨FI h.1.1 (by first|(simp(disch:=omega) only[vm,seval,h.1];done)|rfl) fun n16 hn16=>?_⟩
 replace h:=AC h
 rcases h with h|h
 obtain⟨H,h⟩:=h
 cases h
 simp(disch:=omega) only[vm,seval,H]
 refine⟨(hR _ _ _ _ _ _ (by simp(disch:=omega) only[vm,seval,H];rfl) slr ?_ (by omega) ?_).1⟩<;>first|(simp(disch:=omega) only[vm,seval,H];done)|rfl
 obtain⟨H,h⟩:=h
 cases h
 simp(disch:=omega) only[vm,seval,H]
 refine⟨(hR _ _ _ _ _ _ (by simp(disch:=omega) only[vm,seval,H];rfl) slr ?_ (by omega) ?_).1⟩<;>first|(simp(disch:=omega) only[vm,seval,H];done)|rfl
 intro k11 Jk11 hk11 h
 replace h:=AC h
 rcases h with h|h
 simp(disch:=omega) only[vm,seval,h.1]
 refine⟨hk11 0 () _ _ _ _ h.2 slr ?_ ?_ ?_ (by omega)⟩<;>first|(simp(disch:=omega) only[vm,seval,h.1];done)|rfl
 simp(disch:=omega) only[vm,seval,h.1]
 refine⟨hk11 j2 () _ _ _ _ h.2 slr ?_ ?_ ?_ (by omega)⟩<;>first|(simp(disch:=omega) only[vm,seval,h.1];done)|rfl
 intro k3 Jk3 hk3 h
 simp(disch:=omega) only[vm,seval,h.1]
 refine⟨D7 (σ:=Int) (γ:=Unit) (fun k s=>CE N a0 k3 k s) (fun s g=>[.int .i64 s]) (fun s g=>m) [25,26,27,28,29,30,31,32,33] [5] (wr .i64 ((wr .i64 ((a0.length:Int)-1))-1)) () h (fun _=>rfl) (by first|(simp(disch:=omega) only[vm,seval,h.1];done)|rfl) (by first|(simp(disch:=omega) only[vm,seval,h.1];done)|rfl) ?_⟩
 clear h
 rintro k6 s5 _ nL0_1 hnL0_1 _ h Jk6 hk6
 change _∧CE N a0 k3 (k6+1) s5=_ at h
 rw[CE]at h
 refine AB (.q (.q (.r []) (.c .z .z)) (.q (.q (.r []) (.c .z .z)) (.r []))) ?_
 replace h:=AC h
 rcases h with h|h
 replace h:=AA h
 obtain⟨x7,h⟩:=h
 replace h:=AA h
 obtain⟨y8,h⟩:=h
 simp(disch:=omega) only[vm,seval,h.1]
 refine⟨KG h.1.1 (by first|(simp(disch:=omega) only[vm,seval,h.1];done)|rfl) fun n9 hn9=>?_⟩
 replace h:=AC h
 rcases h with h|h
 simp(disch:=omega) only[vm,seval,h.1]
 refine⟨hk3 s5 () _ _ _ _ h.2 slr ?_ ?_ ?_ (by omega)⟩<;>first|(simp(disch:=omega) only[vm,seval,h.1];done)|rfl
 simp(disch:=omega) only[vm,seval,h.1]
 refine⟨hk6 (wr .i64 (s5-1)) () _ _ _ _ h.2 slr ?_ ?_ ?_ (by omega)⟩<;>first|(simp(disch:=omega) only[vm,seval,h.1];done)|rfl
 simp(disch:=omega) only[vm,seval,h.1]
 refine⟨hk3 s5 () _ _ _ _ h.2 slr ?_ ?_ ?_ (by omega)⟩<;>first|(simp(disch:=omega) only[vm,seval,h.1];done)|rfl
theorem JG {a0 a1 a2 r} (h:Dz N a0 a1 a2=some r) (ha:args=[.str a0,.int .u64 a1,.int .u64 a2,.fn (.func 90) [] []]) (hQ: ∀n',n≤n'→Gl (Q (.tuple [.int .u64 r.1,.int .i64 r.2]) ⟨m,n'⟩)):ACall vE 121 args ⟨m,n⟩ Q:=by
 rw[Dz]at h
 subst ha
 refine ent hQ Tryz.func121 rfl Tryz.ntmps121 Tryz.results121 (.q (.r []) (.q (.q (.r []) (.c (.q (.r []) .z) .z)) .z)) fun R hR=>?_
 replace h:=And.intro trivial h
 replace h:=AC h
 rcases h with h|h
 obtain⟨H,h⟩:=h
 cases h
 simp(disch:=omega) only[vm,seval,H]
 refine⟨(hR _ _ _ _ _ _ (by simp(disch:=omega) only[vm,seval,H];rfl) slr ?_ (by omega) ?_).1⟩<;>first|(simp(disch:=omega) only[vm,seval,H];done)|rfl
 simp(disch:=omega) only[vm,seval,h.1]
 refine⟨Ad (γ:=Unit) h [8,9,10,16,17,18,19,20,21,22,23,24,25,26,27] [] (fun j1 g=>[]) (fun j1 g=>m) (.q (.r []) .z) ?_ ?_⟩<;>clear h
 rintro j1 _ n4 hnn4 _ _ h
 refine AB (.q (.r []) .z) ?_
 simp(disch:=omega) only[vm,seval,h.1]
 refine⟨Ad (γ:=Unit) h [8,9,12,13,28,29,30,31,32,33,34,35,36,37,38,39,40,41,42,43,44,45,46,47,48,49,50,51,52,53,54,55,56,57] [11] (fun j8 g=>[.int .u64 j8]) (fun j8 g=>m) (.q (.r []) .z) ?_ ?_⟩<;>clear h
 rintro j8 _ n11 hnn11 _ _ h
 refine AB (.q (.r []) .z) ?_
 obtain⟨H,h⟩:=h
 cases h
 simp(disch:=omega) only[vm,seval,H]
 refine⟨(hR _ _ _ _ _ _ (by simp(disch:=omega) only[vm,seval,H];rfl) slr ?_ (by omega) ?_).1⟩<;>first|(simp(disch:=omega) only[vm,seval,H];done)|rfl
 intro k9 Jk9 hk9 h
 replace h:=Ag h
 obtain⟨hfk12,h⟩:=h
 simp(disch:=omega) only[vm,seval,h.1]
 refine⟨Hl (σ:=Int) (γ:=Unit) a0 hfk12 (fun xs i s=>BL N a1 a2 k9 xs s) (fun i s g=>[.int .u64 s,.int .i64 i]) (fun i s g=>m) [8,9,12,13,31,32,33,34,35,36,37,38,39,40,41,42,43,44,45,46,47,48,49,50,51,52,53,54,55,56,57] [11,30] 0 () h (by first|(simp(disch:=omega) only[vm,seval,h.1];done)|rfl) (by first|(simp(disch:=omega) only[vm,seval,h.1];done)|rfl) ?_ ?_⟩<;>clear h
 rintro s30 s11 _ nL1_1 hnL1_1 _ h
 change _∧BL N a1 a2 k9 [] s11=_ at h
 rw[BL]at h
 refine AB (.q (.r []) (.q (.c .z .z) (.q (.q (.r []) (.q (.r []) (.q .z (.r [])))) (.r [])))) ?_
 simp(disch:=omega) only[vm,seval,h.1]
 refine⟨hk9 s11 () _ _ _ _ h.2 slr ?_ ?_ ?_ (by omega)⟩<;>first|(simp(disch:=omega) only[vm,seval,h.1];done)|rfl
 rintro xk12 xsk12 s30 s11 _ nL1_1 hnL1_1 _ h Jk12 hk12
 change _∧BL N a1 a2 k9 (xk12::xsk12) s11=_ at h
 rw[BL]at h
 refine AB (.q (.r []) (.q (.c .z .z) (.q (.q (.r []) (.q (.r []) (.q .z (.r [])))) (.r [])))) ?_
 replace h:=AA h
 obtain⟨y13,h⟩:=h
 simp(disch:=omega) only[vm,seval,h.1]
 refine⟨QN h.1.1 (by first|(simp(disch:=omega) only[vm,seval,h.1];done)|rfl) fun n14 hn14=>?_⟩
 simp(disch:=omega) only[vm,seval,h.1]
 refine⟨Ad (γ:=Unit) h [37,38,39,40,41,42,43,44,45,46,47,48,49,50] [51] (fun j15 g=>[.bool j15]) (fun j15 g=>m) (.r []) ?_ ?_⟩<;>clear h
 rintro j15 _ n18 hnn18 _ _ h
 refine AB (.c (.q (.r []) .z) .z) ?_
 replace h:=AC h
 rcases h with h|h
 obtain⟨H,h⟩:=h
 cases h
 simp(disch:=omega) only[vm,seval,H]
 refine⟨(hR _ _ _ _ _ _ (by simp(disch:=omega) only[vm,seval,H];rfl) slr ?_ (by omega) ?_).1⟩<;>first|(simp(disch:=omega) only[vm,seval,H];done)|rfl
 simp(disch:=omega) only[vm,seval,h.1]
 refine⟨hk12 (wr .u64 ((wr .u64 (s11 * a1))+y13)) () _ _ _ _ h.2 slr ?_ ?_ ?_ (by omega)⟩<;>first|(simp(disch:=omega) only[vm,seval,h.1];done)|rfl
 intro k16 Jk16 hk16 h
 replace h:=Ag h
 obtain⟨c,h⟩:=h
 try simp only[liE,seval]at c
 replace h:=Aa c h
 replace h:=AC h
 rcases h with h|h
 simp(disch:=omega) only[vm,seval,h.1]
 refine⟨hk16 true () _ _ _ _ h.2 slr ?_ ?_ ?_ (by omega)⟩<;>first|(simp(disch:=omega) only[vm,seval,h.1];done)|rfl
 simp(disch:=omega) only[vm,seval,h.1]
 refine⟨hk16 (decide ((wr .u64 ((wr .u64 (s11 * a1))+y13))>a2)) () _ _ _ _ h.2 slr ?_ ?_ ?_ (by omega)⟩<;>first|(simp(disch:=omega) only[vm,seval,h.1];done)|rfl
 intro k2 Jk2 hk2 h
 replace h:=Ag h
 obtain⟨hfk5,h⟩:=h
 simp(disch:=omega) only[vm,seval,h.1]
 refine⟨Hl (σ:=Unit) (γ:=Unit) a0 hfk5 (fun xs i s=>BK N k2 xs) (fun i s g=>[.int .i64 i]) (fun i s g=>m) [8,9,10,19,20,21,22,23,24,25,26,27] [18] () () h (by first|(simp(disch:=omega) only[vm,seval,h.1];done)|rfl) (by first|(simp(disch:=omega) only[vm,seval,h.1];done)|rfl) ?_ ?_⟩<;>clear h
 rintro s18 _ _ nL0_1 hnL0_1 _ h
 change _∧BK N k2 []=_ at h
 rw[BK]at h
 refine AB (.q (.r []) (.q (.c .z .z) (.q (.q (.r []) (.q (.r []) (.c (.q (.r []) .z) .z))) (.r [])))) ?_
 simp(disch:=omega) only[vm,seval,h.1]
 refine⟨hk2 () () _ _ _ _ h.2 slr ?_ ?_ ?_ (by omega)⟩<;>first|(simp(disch:=omega) only[vm,seval,h.1];done)|rfl
 rintro xk5 xsk5 s18 _ _ nL0_1 hnL0_1 _ h Jk5 hk5
 change _∧BK N k2 (xk5::xsk5)=_ at h
 rw[BK]at h
 refine AB (.q (.r []) (.q (.c .z .z) (.q (.q (.r []) (.q (.r []) (.c (.q (.r []) .z) .z))) (.r [])))) ?_
 replace h:=AA h
 obtain⟨y6,h⟩:=h
 simp(disch:=omega) only[vm,seval,h.1]
 refine⟨JN h.1.1 (by first|(simp(disch:=omega) only[vm,seval,h.1];done)|rfl) fun n7 hn7=>?_⟩
 replace h:=AC h
 rcases h with h|h
 simp(disch:=omega) only[vm,seval,h.1]
 refine⟨hk5 () () _ _ _ _ h.2 slr ?_ ?_ ?_ (by omega)⟩<;>first|(simp(disch:=omega) only[vm,seval,h.1];done)|rfl
 obtain⟨H,h⟩:=h
 cases h
 simp(disch:=omega) only[vm,seval,H]
 refine⟨(hR _ _ _ _ _ _ (by simp(disch:=omega) only[vm,seval,H];rfl) slr ?_ (by omega) ?_).1⟩<;>first|(simp(disch:=omega) only[vm,seval,H];done)|rfl
theorem O0 {a0 r} (h:Ia N a0=some r) (ha:args=[.str a0]) (hQ: ∀n',n≤n'→Gl (Q (.int .i64 r) ⟨m,n'⟩)):ACall vE 80 args ⟨m,n⟩ Q:=by
 rw[Ia]at h
 subst ha
 refine ent hQ Tryz.func80 rfl Tryz.ntmps80 Tryz.results80 (.q (.r []) (.q (.r []) .z)) fun R hR=>?_
 replace h:=And.intro trivial h
 simp(disch:=omega) only[vm,seval,h.1]
 refine⟨Ad (γ:=Unit) h [2,4,5,6,7,8,9,10,11,12,13,14,15,16,17,18,19,20,21,22,23] [3] (fun j1 g=>[.int .i64 j1]) (fun j1 g=>m) (.q (.r []) .z) ?_ ?_⟩<;>clear h
 rintro j1 _ n4 hnn4 _ _ h
 refine AB (.q (.r []) .z) ?_
 obtain⟨H,h⟩:=h
 cases h
 simp(disch:=omega) only[vm,seval,H]
 refine⟨(hR _ _ _ _ _ _ (by simp(disch:=omega) only[vm,seval,H];rfl) slr ?_ (by omega) ?_).1⟩<;>first|(simp(disch:=omega) only[vm,seval,H];done)|rfl
 intro k2 Jk2 hk2 h
 simp(disch:=omega) only[vm,seval,h.1]
 refine⟨D7 (σ:=Int×Int) (γ:=Unit) (fun k s=>Dh N a0 k2 k s.1 s.2) (fun s g=>[.int .i64 s.1,.int .i64 s.2]) (fun s g=>m) [2,5,6,7,8,9,10,11,12,13,14,15,16,17,18,19,20,21,22,23] [3,4] (0,0) () h (fun _=>rfl) (by first|(simp(disch:=omega) only[vm,seval,h.1];done)|rfl) (by first|(simp(disch:=omega) only[vm,seval,h.1];done)|rfl) ?_⟩
 clear h
 rintro k5 ⟨s3,s4⟩ _ nL0_1 hnL0_1 _ h Jk5 hk5
 change _∧Dh N a0 k2 (k5+1) s3 s4=_ at h
 rw[Dh]at h
 refine AB (.q (.q (.r []) (.c .z .z)) (.q (.q (.r []) (.q (.q (.r []) (.c (.q (.r []) .z) .z)) (.r []))) (.r []))) ?_
 replace h:=AC h
 rcases h with h|h
 replace h:=AA h
 obtain⟨y6,h⟩:=h
 simp(disch:=omega) only[vm,seval,h.1]
 refine⟨Nw h.1.1 (by first|(simp(disch:=omega) only[vm,seval,h.1];done)|rfl) fun n7 hn7=>?_⟩
 replace h:=AC h
 rcases h with h|h
 obtain⟨H,h⟩:=h
 cases h
 simp(disch:=omega) only[vm,seval,H]
 refine⟨(hR _ _ _ _ _ _ (by simp(disch:=omega) only[vm,seval,H];rfl) slr ?_ (by omega) ?_).1⟩<;>first|(simp(disch:=omega) only[vm,seval,H];done)|rfl
 simp(disch:=omega) only[vm,seval,h.1]
 refine⟨hk5 ((wr .i64 (s3+1)),y6.2.1) () _ _ _ _ h.2 slr ?_ ?_ ?_ (by omega)⟩<;>first|(simp(disch:=omega) only[vm,seval,h.1];done)|rfl
 simp(disch:=omega) only[vm,seval,h.1]
 refine⟨hk2 s3 () _ _ _ _ h.2 slr ?_ ?_ ?_ (by omega)⟩<;>first|(simp(disch:=omega) only[vm,seval,h.1];done)|rfl
theorem KZ {a0 r} (h:Dj N a0=some r) (ha:args=[.int .i64 a0]) (hQ: ∀n',n≤n'→Gl (Q (.int .u64 r) ⟨m,n'⟩)):ACall vE 125 args ⟨m,n⟩ Q:=by
 rw[Dj]at h
 subst ha
 refine ent hQ Tryz.func125 rfl Tryz.ntmps125 Tryz.results125 (.q (.r []) (.q (.r []) .z)) fun R hR=>?_
 replace h:=And.intro trivial h
 replace h:=AA h
 obtain⟨y1,h⟩:=h
 simp(disch:=omega) only[vm,seval,h.1]
 refine⟨LW h.1.1 (by first|(simp(disch:=omega) only[vm,seval,h.1];done)|rfl) fun n2 hn2=>?_⟩
 replace h:=Ag h
 obtain⟨c,h⟩:=h
 try simp only[liE,seval]at c
 replace h:=Aa c h
 obtain⟨H,h⟩:=h
 cases h
 simp(disch:=omega) only[vm,seval,H]
 refine⟨(hR _ _ _ _ _ _ (by simp(disch:=omega) only[vm,seval,H];rfl) slr ?_ (by omega) ?_).1⟩<;>first|(simp(disch:=omega) only[vm,seval,H];done)|rfl
theorem Be {a0 a1 c0 r} (h:BS N a0 a1 c0=some r) (ha:args=[.int .i64 a0,.int .i64 a1,.cptr [.int .i64 c0.kind,.str c0.text,.slice 1 (List.map AVal.str c0.keys) false,.slice 4 (List.map AJ c0.items) false]]) (hQ: ∀n',n≤n'→Gl (Q (.int .i64 r) ⟨m,n'⟩)):ACall vE 66 args ⟨m,n⟩ Q:=by
 rw[BS]at h
 subst ha
 refine ent hQ Tryz.func66 rfl Tryz.ntmps66 Tryz.results66 (.q (.r []) (.q .z .z)) fun R hR=>?_
 replace h:=And.intro trivial h
 replace h:=AA h
 obtain⟨x1,h⟩:=h
 replace h:=AA h
 obtain⟨x2,h⟩:=h
 replace h:=AA h
 obtain⟨y3,h⟩:=h
 have cy3:=h.1.1
 simp(disch:=omega) only[vm,seval,h.1]
 refine⟨BB [] (.take 0 (.take 1 (.take 2 (.take 3 (.take 4 (.take 5 (.take 6 (.take 7 (.take 8 (.take 9 (.alt 10 [8,7,6,5,3,2,1,0] (.alt 11 [] (.done) (.stop)) (.stop)))))))))))) Av (by kernel_rfl) ?_⟩
 simp(disch:=omega) only[vm,seval,h.1]
 refine⟨Ld cy3 (by first|(simp(disch:=omega) only[vm,seval,h.1];done)|rfl) fun n4 hn4=>?_⟩
 obtain⟨H,h⟩:=h
 cases h
 simp(disch:=omega) only[vm,seval,H]
 refine⟨(hR _ _ _ _ _ _ (by simp(disch:=omega) only[vm,seval,H];rfl) slr ?_ (by omega) ?_).1⟩<;>first|(simp(disch:=omega) only[vm,seval,H];done)|rfl
end Go.Proofs.YtooeobhihpkicaaGreatDoor
