import Derived.Test.YtjgdhjpafjpjgaaGreatDoorVmFacts
import Derived.Test.YtjgdhjpafjpjgaaGreatDoorDefs
import Derived.Test.YtjgdhjpafjpjgaaGreatDoorVM2
import Derived.Test.YtjgdhjpafjpjgaaGreatDoorW0
import Derived.Test.YtjgdhjpafjpjgaaGreatDoorW1
import Derived.Test.YtjgdhjpafjpjgaaGreatDoorW2
set_option linter.unusedVariables false
set_option linter.unusedSimpArgs false
set_option maxHeartbeats 4000000
set_option maxRecDepth 100000
set_option linter.defProp false
namespace Go.Proofs.YtjgdhjpafjpjgaaGreatDoor
open Go.VM
variable{N n:Nat}{m:MS}{Q:PQ}{args:List AVal}
theorem H5 {a0 a1 r} (h:Cw N a0 a1=some r) (ha:args=[.str a0,.str a1]) (hQ: ∀n',n≤n'→Gl (Q (.tuple [.str r.1,.str r.2.1,.bool r.2.2]) ⟨m,n'⟩)):ACall vE 88 args ⟨m,n⟩ Q:=by
 rw[Cw]at h
 subst ha
 refine ent hQ Tryz.func88 rfl Tryz.ntmps88 Tryz.results88 (.q (.r []) (.q (.q (.r []) (.q (.r []) (.c (.q .z .z) .z))) (.q (.r []) .z))) fun R hR=>?_
 replace h:=And.intro trivial h
 obtain⟨y1,h⟩:=AA h
 simp(disch:=omega) only[vm,seval,h.1]
 refine⟨Ea h.1.1 tD fun n2 hn2=>?_⟩
 rcases AC h with h|h
 obtain⟨x3,h⟩:=AA h
 obtain⟨x4,h⟩:=AA h
 simp(disch:=omega) only[vm,seval,h.1]
 refine⟨BL [] (.take 0 (.take 1 (.take 2 (.take 3 (.take 4 (.take 5 (.take 6 (.take 7 (.take 8 (.alt 9 [8,7,6,5,4,3] (.alt 10 [] (.alt 11 [] (.done) (.stop)) (.stop)) (.stop))))))))))) Ar (by kernel_rfl) ?_⟩
 exact tR
 exact tR
theorem IQ {a0 a1 r} (h:Dt N a0 a1=some r) (ha:args=[.str a0,.int .i64 a1]) (hQ: ∀n',n≤n'→Gl (Q (.tuple [.int .u8 r.1,.bool r.2]) ⟨m,n'⟩)):ACall vE 89 args ⟨m,n⟩ Q:=by
 rw[Dt]at h
 subst ha
 refine ent hQ Tryz.func89 rfl Tryz.ntmps89 Tryz.results89 (.q (.r []) (.q .z (.q .z .z))) fun R hR=>?_
 replace h:=And.intro trivial h
 simp(disch:=omega) only[vm,seval,h.1]
 refine⟨AP (γ:=Unit) h [6,7,8,9,10,11,12,13,14,15,16,17,18,19,20,21,22,23,24,25] [26] (fun j1 g=>[.bool j1]) (fun j1 g=>m) (.r []) ?_ ?_⟩<;>clear h
 rintro j1 _ n4 hnn4 _ _ h
 refine AB (.c (.q (.r []) .z) .z) ?_
 rcases AC h with h|h
 exact tR
 obtain⟨x11,h⟩:=AA h
 obtain⟨y12,h⟩:=AA h
 have cy12:=h.1.1
 obtain⟨x14,h⟩:=AA h
 obtain⟨y15,h⟩:=AA h
 have cy15:=h.1.1
 simp(disch:=omega) only[vm,seval,h.1]
 refine⟨BL [] (.take 0 (.take 1 (.take 2 (.take 3 (.take 6 (.take 7 (.take 8 (.take 9 (.alt 4 [9,8,7,6,2,1,0] (.take 5 (.alt 10 [5,8,7,6,3,2,1,0] (.take 11 (.alt 12 [] (.alt 13 [] (.done) (.stop)) (.stop))) (.stop))) (.stop)))))))))) Ar (by kernel_rfl) ?_⟩
 simp(disch:=omega) only[vm,seval,h.1]
 refine⟨Jm cy12 tD fun n13 hn13=>?_⟩
 simp(disch:=omega) only[vm,seval,h.1]
 refine⟨Jm cy15 tD fun n16 hn16=>?_⟩
 exact tR
 intro k2 Jk2 hk2 h
 rcases AC h with h|h
 exact tJ (hk2 true ())
 obtain⟨x5,h⟩:=AA h
 obtain⟨y6,h⟩:=AA h
 simp(disch:=omega) only[vm,seval,h.1]
 refine⟨Km h.1.1 tD fun n7 hn7=>?_⟩
 rcases AC h with h|h
 obtain⟨x8,h⟩:=AA h
 obtain⟨y9,h⟩:=AA h
 simp(disch:=omega) only[vm,seval,h.1]
 refine⟨Km h.1.1 tD fun n10 hn10=>?_⟩
 exact tJ (hk2 (!y9) ())
 exact tJ (hk2 true ())
theorem Je {a0 r} (h:Gg N a0=some r) (ha:args=[.str a0]) (hQ: ∀n',n≤n'→Gl (Q (.int .i64 r) ⟨m,n'⟩)):ACall vE 143 args ⟨m,n⟩ Q:=by
 rw[Gg]at h
 subst ha
 refine ent hQ Tryz.func143 rfl Tryz.ntmps143 Tryz.results143 (.q (.r []) (.q (.r []) .z)) fun R hR=>?_
 replace h:=And.intro trivial h
 simp(disch:=omega) only[vm,seval,h.1]
 refine⟨AP (γ:=Unit) h [7,8,9,10,11,12,13,14,15,16,17,18] [3] (fun j1 g=>[.int .i64 j1]) (fun j1 g=>m) .z ?_ ?_⟩<;>clear h
 rintro j1 _ n4 hnn4 _ _ h
 refine AB (.q .z .z) ?_
 simp(disch:=omega) only[vm,seval,h.1]
 refine⟨AP (γ:=Unit) h [19,20,21,22,23,24,25,26,27,28] [29] (fun j10 g=>[.bool j10]) (fun j10 g=>m) (.r []) ?_ ?_⟩<;>clear h
 rintro j10 _ n13 hnn13 _ _ h
 refine AB (.c (.q (.r []) .z) .z) ?_
 rcases AC h with h|h
 exact tR
 simp(disch:=omega) only[vm,seval,h.1]
 refine⟨AP (γ:=Unit) h [30,31,32,33,34,35,36,37,38,39,40,41] [3] (fun j17 g=>[.int .i64 j17]) (fun j17 g=>m) (.q (.r []) (.c (.r []) (.r []))) ?_ ?_⟩<;>clear h
 rintro j17 _ n20 hnn20 _ _ h
 refine AB .z ?_
 simp(disch:=omega) only[vm,seval,h.1]
 refine⟨AP (γ:=Unit) h [4,42,43,44,45,46,47,48,49,50,51,52,53,54,55,56,57,58,59,60,61,62,63,64] [3] (fun j25 g=>[.int .i64 j25]) (fun j25 g=>m) (.q (.r []) .z) ?_ ?_⟩<;>clear h
 rintro j25 _ n28 hnn28 _ _ h
 refine AB .z ?_
 simp(disch:=omega) only[vm,seval,h.1]
 refine⟨AP (γ:=Unit) h [5,6,65,66,67,68,69,70,71,72,73,74,75,76,77,78,79,80,81,82,83,84,85,86,87,88,89,90,91,92,93,94,95,96,97] [3] (fun j38 g=>[.int .i64 j38]) (fun j38 g=>m) .z ?_ ?_⟩<;>clear h
 rintro j38 _ n41 hnn41 _ _ h
 refine AB (.q (.r []) .z) ?_
 exact tR
 intro k39 Jk39 hk39 h
 simp(disch:=omega) only[vm,seval,h.1]
 refine⟨AP (γ:=Unit) h [65,66,67,68,69,70,71,72,73] [74] (fun j42 g=>[.bool j42]) (fun j42 g=>m) (.r []) ?_ ?_⟩<;>clear h
 rintro j42 _ n45 hnn45 _ _ h
 refine AB (.c (.q (.r []) .z) .z) ?_
 rcases AC h with h|h
 simp(disch:=omega) only[vm,seval,h.1]
 refine⟨AP (γ:=Unit) h [77,78,79,80,81,82,83,84,85,86,87,88] [5] (fun j49 g=>[.int .i64 j49]) (fun j49 g=>m) .z ?_ ?_⟩<;>clear h
 rintro j49 _ n52 hnn52 _ _ h
 refine AB (.q (.r []) (.q (.r []) (.c (.r []) .z))) ?_
 obtain⟨y60,h⟩:=AA h
 simp(disch:=omega) only[vm,seval,h.1]
 refine⟨JY h.1.1 tD fun n61 hn61=>?_⟩
 obtain⟨y62,h⟩:=AA h
 simp(disch:=omega) only[vm,seval,h.1]
 refine⟨J4 h.1.1 tD fun n63 hn63=>?_⟩
 rcases AC h with h|h
 exact tJ (hk39 (wr .i64 (j49+y62)) ())
 exact tJ (hk39 j25 ())
 intro k50 Jk50 hk50 h
 simp(disch:=omega) only[vm,seval,h.1]
 refine⟨AP (γ:=Unit) h [77,78,79,80,81,82,83,84,85] [86] (fun j53 g=>[.bool j53]) (fun j53 g=>m) (.r []) ?_ ?_⟩<;>clear h
 rintro j53 _ n56 hnn56 _ _ h
 refine AB (.c (.r []) .z) ?_
 rcases AC h with h|h
 exact tJ (hk50 (wr .i64 ((wr .i64 (j25+1))+1)) ())
 exact tJ (hk50 (wr .i64 (j25+1)) ())
 intro k54 Jk54 hk54 h
 rcases AC h with h|h
 obtain⟨x57,h⟩:=AA h
 obtain⟨y58,h⟩:=AA h
 simp(disch:=omega) only[vm,seval,h.1]
 refine⟨Gb h.1.1 tD fun n59 hn59=>?_⟩
 exact tJ (hk54 y58 ())
 exact tJ (hk54 false ())
 exact tJ (hk39 j25 ())
 intro k43 Jk43 hk43 h
 rcases AC h with h|h
 obtain⟨x46,h⟩:=AA h
 obtain⟨y47,h⟩:=AA h
 simp(disch:=omega) only[vm,seval,h.1]
 refine⟨Gb h.1.1 tD fun n48 hn48=>?_⟩
 exact tJ (hk43 y47 ())
 exact tJ (hk43 false ())
 intro k26 Jk26 hk26 h
 obtain⟨y29,h⟩:=AA h
 simp(disch:=omega) only[vm,seval,h.1]
 refine⟨JY h.1.1 tD fun n30 hn30=>?_⟩
 obtain⟨y31,h⟩:=AA h
 simp(disch:=omega) only[vm,seval,h.1]
 refine⟨J4 h.1.1 tD fun n32 hn32=>?_⟩
 simp(disch:=omega) only[vm,seval,h.1]
 refine⟨AP (γ:=Unit) h [47,48,49,50,51,52,53,54,55,56,57,58,59] [60] (fun j33 g=>[.bool j33]) (fun j33 g=>m) (.r []) ?_ ?_⟩<;>clear h
 rintro j33 _ n36 hnn36 _ _ h
 refine AB (.c (.r []) .z) ?_
 rcases AC h with h|h
 exact tJ (hk26 (wr .i64 (j17+(wr .i64 (1+y31)))) ())
 exact tJ (hk26 j17 ())
 intro k34 Jk34 hk34 h
 rcases AC h with h|h
 obtain⟨x37,h⟩:=AA h
 rcases AC h with h|h
 exact tJ (hk34 (decide (y31>0)) ())
 exact tJ (hk34 false ())
 exact tJ (hk34 false ())
 intro k18 Jk18 hk18 h
 obtain⟨x21,h⟩:=AA h
 rcases AC h with h|h
 exact tJ (hk18 (wr .i64 (j1+1)) ())
 obtain⟨x22,h⟩:=AA h
 obtain⟨y23,h⟩:=AA h
 simp(disch:=omega) only[vm,seval,h.1]
 refine⟨J4 h.1.1 tD fun n24 hn24=>?_⟩
 exact tJ (hk18 (wr .i64 (j1+y23)) ())
 intro k11 Jk11 hk11 h
 rcases AC h with h|h
 exact tJ (hk11 true ())
 obtain⟨x14,h⟩:=AA h
 obtain⟨y15,h⟩:=AA h
 simp(disch:=omega) only[vm,seval,h.1]
 refine⟨EZ h.1.1 tD fun n16 hn16=>?_⟩
 exact tJ (hk11 (!y15) ())
 intro k2 Jk2 hk2 h
 simp(disch:=omega) only[vm,seval,h.1]
 refine⟨AP (γ:=Unit) h [7,8,9,10,11,12,13,14,15] [16] (fun j5 g=>[.bool j5]) (fun j5 g=>m) (.r []) ?_ ?_⟩<;>clear h
 rintro j5 _ n8 hnn8 _ _ h
 refine AB (.c (.r []) .z) ?_
 rcases AC h with h|h
 exact tJ (hk2 (wr .i64 (0+1)) ())
 exact tJ (hk2 0 ())
 intro k6 Jk6 hk6 h
 rcases AC h with h|h
 obtain⟨x9,h⟩:=AA h
 exact tJ (hk6 ((AV x9)==45) ())
 exact tJ (hk6 false ())
theorem Oe {a0 a1 a2 r} (h:KM N a0 a1 a2=some r) (ha:args=[.str a0,.int .u64 a1,.int .u64 a2]) (hQ: ∀n',n≤n'→Gl (Q (.tuple [.int .u64 r.1,.int .i64 r.2]) ⟨m,n'⟩)):ACall vE 227 args ⟨m,n⟩ Q:=by
 rw[KM]at h
 subst ha
 refine ent hQ Tryz.func227 rfl Tryz.ntmps227 Tryz.results227 (.q (.r []) (.q (.q (.r []) (.c (.q (.r []) .z) .z)) .z)) fun R hR=>?_
 replace h:=And.intro trivial h
 rcases AC h with h|h
 exact tR
 simp(disch:=omega) only[vm,seval,h.1]
 refine⟨AP (γ:=Unit) h [6,7,8,14,15,16,17,18,19,20,21,22,23,24,25,26,27,28,29,30,31,32,33,34,35,36,37,38,39] [] (fun j1 g=>[]) (fun j1 g=>m) (.q (.r []) .z) ?_ ?_⟩<;>clear h
 rintro j1 _ n4 hnn4 _ _ h
 refine AB (.q (.r []) .z) ?_
 simp(disch:=omega) only[vm,seval,h.1]
 refine⟨AP (γ:=Unit) h [6,7,10,11,40,41,42,43,44,45,46,47,48,49,50,51,52,53,54,55,56,57,58,59,60,61,62,63,64,65,66,67,68,69,70,71,72,73,74,75,76,77,78,79,80,81,82,83,84,85] [9] (fun j16 g=>[.int .u64 j16]) (fun j16 g=>m) (.q (.r []) .z) ?_ ?_⟩<;>clear h
 rintro j16 _ n19 hnn19 _ _ h
 refine AB (.q (.r []) .z) ?_
 exact tR
 intro k17 Jk17 hk17 h
 obtain⟨hfk20,h⟩:=AU h
 simp(disch:=omega) only[vm,seval,h.1]
 refine⟨C9 (σ:=Int) (γ:=Unit) a0 hfk20 (fun xs i s=>Dl N a1 a2 k17 xs s) (fun i s g=>[.int .u64 s,.int .i64 i]) (fun i s g=>m) [6,7,11,40,41,42,43,44,45,46,47,48,49,50,51,52,53,54,55,56,57,58,59,60,61,62,63,64,65,66,67,68,69,70,71,72,73,74,75,76,77,78,79,80,81,82,83,84,85] [9,10] 0 () h tD tD ?_ ?_⟩<;>clear h
 rintro s10 s9 _ nL1_1 hnL1_1 _ h
 change _∧Dl N a1 a2 k17 [] s9=_ at h
 rw[Dl]at h
 refine AB (.q (.q (.r []) (.c .z .z)) (.q (.q (.r []) .z) (.r []))) ?_
 exact tJ (hk17 s9 ())
 rintro xk20 xsk20 s10 s9 _ nL1_1 hnL1_1 _ h Jk20 hk20
 change _∧Dl N a1 a2 k17 (xk20::xsk20) s9=_ at h
 rw[Dl]at h
 refine AB (.q (.q (.r []) (.c .z .z)) (.q (.q (.r []) .z) (.r []))) ?_
 simp(disch:=omega) only[vm,seval,h.1]
 refine⟨AP (γ:=Unit) h [51,52,53,54,55,56,57,58,59,60,61] [11] (fun j21 g=>[.int .u64 j21]) (fun j21 g=>m) (.q (.r []) (.c (.r []) .z)) ?_ ?_⟩<;>clear h
 rintro j21 _ n24 hnn24 _ _ h
 refine AB (.q .z (.r [])) ?_
 simp(disch:=omega) only[vm,seval,h.1]
 refine⟨AP (γ:=Unit) h [62,63,64,65,66,67,68,69,70,71,72,73,74,75,76,77,78,79] [80] (fun j25 g=>[.bool j25]) (fun j25 g=>m) (.r []) ?_ ?_⟩<;>clear h
 rintro j25 _ n28 hnn28 _ _ h
 refine AB (.c (.q (.r []) .z) .z) ?_
 rcases AC h with h|h
 exact tR
 exact tJ (hk20 (wr .u64 ((wr .u64 (s9 * a1))+j21)) ())
 intro k26 Jk26 hk26 h
 obtain⟨c,h⟩:=AU h
 try simp only[liE,seval]at c
 replace h:=AQ c h
 rcases AC h with h|h
 exact tJ (hk26 true ())
 rcases AC h with h|h
 exact tJ (hk26 true ())
 exact tJ (hk26 (decide (j21>a2)) ())
 intro k22 Jk22 hk22 h
 rcases AC h with h|h
 exact tJ (hk22 (wr .u64 ((wr .u64 ((wr .u64 (HV .u8 (AV xk20) 32))-97))+10)) ())
 exact tJ (hk22 (wr .u64 (wr .u8 ((AV xk20)-48))) ())
 intro k2 Jk2 hk2 h
 obtain⟨hfk5,h⟩:=AU h
 simp(disch:=omega) only[vm,seval,h.1]
 refine⟨C9 (σ:=Unit) (γ:=Unit) a0 hfk5 (fun xs i s=>Db N a1 k2 xs) (fun i s g=>[.int .i64 i]) (fun i s g=>m) [6,7,14,15,16,17,18,19,20,21,22,23,24,25,26,27,28,29,30,31,32,33,34,35,36,37,38,39] [8] () () h tD tD ?_ ?_⟩<;>clear h
 rintro s8 _ _ nL0_1 hnL0_1 _ h
 change _∧Db N a1 k2 []=_ at h
 rw[Db]at h
 refine AB (.q (.q (.r []) (.c .z .z)) (.q .z (.r []))) ?_
 exact tJ (hk2 () ())
 rintro xk5 xsk5 s8 _ _ nL0_1 hnL0_1 _ h Jk5 hk5
 change _∧Db N a1 k2 (xk5::xsk5)=_ at h
 rw[Db]at h
 refine AB (.q (.q (.r []) (.c .z .z)) (.q .z (.r []))) ?_
 simp(disch:=omega) only[vm,seval,h.1]
 refine⟨AP (γ:=Unit) h [20,21,22,23,24,25,26,27,28,29,30,31,32,33,34,35,36,37,38] [39] (fun j6 g=>[.bool j6]) (fun j6 g=>m) (.r []) ?_ ?_⟩<;>clear h
 rintro j6 _ n9 hnn9 _ _ h
 refine AB (.c (.q (.r []) .z) .z) ?_
 rcases AC h with h|h
 exact tR
 exact tJ (hk5 () ())
 intro k7 Jk7 hk7 h
 rcases AC h with h|h
 obtain⟨y10,h⟩:=AA h
 simp(disch:=omega) only[vm,seval,h.1]
 refine⟨EZ h.1.1 tD fun n11 hn11=>?_⟩
 rcases AC h with h|h
 rcases AC h with h|h
 obtain⟨y12,h⟩:=AA h
 simp(disch:=omega) only[vm,seval,h.1]
 refine⟨Gi h.1.1 tD fun n13 hn13=>?_⟩
 exact tJ (hk7 (!y12) ())
 exact tJ (hk7 false ())
 exact tJ (hk7 true ())
 rcases AC h with h|h
 obtain⟨y14,h⟩:=AA h
 simp(disch:=omega) only[vm,seval,h.1]
 refine⟨Gi h.1.1 tD fun n15 hn15=>?_⟩
 exact tJ (hk7 (!y14) ())
 exact tJ (hk7 false ())
theorem Nl {a0 a1 r} (h:JF N a0 a1=some r) (ha:args=[.str a0,.int .i64 a1]) (hQ: ∀n',n≤n'→Gl (Q (.tuple [.int .i64 r.1,.int .i64 r.2.1,.int .i64 r.2.2]) ⟨m,n'⟩)):ACall vE 199 args ⟨m,n⟩ Q:=by
 rw[JF]at h
 subst ha
 refine ent hQ Tryz.func199 rfl Tryz.ntmps199 Tryz.results199 (.q (.r []) (.q .z .z)) fun R hR=>?_
 replace h:=And.intro trivial h
 simp(disch:=omega) only[vm,seval,h.1]
 refine⟨AP (γ:=Unit) h [11,12,13,14,15,16,17] [18] (fun j1 g=>[.bool j1]) (fun j1 g=>m) (.r []) ?_ ?_⟩<;>clear h
 rintro j1 _ n4 hnn4 _ _ h
 refine AB (.c (.q (.r []) .z) .z) ?_
 rcases AC h with h|h
 exact tR
 simp(disch:=omega) only[vm,seval,h.1]
 refine⟨AP (γ:=Unit) h [4,5,6,7,8,9,10,19,20,21,22,23,24,25,26,27,28,29,30,31,32,33,34,35,36,37,38,39,40,41,42,43,44,45,46,47,48,49,50,51,52,53,54,55,56,57,58] [] (fun j5 g=>[]) (fun j5 g=>m) (.q (.r []) .z) ?_ ?_⟩<;>clear h
 rintro j5 _ n8 hnn8 _ _ h
 refine AB (.q (.r []) .z) ?_
 exact tR
 intro k6 Jk6 hk6 h
 simp(disch:=omega) only[vm,seval,h.1]
 refine⟨E8 (σ:=Int) (γ:=Unit) (fun k s=>Ec N a0 a1 k6 k s) (fun s g=>[.int .i64 s]) (fun s g=>m) [4,5,6,8,9,10,19,20,21,22,23,24,25,26,27,28,29,30,31,32,33,34,35,36,37,38,39,40,41,42,43,44,45,46,47,48,49,50,51,52,53,54,55,56,57,58] [7] 1 () h (fun _=>rfl) tD tD ?_⟩
 clear h
 rintro k9 s7 _ nL0_1 hnL0_1 _ h Jk9 hk9
 change _∧Ec N a0 a1 k6 (k9+1) s7=_ at h
 rw[Ec]at h
 refine AB (.q .z (.q (.q (.r []) (.q (.r []) .z)) (.r []))) ?_
 simp(disch:=omega) only[vm,seval,h.1]
 refine⟨AP (γ:=Unit) h [19,20,21,22,23,24,25,26,27] [28] (fun j10 g=>[.bool j10]) (fun j10 g=>m) (.r []) ?_ ?_⟩<;>clear h
 rintro j10 _ n13 hnn13 _ _ h
 refine AB (.c .z .z) ?_
 rcases AC h with h|h
 obtain⟨x14,h⟩:=AA h
 obtain⟨y15,h⟩:=AA h
 simp(disch:=omega) only[vm,seval,h.1]
 refine⟨PH h.1.1 tD fun n16 hn16=>?_⟩
 obtain⟨y17,h⟩:=AA h
 simp(disch:=omega) only[vm,seval,h.1]
 refine⟨H8 h.1.1 tD fun n18 hn18=>?_⟩
 simp(disch:=omega) only[vm,seval,h.1]
 refine⟨AP (γ:=Unit) h [43,44,45,46,47,48,49,50,51,52,53] [54] (fun j19 g=>[.bool j19]) (fun j19 g=>m) (.r []) ?_ ?_⟩<;>clear h
 rintro j19 _ n22 hnn22 _ _ h
 refine AB (.c (.q (.r []) .z) .z) ?_
 rcases AC h with h|h
 exact tR
 exact tJ (hk9 (wr .i64 (s7+1)) ())
 intro k20 Jk20 hk20 h
 rcases AC h with h|h
 exact tJ (hk20 (y17.1==x14) ())
 exact tJ (hk20 false ())
 exact tJ (hk6 () ())
 intro k11 Jk11 hk11 h
 rcases AC h with h|h
 exact tJ (hk11 (decide ((wr .i64 (a1+s7))≤(a0.length:Int))) ())
 exact tJ (hk11 false ())
 intro k2 Jk2 hk2 h
 rcases AC h with h|h
 exact tJ (hk2 true ())
 exact tJ (hk2 (decide (a1≥(a0.length:Int))) ())
theorem FY {a0 r} (h:Eh N a0=some r) (ha:args=[Fj a0]) (hQ: ∀n',n≤n'→Gl (Q (.str r) ⟨m,n'⟩)):ACall vE 34 args ⟨m,n⟩ Q:=by
 rw[Eh]at h
 subst ha
 refine ent hQ Tryz.func34 rfl Tryz.ntmps34 Tryz.results34 (.q (.r []) (.q .z .z)) fun R hR=>?_
 replace h:=And.intro trivial h
 obtain⟨y1,h⟩:=AA h
 have cy1:=h.1.1
 obtain⟨y3,h⟩:=AA h
 have cy3:=h.1.1
 obtain⟨c,h⟩:=AU h
 try simp only[liE,seval]at c
 replace h:=AQ c h
 obtain⟨y5,h⟩:=AA h
 have cy5:=h.1.1
 obtain⟨c,h⟩:=AU h
 try simp only[liE,seval]at c
 replace h:=AQ c h
 simp(disch:=omega) only[vm,seval,h.1]
 refine⟨BL [] (.take 0 (.take 4 (.alt 1 [4] (.alt 2 [4,0] (.take 3 (.alt 5 [3,0] (.take 6 (.alt 7 [] (.done) (.stop))) (.stop))) (.stop)) (.stop)))) Ar (by kernel_rfl) ?_⟩
 simp(disch:=omega) only[vm,seval,h.1]
 refine⟨NQ cy1 tD fun n2 hn2=>?_⟩
 simp(disch:=omega) only[vm,seval,h.1]
 refine⟨PE cy3 tD fun n4 hn4=>?_⟩
 simp(disch:=omega) only[vm,seval,h.1]
 refine⟨NT cy5 tD fun n6 hn6=>?_⟩
 simp(disch:=omega) only[vm,seval,h.1]
 refine⟨AP (γ:=Unit) h [11,12,13,14,15,16,17] [3] (fun j7 g=>[.str j7]) (fun j7 g=>(n,[.str a0.host,.int .i64 a0.port,.str a0.path,.str a0.query,.str a0.fragment,.bool a0.hasQuery,.bool a0.hasFrag])::m) (.q (.r []) (.c (.r []) .z)) ?_ ?_⟩<;>clear h
 rintro j7 _ n10 hnn10 _ _ h
 refine AB (.q (.r []) .z) ?_
 exact tR
 intro k8 Jk8 hk8 h
 rcases AC h with h|h
 obtain⟨c,h⟩:=AU h
 try simp only[liE,seval]at c
 replace h:=AQ c h
 obtain⟨c,h⟩:=AU h
 try simp only[liE,seval]at c
 replace h:=AQ c h
 exact tJ (hk8 (((([104,116,116,112,115,58,47,47]:List UInt8)++y3)++y5)++(([35]:List UInt8)++a0.fragment)) ())
 exact tJ (hk8 ((([104,116,116,112,115,58,47,47]:List UInt8)++y3)++y5) ())
theorem G6 {a0 a1 r} (h:strings_CutPrefix N a0 a1=some r) (ha:args=[.str a0,.str a1]) (hQ: ∀n',n≤n'→Gl (Q (.tuple [.str r.1,.bool r.2]) ⟨m,n'⟩)):ACall vE 150 args ⟨m,n⟩ Q:=by
 rw[strings_CutPrefix]at h
 subst ha
 refine ent hQ Tryz.func150 rfl Tryz.ntmps150 Tryz.results150 (.q (.r []) (.q (.r []) .z)) fun R hR=>?_
 replace h:=And.intro trivial h
 obtain⟨y1,h⟩:=AA h
 simp(disch:=omega) only[vm,seval,h.1]
 refine⟨GG h.1.1 tD fun n2 hn2=>?_⟩
 exact tR
theorem FZ {a0 a1 r} (h:strings_Index N a0 a1=some r) (ha:args=[.str a0,.str a1]) (hQ: ∀n',n≤n'→Gl (Q (.int .i64 r) ⟨m,n'⟩)):ACall vE 161 args ⟨m,n⟩ Q:=by
 rw[strings_Index]at h
 subst ha
 refine ent hQ Tryz.func161 rfl Tryz.ntmps161 Tryz.results161 (.q (.r []) (.q (.r []) .z)) fun R hR=>?_
 replace h:=And.intro trivial h
 obtain⟨y1,h⟩:=AA h
 simp(disch:=omega) only[vm,seval,h.1]
 refine⟨Ea h.1.1 tD fun n2 hn2=>?_⟩
 exact tR
theorem Ov {a0 a1 r} (h:Jv N a0 a1=some r) (ha:args=[.int .u8 a0,.str a1]) (hQ: ∀n',n≤n'→Gl (Q (.bool r) ⟨m,n'⟩)):ACall vE 133 args ⟨m,n⟩ Q:=by
 rw[Jv]at h
 subst ha
 refine ent hQ Tryz.func133 rfl Tryz.ntmps133 Tryz.results133 (.q (.r []) (.q (.r []) .z)) fun R hR=>?_
 replace h:=And.intro trivial h
 obtain⟨y1,h⟩:=AA h
 simp(disch:=omega) only[vm,seval,h.1]
 refine⟨BR h.1.1 tD fun n2 hn2=>?_⟩
 exact tR
theorem DC {a0 a1 a2 r}{i0:Nat} (h:CE N a0 a1 a2=some r) (ha:args=[.ptr i0 0,AJ a1,.str a2]) (hi0:BD m i0=some ([.str a0.did.method,.str a0.did.iD,.int .i64 a0.e])) (hQ: ∀n',n≤n'→Gl (Q (.str r.1) ⟨BQ m i0 ([.str r.2.did.method,.str r.2.did.iD,.int .i64 r.2.e]),n'⟩)):ACall vE 98 args ⟨m,n⟩ Q:=by
 rw[CE]at h
 subst ha
 refine ACall.front hi0 fun hin=>ent (fun n' k=>⟨_,rfl,(hQ n' k).go⟩) Tryz.func98 rfl Tryz.ntmps98 Tryz.results98 (.q (.r []) (.q (.r []) (.q (.r []) .z))) fun R hR=>?_
 replace h:=And.intro trivial h
 obtain⟨y1,h⟩:=AA h
 simp(disch:=omega) only[vm,seval,h.1]
 refine⟨FT h.1.1 tD fun n2 hn2=>?_⟩
 obtain⟨y3,h⟩:=AA h
 simp(disch:=omega) only[vm,seval,h.1]
 refine⟨DJ h.1.1 tD (i0:=i0) (by simp(disch:=omega) only[vm,seval,h.1]) fun n4 hn4=>?_⟩
 obtain⟨x5,h⟩:=AA h
 exact tR
theorem Em {a0 a1 a2 r}{i0:Nat} (h:DF N a0 a1 a2=some r) (ha:args=[.ptr i0 0,AJ a1,.str a2]) (hi0:BD m i0=some ([.str a0.did.method,.str a0.did.iD,.int .i64 a0.e])) (hQ: ∀n',n≤n'→Gl (Q (.slice 4 (List.map AJ r.1) false) ⟨BQ m i0 ([.str r.2.did.method,.str r.2.did.iD,.int .i64 r.2.e]),n'⟩)):ACall vE 100 args ⟨m,n⟩ Q:=by
 rw[DF]at h
 subst ha
 refine ACall.front hi0 fun hin=>J9 (fun n' k=>⟨_,rfl,(hQ n' k).go⟩) Tryz.func100 rfl Tryz.ntmps100 Tryz.results100 (.q (.r []) (.q (.r []) (.q (.q (.r []) (.c (.q (.r []) .z) .z)) (.q (.r []) .z)))) fun R hR=>?_
 replace h:=And.intro trivial h
 obtain⟨y1,h⟩:=AA h
 simp(disch:=omega) only[vm,seval,h.1]
 refine⟨FT h.1.1 tD fun n2 hn2=>?_⟩
 rcases AC h with h|h
 obtain⟨y3,h⟩:=AA h
 simp(disch:=omega) only[vm,seval,h.1]
 refine⟨F9 h.1.1 tD (i0:=i0) (by simp(disch:=omega) only[vm,seval,h.1]) fun n4 hn4=>?_⟩
 exact tR
 exact tR
theorem DY {a0 a1 r}{i0:Nat} (h:CO N a0 a1=some r) (ha:args=[.ptr i0 0,AJ a1]) (hi0:BD m i0=some ([.str a0.did.method,.str a0.did.iD,.int .i64 a0.e])) (hQ: ∀n',n≤n'→Gl (Q (.slice 1 (List.map AVal.str r.1) false) ⟨BQ m i0 ([.str r.2.did.method,.str r.2.did.iD,.int .i64 r.2.e]),n'⟩)):ACall vE 102 args ⟨m,n⟩ Q:=by
 rw[CO]at h
 subst ha
 refine ACall.front hi0 fun hin=>ent (fun n' k=>⟨_,rfl,(hQ n' k).go⟩) Tryz.func102 rfl Tryz.ntmps102 Tryz.results102 (.q (.r []) (.q (.q (.r []) (.c (.q (.r []) .z) .z)) (.q (.r []) .z))) fun R hR=>?_
 replace h:=And.intro trivial h
 rcases AC h with h|h
 obtain⟨y1,h⟩:=AA h
 simp(disch:=omega) only[vm,seval,h.1]
 refine⟨DJ h.1.1 tD (i0:=i0) (by simp(disch:=omega) only[vm,seval,h.1]) fun n2 hn2=>?_⟩
 exact tR
 obtain⟨y3,h⟩:=AA h
 simp(disch:=omega) only[vm,seval,h.1]
 refine⟨F9 h.1.1 tD (i0:=i0) (by simp(disch:=omega) only[vm,seval,h.1]) fun n4 hn4=>?_⟩
 obtain⟨y5,h⟩:=AA h
 simp(disch:=omega) only[vm,seval,h.1]
 refine⟨DJ h.1.1 tD (i0:=i0) (by simp(disch:=omega) only[vm,seval,h.1]) fun n6 hn6=>?_⟩
 exact tR
theorem G7 {a0 a1 r} (h:Es N a0 a1=some r) (ha:args=[.str a0,.int .i32 a1]) (hQ: ∀n',n≤n'→Gl (Q (.int .i64 r) ⟨m,n'⟩)):ACall vE 204 args ⟨m,n⟩ Q:=by
 rw[Es]at h
 subst ha
 refine ent hQ Tryz.func204 rfl Tryz.ntmps204 Tryz.results204 (.q (.r []) .z) fun R hR=>?_
 replace h:=And.intro trivial h
 simp(disch:=omega) only[vm,seval,h.1]
 refine⟨AP (γ:=Unit) h [161,162,163,164,165,166] [160] (fun j1 g=>[.bool j1]) (fun j1 g=>m) (.r []) ?_ ?_⟩<;>clear h
 rintro j1 _ n4 hnn4 _ _ h
 refine AB (.c (.q (.r []) .z) (.q (.r []) (.c .z (.q (.r []) (.c (.q (.r []) .z) (.q (.r []) (.q (.r []) (.q (.r []) (.q (.r []) .z))))))))) ?_
 rcases AC h with h|h
 obtain⟨y5,h⟩:=AA h
 simp(disch:=omega) only[vm,seval,h.1]
 refine⟨BR h.1.1 tD fun n6 hn6=>?_⟩
 exact tR
 rcases AC h with h|h
 simp(disch:=omega) only[vm,seval,h.1]
 refine⟨AP (γ:=Unit) h [4,5,6,174,175,176,177,178,179,180,181,182] [] (fun j7 g=>[]) (fun j7 g=>m) (.q (.r []) .z) ?_ ?_⟩<;>clear h
 rintro j7 _ n10 hnn10 _ _ h
 refine AB (.q (.r []) .z) ?_
 exact tR
 intro k8 Jk8 hk8 h
 simp(disch:=omega) only[vm,seval,h.1]
 refine⟨E8 (σ:=Nat) (γ:=Unit) (fun k s=>Cz N a0 k8 k s) (fun s g=>[.iter a0 s]) (fun s g=>m) [4,5,6,176,177,178,179,180,181,182] [175] 0 () h (fun _=>rfl) tD tD ?_⟩
 clear h
 rintro k11 s175 _ nL0_1 hnL0_1 _ h Jk11 hk11
 change _∧Cz N a0 k8 (k11+1) s175=_ at h
 rw[Cz]at h
 refine AB (.q (.r []) (.q (.c .z .z) (.q (.r []) (.q (.r []) (.c (.q (.r []) .z) .z))))) ?_
 rcases AC h with h|h
 rcases AC h with h|h
 exact tR
 exact tJ (hk11 (s175+(Bp a0 s175).2) ())
 exact tJ (hk8 () ())
 obtain⟨y12,h⟩:=AA h
 simp(disch:=omega) only[vm,seval,h.1]
 refine⟨Ih h.1.1 tD fun n13 hn13=>?_⟩
 rcases AC h with h|h
 simp(disch:=omega) only[vm,seval,h.1]
 refine⟨AP (γ:=Unit) h [4,9,10,11,12,23,24,25,26,27,28,29,30,31,32,33,34,35,36,37,38,39,40,41,42,43,44,45,46,47,48,49,50,51,52,53,54,55,56,57,58,59,60,61,62,63,64,65,66,67,68,69,70,71,72,73,74,75,76,77,78,79,80,81,82,83,84,85,86,87,88,89,90,91,92,93,94,95,96,97,98] [] (fun j14 g=>[]) (fun j14 g=>m) .z ?_ ?_⟩<;>clear h
 rintro j14 _ n17 hnn17 _ _ h
 refine AB (.q (.q (.r []) .z) (.q .z (.q (.c (.q (.r []) (.q (.r []) (.c (.q (.r []) .z) .z))) (.q (.r []) (.q (.r []) (.q .z .z)))) (.q (.r []) .z)))) ?_
 exact tR
 intro k15 Jk15 hk15 h
 simp(disch:=omega) only[vm,seval,h.1]
 refine⟨E8 (σ:=Int) (γ:=Unit) (fun k s=>Dv N a0 a1 k15 k s) (fun s g=>[.int .i64 s]) (fun s g=>m) [4,10,11,12,23,24,25,26,27,28,29,30,31,32,33,34,35,36,37,38,39,40,41,42,43,44,45,46,47,48,49,50,51,52,53,54,55,56,57,58,59,60,61,62,63,64,65,66,67,68,69,70,71,72,73,74,75,76,77,78,79,80,81,82,83,84,85,86,87,88,89,90,91,92,93,94,95,96,97,98] [9] (wr .i64 (((GX a1).length:Int)-1)) () h (fun _=>rfl) tD tD ?_⟩
 clear h
 rintro k18 s9 _ nL1_1 hnL1_1 _ h Jk18 hk18
 change _∧Dv N a0 a1 k15 (k18+1) s9=_ at h
 rw[Dv]at h
 refine AB (.q (.q (.r []) (.c .z .z)) .z) ?_
 rcases AC h with h|h
 simp(disch:=omega) only[vm,seval,h.1]
 refine⟨AP (γ:=Unit) h [4,11,27,28,29,30,31,32,33,34,35,36,37,38,39,40,41,42,43,44,45,46,47] [9] (fun j19 g=>[.int .i64 j19]) (fun j19 g=>m) (.q .z (.c (.q .z (.q (.q (.r []) (.c (.q (.r []) .z) .z)) (.r []))) .z)) ?_ ?_⟩<;>clear h
 rintro j19 _ n22 hnn22 _ _ h
 refine AB .z ?_
 simp(disch:=omega) only[vm,seval,h.1]
 refine⟨AP (γ:=Unit) h [12,48,49,50,51,52,53,54,55,56,57,58,59,60,61,62,63,64] [] (fun j28 g=>[]) (fun j28 g=>m) (.q (.r []) .z) ?_ ?_⟩<;>clear h
 rintro j28 _ n31 hnn31 _ _ h
 refine AB (.q (.q (.r []) .z) (.q .z (.q (.r []) (.q (.r []) .z)))) ?_
 exact tR
 intro k29 Jk29 hk29 h
 obtain⟨hfk32,h⟩:=AU h
 simp(disch:=omega) only[vm,seval,h.1]
 refine⟨ML (σ:=Unit) (γ:=Unit) 1 ((GX a1).length:Int) hfk32 (fun xs i s=>Bi N a0 a1 j19 k29 xs i) (fun i s g=>[.int .i64 i]) (fun i s g=>m) [48,49,50,51,52,53,54,55,56,57,58,59,60,61,62,63,64] [12] () () h tD tD ?_ ?_⟩<;>clear h
 rintro s12 _ _ nL2_2 hnL2_2 _ h
 change _∧Bi N a0 a1 j19 k29 0 s12=_ at h
 rw[Bi]at h
 refine AB (.q (.q (.r []) (.c .z .z)) (.q (.q .z (.c .z .z)) (.r []))) ?_
 exact tJ (hk29 () ())
 rintro xsk32 s12 _ _ nL2_2 hnL2_2 _ h Jk32 hk32
 change _∧Bi N a0 a1 j19 k29 (xsk32+1) s12=_ at h
 rw[Bi]at h
 refine AB (.q (.q (.r []) (.c .z .z)) (.q (.q .z (.c .z .z)) (.r []))) ?_
 obtain⟨x33,h⟩:=AA h
 obtain⟨x34,h⟩:=AA h
 simp(disch:=omega) only[vm,seval,h.1]
 refine⟨BL [] (.take 0 (.take 1 (.take 2 (.take 3 (.take 4 (.take 5 (.take 6 (.take 7 (.take 8 (.take 9 (.take 10 (.done)))))))))))) Ar (by kernel_rfl) ?_⟩
 rcases AC h with h|h
 cases h.2
 exact tJ (hk32 () ())
 intro k20 Jk20 hk20 h
 obtain⟨x23,h⟩:=AA h
 obtain⟨x24,h⟩:=AA h
 simp(disch:=omega) only[vm,seval,h.1]
 refine⟨BL [] (.take 0 (.take 1 (.take 2 (.take 3 (.take 4 (.take 5 (.take 6 (.done)))))))) Ar (by kernel_rfl) ?_⟩
 rcases AC h with h|h
 obtain⟨x25,h⟩:=AA h
 obtain⟨y26,h⟩:=AA h
 have cy26:=h.1.1
 simp(disch:=omega) only[vm,seval,h.1]
 refine⟨BL [] (.take 0 (.take 1 (.take 2 (.take 3 (.take 4 (.take 5 (.take 6 (.alt 7 [5,4,2,1,0] (.alt 8 [] (.done) (.stop)) (.stop))))))))) Ar (by kernel_rfl) ?_⟩
 simp(disch:=omega) only[vm,seval,h.1]
 refine⟨BR cy26 tD fun n27 hn27=>?_⟩
 rcases AC h with h|h
 exact tR
 exact tJ (hk20 (wr .i64 (s9+(wr .i64 (y26+1)))) ())
 exact tJ (hk20 s9 ())
 exact tJ (hk15 () ())
 exact tR
 intro k2 Jk2 hk2 h
 rcases AC h with h|h
 exact tJ (hk2 (decide (a1<128)) ())
 exact tJ (hk2 false ())
theorem SN {a0 r} (h:LD N a0=some r) (ha:args=[.str a0]) (hQ: ∀n',n≤n'→Gl (Q (.bool r) ⟨m,n'⟩)):ACall vE 159 args ⟨m,n⟩ Q:=by
 rw[LD]at h
 subst ha
 refine ent hQ Tryz.func159 rfl Tryz.ntmps159 Tryz.results159 (.q (.r []) .z) fun R hR=>?_
 replace h:=And.intro trivial h
 simp(disch:=omega) only[vm,seval,h.1]
 refine⟨AP (γ:=Unit) h [2,3,4,5,6,7,8,9,10,11,12,13,14,15,16,17,18,19,20,21,22,23,24,25,26,27,28,29,30,31,32] [] (fun j1 g=>[]) (fun j1 g=>m) (.q (.r []) .z) ?_ ?_⟩<;>clear h
 rintro j1 _ n4 hnn4 _ _ h
 refine AB (.q (.r []) .z) ?_
 exact tR
 intro k2 Jk2 hk2 h
 obtain⟨hfk5,h⟩:=AU h
 simp(disch:=omega) only[vm,seval,h.1]
 refine⟨C9 (σ:=Unit) (γ:=Unit) a0 hfk5 (fun xs i s=>D7 N k2 xs i) (fun i s g=>[.int .i64 i]) (fun i s g=>m) [2,3,7,8,9,10,11,12,13,14,15,16,17,18,19,20,21,22,23,24,25,26,27,28,29,30,31,32] [6] () () h tD tD ?_ ?_⟩<;>clear h
 rintro s6 _ _ nL0_1 hnL0_1 _ h
 change _∧D7 N k2 [] s6=_ at h
 rw[D7]at h
 refine AB (.q (.r []) (.q (.c .z .z) (.q (.q (.r []) .z) (.r [])))) ?_
 exact tJ (hk2 () ())
 rintro xk5 xsk5 s6 _ _ nL0_1 hnL0_1 _ h Jk5 hk5
 change _∧D7 N k2 (xk5::xsk5) s6=_ at h
 rw[D7]at h
 refine AB (.q (.r []) (.q (.c .z .z) (.q (.q (.r []) .z) (.r [])))) ?_
 simp(disch:=omega) only[vm,seval,h.1]
 refine⟨AP (γ:=Unit) h [9,10,11,12,13,14,15,16,17,18,19,20,21,22,23,24,25,26,27,28,29,30] [31] (fun j6 g=>[.bool j6]) (fun j6 g=>m) (.r []) ?_ ?_⟩<;>clear h
 rintro j6 _ n9 hnn9 _ _ h
 refine AB (.c (.q (.r []) .z) .z) ?_
 rcases AC h with h|h
 exact tR
 exact tJ (hk5 () ())
 intro k7 Jk7 hk7 h
 obtain⟨y10,h⟩:=AA h
 simp(disch:=omega) only[vm,seval,h.1]
 refine⟨G5 h.1.1 tD fun n11 hn11=>?_⟩
 rcases AC h with h|h
 exact tJ (hk7 false ())
 rcases AC h with h|h
 exact tJ (hk7 true ())
 obtain⟨y12,h⟩:=AA h
 simp(disch:=omega) only[vm,seval,h.1]
 refine⟨CQ h.1.1 tD fun n13 hn13=>?_⟩
 rcases AC h with h|h
 exact tJ (hk7 false ())
 obtain⟨y14,h⟩:=AA h
 simp(disch:=omega) only[vm,seval,h.1]
 refine⟨BR h.1.1 tD fun n15 hn15=>?_⟩
 exact tJ (hk7 (decide (y14<0)) ())
theorem J7 {a0 r} (h:HY N a0=some r) (ha:args=[.str a0]) (hQ: ∀n',n≤n'→Gl (Q (.bool r) ⟨m,n'⟩)):ACall vE 236 args ⟨m,n⟩ Q:=by
 rw[HY]at h
 subst ha
 refine ent hQ Tryz.func236 rfl Tryz.ntmps236 Tryz.results236 (.q (.r []) (.q (.r []) .z)) fun R hR=>?_
 replace h:=And.intro trivial h
 rcases AC h with h|h
 exact tR
 obtain⟨y1,h⟩:=AA h
 simp(disch:=omega) only[vm,seval,h.1]
 refine⟨Gu h.1.1 tD fun n2 hn2=>?_⟩
 exact tR
end Go.Proofs.YtjgdhjpafjpjgaaGreatDoor
