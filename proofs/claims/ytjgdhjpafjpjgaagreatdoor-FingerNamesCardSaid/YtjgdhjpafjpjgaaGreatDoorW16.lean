import Derived.Test.YtjgdhjpafjpjgaaGreatDoorVmFacts
import Derived.Test.YtjgdhjpafjpjgaaGreatDoorDefs
import Derived.Test.YtjgdhjpafjpjgaaGreatDoorVM2
import Derived.Test.YtjgdhjpafjpjgaaGreatDoorW0
import Derived.Test.YtjgdhjpafjpjgaaGreatDoorW1
import Derived.Test.YtjgdhjpafjpjgaaGreatDoorW9
import Derived.Test.YtjgdhjpafjpjgaaGreatDoorW10
import Derived.Test.YtjgdhjpafjpjgaaGreatDoorW12
import Derived.Test.YtjgdhjpafjpjgaaGreatDoorW13
import Derived.Test.YtjgdhjpafjpjgaaGreatDoorW15
set_option linter.unusedVariables false
set_option linter.unusedSimpArgs false
set_option maxHeartbeats 4000000
set_option maxRecDepth 100000
set_option linter.defProp false
namespace Go.Proofs.YtjgdhjpafjpjgaaGreatDoor
open Go.VM
variable{N n:Nat}{m:MS}{Q:PQ}{args:List AVal}
theorem RA {a0 r} (h:Gr N a0=some r) (ha:args=[Dt a0]) (hQ: ∀n',n≤n'→Gl (Q (.tuple [EF r.1,.int .i64 r.2]) ⟨m,n'⟩)):ACall vE 258 args ⟨m,n⟩ Q:=by
 rw[Gr]at h
 subst ha
 refine ent hQ Tryz.func258 rfl Tryz.ntmps258 Tryz.results258 (.q (.r []) (.q (.q (.r []) (.c (.q (.r []) .z) .z)) (.q (.r []) (.q .z (.q (.q (.r []) (.c (.q (.r []) .z) .z)) (.q (.r []) .z)))))) fun R hR=>?_
 replace h:=And.intro trivial h
 obtain⟨y1,h⟩:=AA h
 simp(disch:=omega) only[vm,seval,h.1]
 refine⟨TS h.1.1 tD fun n2 hn2=>?_⟩
 rcases AC h with h|h
 obtain⟨y3,h⟩:=AA h
 simp(disch:=omega) only[vm,seval,h.1]
 refine⟨KJ h.1.1 tD fun n4 hn4=>?_⟩
 obtain⟨x5,h⟩:=AA h
 simp(disch:=omega) only[vm,seval,h.1]
 refine⟨AQ (γ:=Unit) h [15,16,17,18,19,20,21,22,23,24,25,26,27,28] [29] (fun j6 g=>[.bool j6]) (fun j6 g=>((n+1),[.str [],.str []])::(n,[.str a0.host,.int .i64 a0.port,.str a0.path,.str a0.query,.str a0.fragment,.bool a0.hasQuery,.bool a0.hasFrag])::m) (.r []) ?_ ?_⟩<;>clear h
 rintro j6 _ n9 hnn9 _ _ h
 refine AB (.c (.q (.r []) .z) .z) ?_
 rcases AC h with h|h
 exact tR
 rcases AC h with h|h
 exact tR
 simp(disch:=omega) only[vm,seval,h.1]
 refine⟨AQ (γ:=Unit) h [38,39,40,41,42,43,44,45,46,47,48,49] [] (fun j11 g=>[]) (fun j11 g=>(n9,[.str ([119,101,98]:List UInt8),.str j11])::((n+1),[.str [],.str []])::(n,[.str a0.host,.int .i64 a0.port,.str a0.path,.str a0.query,.str a0.fragment,.bool a0.hasQuery,.bool a0.hasFrag])::m) (.q (.r []) (.c .z .z)) ?_ ?_⟩<;>clear h
 rintro j11 _ n14 hnn14 _ _ h
 refine AB .z ?_
 simp(disch:=omega) only[vm,seval,h.1]
 refine⟨AQ (γ:=Unit) h [3,6,50,51,52,53,54,55,56,57,58,59,60,61,62,63,64,65,66,67,68,69] [] (fun j17 g=>[]) (fun j17 g=>(n9,[.str ([119,101,98]:List UInt8),.str j17])::((n+1),[.str [],.str []])::(n,[.str a0.host,.int .i64 a0.port,.str a0.path,.str a0.query,.str a0.fragment,.bool a0.hasQuery,.bool a0.hasFrag])::m) (.q (.r []) (.c (.q (.r []) (.q .z (.q (.r []) (.c (.q .z .z) .z)))) .z)) ?_ ?_⟩<;>clear h
 rintro j17 _ n20 hnn20 _ _ h
 refine AB (.q (.q (.r []) (.c (.q (.r []) .z) .z)) (.q (.r []) .z)) ?_
 obtain⟨y24,h⟩:=AA h
 simp(disch:=omega) only[vm,seval,h.1]
 refine⟨KL h.1.1 tD fun n25 hn25=>?_⟩
 rcases AC h with h|h
 exact tR
 exact tR
 intro k18 Jk18 hk18 h
 rcases AC h with h|h
 exact tJ (hk18 j11 ())
 obtain⟨x21,h⟩:=AA h
 obtain⟨y22,h⟩:=AA h
 have cy22:=h.1.1
 obtain⟨c,h⟩:=AR h
 try simp only[liE,seval]at c
 replace h:=AP c h
 simp(disch:=omega) only[vm,seval,h.1]
 refine⟨BI [] (.take 0 (.take 1 (.take 2 (.take 3 (.take 4 (.take 5 (.take 6 (.take 7 (.alt 8 [5,4,3,2,1,0] (.take 9 (.take 10 (.alt 11 [] (.done) (.stop)))) (.stop)))))))))) Au (by kernel_rfl) ?_⟩
 simp(disch:=omega) only[vm,seval,h.1]
 refine⟨I5 cy22 tD (i1_0:=n14) (by simp(disch:=omega) only[vm,seval,h.1]) fun n23 hn23=>?_⟩
 rcases AC h with h|h
 simp(disch:=omega) only[vm,seval,h.1]
 refine⟨BI [] (.take 1 (.take 2 (.alt 0 [2,1] (.alt 3 [2,1] (.alt 4 [] (.done) (.stop)) (.stop)) (.stop)))) Au (by kernel_rfl) ?_⟩
 exact tR
 exact tJ (hk18 (j11++y22.1) ())
 intro k12 Jk12 hk12 h
 rcases AC h with h|h
 obtain⟨y15,h⟩:=AA h
 have cy15:=h.1.1
 obtain⟨c,h⟩:=AR h
 try simp only[liE,seval]at c
 replace h:=AP c h
 obtain⟨c,h⟩:=AR h
 try simp only[liE,seval]at c
 replace h:=AP c h
 simp(disch:=omega) only[vm,seval,h.1]
 refine⟨BI [] (.take 0 (.take 1 (.take 2 (.take 3 (.take 4 (.alt 5 [3,2,1,0] (.take 6 (.take 7 (.take 8 (.alt 9 [] (.done) (.stop))))) (.stop))))))) Au (by kernel_rfl) ?_⟩
 simp(disch:=omega) only[vm,seval,h.1]
 refine⟨KH cy15 tD fun n16 hn16=>?_⟩
 exact tJ (hk12 (a0.host++(([37,51,65]:List UInt8)++y15)) ())
 exact tJ (hk12 a0.host ())
 intro k7 Jk7 hk7 h
 rcases AC h with h|h
 exact tJ (hk7 true ())
 rcases AC h with h|h
 exact tJ (hk7 true ())
 obtain⟨x10,h⟩:=AA h
 exact tJ (hk7 (!(x10==([100,105,100,46,106,115,111,110]:List UInt8))) ())
 exact tR
theorem Qi {a0 r} (h:GK N a0=some r) (ha:args=[.str a0]) (hQ: ∀n',n≤n'→Gl (Q (.tuple [A9 r.1,.int .i64 r.2]) ⟨m,n'⟩)):ACall vE 72 args ⟨m,n⟩ Q:=by
 rw[GK]at h
 subst ha
 refine ent hQ Tryz.func72 rfl Tryz.ntmps72 Tryz.results72 (.q (.r []) (.q (.r []) (.q (.q (.r []) (.c (.q (.r []) .z) .z)) (.q (.r []) (.q (.q (.r []) (.c (.q (.r []) .z) .z)) (.q (.r []) (.q .z .z))))))) fun R hR=>?_
 replace h:=And.intro trivial h
 obtain⟨y1,h⟩:=AA h
 simp(disch:=omega) only[vm,seval,h.1]
 refine⟨MC h.1.1 tD fun n2 hn2=>?_⟩
 rcases AC h with h|h
 exact tR
 obtain⟨y3,h⟩:=AA h
 simp(disch:=omega) only[vm,seval,h.1]
 refine⟨Qh h.1.1 tD fun n4 hn4=>?_⟩
 rcases AC h with h|h
 exact tR
 obtain⟨y5,h⟩:=AA h
 simp(disch:=omega) only[vm,seval,h.1]
 refine⟨QQ h.1.1 tD fun n6 hn6=>?_⟩
 obtain⟨y7,h⟩:=AA h
 have cy7:=h.1.1
 simp(disch:=omega) only[vm,seval,h.1]
 refine⟨BI [] (.take 0 (.take 2 (.take 3 (.take 4 (.take 5 (.alt 1 [5,4,3,2] (.alt 6 [4,2,0] (.alt 7 [] (.alt 8 [] (.done) (.stop)) (.stop)) (.stop)) (.stop))))))) Au (by kernel_rfl) ?_⟩
 simp(disch:=omega) only[vm,seval,h.1]
 refine⟨JE cy7 tD fun n8 hn8=>?_⟩
 exact tR
end Go.Proofs.YtjgdhjpafjpjgaaGreatDoor
