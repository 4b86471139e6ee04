import Derived.Test.YtjgdhjpafjpjgaaGreatDoorVmFacts
import Derived.Test.YtjgdhjpafjpjgaaGreatDoorDefs
import Derived.Test.YtjgdhjpafjpjgaaGreatDoorVM2
import Derived.Test.YtjgdhjpafjpjgaaGreatDoorW1
import Derived.Test.YtjgdhjpafjpjgaaGreatDoorW3
import Derived.Test.YtjgdhjpafjpjgaaGreatDoorW5
set_option linter.unusedVariables false
set_option linter.unusedSimpArgs false
set_option maxHeartbeats 4000000
set_option maxRecDepth 100000
set_option linter.defProp false
namespace Go.Proofs.YtjgdhjpafjpjgaaGreatDoor
open Go.VM
variable{N n:Nat}{m:MS}{Q:PQ}{args:List AVal}
theorem ACf {a0 r}{i0:Nat} (h:MO N a0=some r) (ha:args=[.ptr i0 0]) (hi0:Bo m i0=some ([.slice 1 (List.map (AVal.int .u8) a0.l) false])) (hQ: ∀n',n≤n'→Gl (Q (.str r.1) ⟨CJ m i0 ([.slice 1 (List.map (AVal.int .u8) r.2.l) false]),n'⟩)):ACall vE 30 args ⟨m,n⟩ Q:=by
 rw[MO]at h
 subst ha
 refine ACall.front hi0 fun hin=>ent (fun n' k=>⟨_,rfl,(hQ n' k).go⟩) Tryz.func30 rfl Tryz.ntmps30 Tryz.results30 (.q (.r []) (.q (.r []) (.q (.q (.r []) .z) .z))) fun R hR=>?_
 replace h:=And.intro trivial h
 obtain⟨y1,h⟩:=AA h
 simp(disch:=omega) only[vm,seval,h.1]
 refine⟨AE3 h.1.1 tD (i0:=i0) (by simp(disch:=omega) only[vm,seval,h.1]) fun n2 hn2=>?_⟩
 obtain⟨y3,h⟩:=AA h
 simp(disch:=omega) only[vm,seval,h.1]
 refine⟨Ma h.1.1 tD (i0:=i0) (by simp(disch:=omega) only[vm,seval,h.1]) fun n4 hn4=>?_⟩
 simp(disch:=omega) only[vm,seval,h.1]
 refine⟨AQ (γ:=Unit) h [9,10] [8] (fun j5 g=>[.bool j5]) (fun j5 g=>(i0,[.slice 1 (List.map (AVal.int .u8) y3.2.l) false])::DW m i0) (.q (.r []) (.c .z (.r []))) ?_ ?_⟩<;>clear h
 rintro j5 _ n8 hnn8 _ _ h
 refine AB (.c (.q (.r []) .z) (.q (.r []) (.c (.q (.r []) .z) (.q (.r []) (.c (.q (.r []) .z) .z))))) ?_
 rcases AC h with h|h
 refine L6 h ?_
 clear h
 intro l9 c h
 replace c:=congrArg (List.map AVal.str) c
 simp only[List.map_cons,List.map_nil,eE]at c
 replace h:=AP c h
 obtain⟨y10,h⟩:=AA h
 simp(disch:=omega) only[vm,seval,h.1]
 refine⟨EK h.1.1 tD (i0:=i0) (by simp(disch:=omega) only[vm,seval,h.1]) fun n11 hn11=>?_⟩
 refine L6 h ?_
 clear h
 intro l12 c h
 replace c:=congrArg (List.map AVal.str) c
 simp only[List.map_cons,List.map_nil,eE]at c
 replace h:=AP c h
 obtain⟨y13,h⟩:=AA h
 simp(disch:=omega) only[vm,seval,h.1]
 refine⟨EK h.1.1 tD (i0:=i0) (by simp(disch:=omega) only[vm,seval,h.1]) fun n14 hn14=>?_⟩
 obtain⟨c,h⟩:=AR h
 try simp only[liE,seval]at c
 replace h:=AP c h
 obtain⟨c,h⟩:=AR h
 try simp only[liE,seval]at c
 replace h:=AP c h
 refine L6 h ?_
 clear h
 intro l15 c h
 replace c:=congrArg (List.map AVal.str) c
 simp only[List.map_cons,List.map_nil,eE]at c
 replace h:=AP c h
 obtain⟨y16,h⟩:=AA h
 simp(disch:=omega) only[vm,seval,h.1]
 refine⟨EK h.1.1 tD (i0:=i0) (by simp(disch:=omega) only[vm,seval,h.1]) fun n17 hn17=>?_⟩
 obtain⟨c,h⟩:=AR h
 try simp only[liE,seval]at c
 replace h:=AP c h
 exact tR
 rcases AC h with h|h
 refine L6 h ?_
 clear h
 intro l18 c h
 replace c:=congrArg (List.map AVal.str) c
 simp only[List.map_cons,List.map_nil,eE]at c
 replace h:=AP c h
 obtain⟨y19,h⟩:=AA h
 simp(disch:=omega) only[vm,seval,h.1]
 refine⟨EK h.1.1 tD (i0:=i0) (by simp(disch:=omega) only[vm,seval,h.1]) fun n20 hn20=>?_⟩
 obtain⟨c,h⟩:=AR h
 try simp only[liE,seval]at c
 replace h:=AP c h
 obtain⟨c,h⟩:=AR h
 try simp only[liE,seval]at c
 replace h:=AP c h
 refine L6 h ?_
 clear h
 intro l21 c h
 replace c:=congrArg (List.map AVal.str) c
 simp only[List.map_cons,List.map_nil,eE]at c
 replace h:=AP c h
 obtain⟨y22,h⟩:=AA h
 simp(disch:=omega) only[vm,seval,h.1]
 refine⟨EK h.1.1 tD (i0:=i0) (by simp(disch:=omega) only[vm,seval,h.1]) fun n23 hn23=>?_⟩
 obtain⟨c,h⟩:=AR h
 try simp only[liE,seval]at c
 replace h:=AP c h
 exact tR
 rcases AC h with h|h
 obtain⟨c,h⟩:=AR h
 try simp only[liE,seval]at c
 replace h:=AP c h
 refine L6 h ?_
 clear h
 intro l24 c h
 replace c:=congrArg (List.map AVal.str) c
 simp only[List.map_cons,List.map_nil,eE]at c
 replace h:=AP c h
 obtain⟨y25,h⟩:=AA h
 simp(disch:=omega) only[vm,seval,h.1]
 refine⟨EK h.1.1 tD (i0:=i0) (by simp(disch:=omega) only[vm,seval,h.1]) fun n26 hn26=>?_⟩
 obtain⟨c,h⟩:=AR h
 try simp only[liE,seval]at c
 replace h:=AP c h
 exact tR
 simp(disch:=omega) only[vm,seval,h.1]
 refine⟨AQ (γ:=Unit) h [42,43] [3] (fun j27 g=>[.str j27]) (fun j27 g=>(i0,[.slice 1 (List.map (AVal.int .u8) y3.2.l) false])::DW m i0) (.q (.r []) (.c (.r []) .z)) ?_ ?_⟩<;>clear h
 rintro j27 _ n30 hnn30 _ _ h
 refine AB (.q (.r []) .z) ?_
 obtain⟨c,h⟩:=AR h
 try simp only[liE,seval]at c
 replace h:=AP c h
 refine L6 h ?_
 clear h
 intro l31 c h
 replace c:=congrArg (List.map AVal.str) c
 simp only[List.map_cons,List.map_nil,eE]at c
 replace h:=AP c h
 obtain⟨y32,h⟩:=AA h
 simp(disch:=omega) only[vm,seval,h.1]
 refine⟨EK h.1.1 tD (i0:=i0) (by simp(disch:=omega) only[vm,seval,h.1]) fun n33 hn33=>?_⟩
 obtain⟨c,h⟩:=AR h
 try simp only[liE,seval]at c
 replace h:=AP c h
 exact tR
 intro k28 Jk28 hk28 h
 rcases AC h with h|h
 exact tJ (hk28 ([99,46,101,120,97,109,112,108,101,37,51,65,56,52,52,51]:List UInt8) ())
 exact tJ (hk28 y1.1 ())
 intro k6 Jk6 hk6 h
 rcases AC h with h|h
 exact tJ (hk6 (y3.1==0) ())
 exact tJ (hk6 (y3.1==1) ())
end Go.Proofs.YtjgdhjpafjpjgaaGreatDoor
