import Derived.Test.YtjgdhjpafjpjgaaGreatDoorVmFacts
import Derived.Test.YtjgdhjpafjpjgaaGreatDoorDefs
import Derived.Test.YtjgdhjpafjpjgaaGreatDoorVM2
import Derived.Test.YtjgdhjpafjpjgaaGreatDoorW0
import Derived.Test.YtjgdhjpafjpjgaaGreatDoorW1
set_option linter.unusedVariables false
set_option linter.unusedSimpArgs false
set_option maxHeartbeats 4000000
set_option maxRecDepth 100000
set_option linter.defProp false
namespace Go.Proofs.YtjgdhjpafjpjgaaGreatDoor
open Go.VM
variable{N n:Nat}{m:MS}{Q:PQ}{args:List AVal}
theorem VW {a0 r} (h:K4 N a0=some r) (ha:args=[.str a0]) (hQ: ∀n',n≤n'→Gl (Q (.bool r) ⟨m,n'⟩)):ACall vE 235 args ⟨m,n⟩ Q:=by
 rw[K4]at h
 subst ha
 refine ent hQ Tryz.func235 rfl Tryz.ntmps235 Tryz.results235 (.q (.r []) (.q .z .z)) fun R hR=>?_
 replace h:=And.intro trivial h
 simp(disch:=omega) only[vm,seval,h.1]
 refine⟨AP (γ:=Unit) h [4,5,6,7,8,9,10,11,12,13,14,15,16,17,18,19,20,21,22] [23] (fun j1 g=>[.bool j1]) (fun j1 g=>m) (.r []) ?_ ?_⟩<;>clear h
 rintro j1 _ n4 hnn4 _ _ h
 refine AB (.c (.q (.r []) .z) .z) ?_
 rcases AC h with h|h
 exact tR
 simp(disch:=omega) only[vm,seval,h.1]
 refine⟨AP (γ:=Unit) h [2,3,24,25,26,27,28,29,30,31,32,33,34,35,36,37,38,39,40,41,42,43,44,45,46,47] [] (fun j7 g=>[]) (fun j7 g=>m) (.q (.r []) .z) ?_ ?_⟩<;>clear h
 rintro j7 _ n10 hnn10 _ _ h
 refine AB (.q (.r []) .z) ?_
 exact tR
 intro k8 Jk8 hk8 h
 obtain⟨hfk11,h⟩:=AU h
 simp(disch:=omega) only[vm,seval,h.1]
 refine⟨C9 (σ:=Unit) (γ:=Unit) a0 hfk11 (fun xs i s=>D8 N k8 xs) (fun i s g=>[.int .i64 i]) (fun i s g=>m) [2,3,27,28,29,30,31,32,33,34,35,36,37,38,39,40,41,42,43,44,45,46,47] [26] () () h tD tD ?_ ?_⟩<;>clear h
 rintro s26 _ _ nL0_1 hnL0_1 _ h
 change _∧D8 N k8 []=_ at h
 rw[D8]at h
 refine AB (.q (.r []) (.q (.c .z .z) (.q (.q (.r []) .z) (.r [])))) ?_
 exact tJ (hk8 () ())
 rintro xk11 xsk11 s26 _ _ nL0_1 hnL0_1 _ h Jk11 hk11
 change _∧D8 N k8 (xk11::xsk11)=_ at h
 rw[D8]at h
 refine AB (.q (.r []) (.q (.c .z .z) (.q (.q (.r []) .z) (.r [])))) ?_
 simp(disch:=omega) only[vm,seval,h.1]
 refine⟨AP (γ:=Unit) h [29,30,31,32,33,34,35,36,37,38,39,40,41,42,43,44,45] [46] (fun j12 g=>[.bool j12]) (fun j12 g=>m) (.r []) ?_ ?_⟩<;>clear h
 rintro j12 _ n15 hnn15 _ _ h
 refine AB (.c (.q (.r []) .z) .z) ?_
 rcases AC h with h|h
 exact tR
 exact tJ (hk11 () ())
 intro k13 Jk13 hk13 h
 obtain⟨y16,h⟩:=AA h
 simp(disch:=omega) only[vm,seval,h.1]
 refine⟨G5 h.1.1 tD fun n17 hn17=>?_⟩
 rcases AC h with h|h
 exact tJ (hk13 false ())
 obtain⟨y18,h⟩:=AA h
 simp(disch:=omega) only[vm,seval,h.1]
 refine⟨CQ h.1.1 tD fun n19 hn19=>?_⟩
 rcases AC h with h|h
 exact tJ (hk13 false ())
 exact tJ (hk13 ((AV xk11) !=45) ())
 intro k2 Jk2 hk2 h
 rcases AC h with h|h
 exact tJ (hk2 true ())
 rcases AC h with h|h
 exact tJ (hk2 true ())
 obtain⟨x5,h⟩:=AA h
 rcases AC h with h|h
 exact tJ (hk2 true ())
 obtain⟨x6,h⟩:=AA h
 exact tJ (hk2 ((AV x6)==45) ())
theorem Fz {a0 a1 r} (h:Cn N a0 a1=some r) (ha:args=[.str a0,.str a1]) (hQ: ∀n',n≤n'→Gl (Q (.str r) ⟨m,n'⟩)):ACall vE 212 args ⟨m,n⟩ Q:=by
 rw[Cn]at h
 subst ha
 refine ent hQ Tryz.func212 rfl Tryz.ntmps212 Tryz.results212 (.q (.r []) (.q (.q (.r []) (.c (.q (.r []) .z) .z)) (.q (.r []) .z))) fun R hR=>?_
 replace h:=And.intro trivial h
 obtain⟨y1,h⟩:=AA h
 simp(disch:=omega) only[vm,seval,h.1]
 refine⟨Ce h.1.1 tD fun n2 hn2=>?_⟩
 rcases AC h with h|h
 obtain⟨x3,h⟩:=AA h
 exact tR
 exact tR
theorem Fu {a0 a1 r} (h:strings_LastIndexByte N a0 a1=some r) (ha:args=[.str a0,.int .u8 a1]) (hQ: ∀n',n≤n'→Gl (Q (.int .i64 r) ⟨m,n'⟩)):ACall vE 166 args ⟨m,n⟩ Q:=by
 rw[strings_LastIndexByte]at h
 subst ha
 refine ent hQ Tryz.func166 rfl Tryz.ntmps166 Tryz.results166 (.q (.r []) (.q (.r []) .z)) fun R hR=>?_
 replace h:=And.intro trivial h
 obtain⟨y1,h⟩:=AA h
 simp(disch:=omega) only[vm,seval,h.1]
 refine⟨Ex h.1.1 tD fun n2 hn2=>?_⟩
 exact tR
end Go.Proofs.YtjgdhjpafjpjgaaGreatDoor
