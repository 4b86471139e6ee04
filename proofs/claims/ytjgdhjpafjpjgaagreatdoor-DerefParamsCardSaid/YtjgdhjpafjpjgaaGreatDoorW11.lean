import Derived.Test.YtjgdhjpafjpjgaaGreatDoorVmFacts
import Derived.Test.YtjgdhjpafjpjgaaGreatDoorDefs
import Derived.Test.YtjgdhjpafjpjgaaGreatDoorVM2
import Derived.Test.YtjgdhjpafjpjgaaGreatDoorW0
import Derived.Test.YtjgdhjpafjpjgaaGreatDoorW1
import Derived.Test.YtjgdhjpafjpjgaaGreatDoorW2
import Derived.Test.YtjgdhjpafjpjgaaGreatDoorW4
import Derived.Test.YtjgdhjpafjpjgaaGreatDoorW6
import Derived.Test.YtjgdhjpafjpjgaaGreatDoorW8
import Derived.Test.YtjgdhjpafjpjgaaGreatDoorW10
set_option linter.unusedVariables false
set_option linter.unusedSimpArgs false
set_option maxHeartbeats 4000000
set_option maxRecDepth 100000
set_option linter.defProp false
namespace Go.Proofs.YtjgdhjpafjpjgaaGreatDoor
open Go.VM
variable{N n:Nat}{m:MS}{Q:PQ}{args:List AVal}
theorem Ta {a0 a1 r} (h:LG N a0 a1=some r) (ha:args=[.str a0,.int .i64 a1]) (hQ: ∀n',n≤n'→Gl (Q (.tuple [Fx r.1,.int .i64 r.2.1,.int .i64 r.2.2]) ⟨m,n'⟩)):ACall vE 96 args ⟨m,n⟩ Q:=by
 rw[LG]at h
 subst ha
 refine ent hQ Tryz.func96 rfl Tryz.ntmps96 Tryz.results96 (.q (.r []) (.q .z .z)) fun R hR=>?_
 replace h:=And.intro trivial h
 simp(disch:=omega) only[vm,seval,h.1]
 refine⟨AP (γ:=Unit) h [14,15,16,17,18,19,20] [21] (fun j1 g=>[.bool j1]) (fun j1 g=>(n,[.int .i64 0,.str [],.int .i64 0])::m) (.r []) ?_ ?_⟩<;>clear h
 rintro j1 _ n4 hnn4 _ _ h
 refine AB (.c (.q (.r []) .z) .z) ?_
 rcases AC h with h|h
 exact tR
 simp(disch:=omega) only[vm,seval,h.1]
 refine⟨AP (γ:=Unit) h [23,24,25,26,27,28,29,30,31,32,33,34] [1] (fun j5 g=>[.int .i64 j5]) (fun j5 g=>(n,[.int .i64 0,.str [],.int .i64 0])::m) .z ?_ ?_⟩<;>clear h
 rintro j5 _ n8 hnn8 _ _ h
 refine AB (.q (.q (.r []) (.c (.q (.r []) .z) .z)) (.q (.q (.r []) (.q (.r []) (.c (.q (.r []) .z) (.q (.r []) (.c (.q (.r []) (.q (.q (.r []) (.c (.q (.r []) .z) .z)) (.q (.r []) .z))) .z))))) (.q (.r []) .z))) ?_
 rcases AC h with h|h
 exact tR
 obtain⟨x17,h⟩:=AA h
 obtain⟨y18,h⟩:=AA h
 simp(disch:=omega) only[vm,seval,h.1]
 refine⟨Gb h.1.1 tD fun n19 hn19=>?_⟩
 rcases AC h with h|h
 obtain⟨x20,h⟩:=AA h
 exact tR
 rcases AC h with h|h
 obtain⟨y21,h⟩:=AA h
 simp(disch:=omega) only[vm,seval,h.1]
 refine⟨Qm h.1.1 tD fun n22 hn22=>?_⟩
 rcases AC h with h|h
 exact tR
 exact tR
 simp(disch:=omega) only[vm,seval,h.1]
 refine⟨AP (γ:=Unit) h [76,77,78,79,80,81] [75] (fun j23 g=>[.bool j23]) (fun j23 g=>(n,[.int .i64 0,.str [],.int .i64 0])::m) (.r []) ?_ ?_⟩<;>clear h
 rintro j23 _ n26 hnn26 _ _ h
 refine AB (.c (.q (.r []) (.q (.q (.r []) (.c (.q (.r []) .z) .z)) (.q (.r []) .z))) .z) ?_
 rcases AC h with h|h
 obtain⟨x29,h⟩:=AA h
 obtain⟨y30,h⟩:=AA h
 simp(disch:=omega) only[vm,seval,h.1]
 refine⟨Je h.1.1 tD fun n31 hn31=>?_⟩
 rcases AC h with h|h
 exact tR
 obtain⟨x32,h⟩:=AA h
 exact tR
 simp(disch:=omega) only[vm,seval,h.1]
 refine⟨AP (γ:=Unit) h [100,101,102,103,104,105,106,107,108,109,110,111,112,113,114,115] [12] (fun j33 g=>[.int .i64 j33]) (fun j33 g=>(n,[.int .i64 0,.str [],.int .i64 0])::m) .z ?_ ?_⟩<;>clear h
 rintro j33 _ n36 hnn36 _ _ h
 refine AB (.q (.q (.r []) .z) (.q (.r []) .z)) ?_
 obtain⟨x45,h⟩:=AA h
 simp(disch:=omega) only[vm,seval,h.1]
 refine⟨AP (γ:=Unit) h [122,123,124,125,126,127,128,129,130] [131] (fun j46 g=>[.bool j46]) (fun j46 g=>(n,[.int .i64 0,.str [],.int .i64 0])::m) (.r []) ?_ ?_⟩<;>clear h
 rintro j46 _ n49 hnn49 _ _ h
 refine AB (.c (.q (.r []) .z) .z) ?_
 rcases AC h with h|h
 exact tR
 exact tR
 intro k47 Jk47 hk47 h
 rcases AC h with h|h
 exact tJ (hk47 true ())
 rcases AC h with h|h
 exact tJ (hk47 true ())
 exact tJ (hk47 (x45==([110,117,108,108]:List UInt8)) ())
 intro k34 Jk34 hk34 h
 simp(disch:=omega) only[vm,seval,h.1]
 refine⟨E8 (σ:=Int) (γ:=Unit) (fun k s=>FU N a0 j5 k34 k s) (fun s g=>[.int .i64 s]) (fun s g=>(n,[.int .i64 0,.str [],.int .i64 0])::m) [100,101,102,103,104,105,106,107,108,109,110,111,112,113,114,115] [12] 0 () h (fun _=>rfl) tD tD ?_⟩
 clear h
 rintro k37 s12 _ nL1_1 hnL1_1 _ h Jk37 hk37
 change _∧FU N a0 j5 k34 (k37+1) s12=_ at h
 rw[FU]at h
 refine AB (.q .z (.r [])) ?_
 simp(disch:=omega) only[vm,seval,h.1]
 refine⟨AP (γ:=Unit) h [100,101,102,103,104,105,106,107,108,109,110,111,112] [113] (fun j38 g=>[.bool j38]) (fun j38 g=>(n,[.int .i64 0,.str [],.int .i64 0])::m) (.r []) ?_ ?_⟩<;>clear h
 rintro j38 _ n41 hnn41 _ _ h
 refine AB (.c .z .z) ?_
 rcases AC h with h|h
 exact tJ (hk37 (wr .i64 (s12+1)) ())
 exact tJ (hk34 s12 ())
 intro k39 Jk39 hk39 h
 rcases AC h with h|h
 obtain⟨x42,h⟩:=AA h
 obtain⟨y43,h⟩:=AA h
 simp(disch:=omega) only[vm,seval,h.1]
 refine⟨NG h.1.1 tD fun n44 hn44=>?_⟩
 exact tJ (hk39 y43 ())
 exact tJ (hk39 false ())
 intro k24 Jk24 hk24 h
 rcases AC h with h|h
 exact tJ (hk24 true ())
 obtain⟨y27,h⟩:=AA h
 simp(disch:=omega) only[vm,seval,h.1]
 refine⟨EZ h.1.1 tD fun n28 hn28=>?_⟩
 exact tJ (hk24 y27 ())
 intro k6 Jk6 hk6 h
 simp(disch:=omega) only[vm,seval,h.1]
 refine⟨E8 (σ:=Int) (γ:=Unit) (fun k s=>FP N a0 k6 k s) (fun s g=>[.int .i64 s]) (fun s g=>(n,[.int .i64 0,.str [],.int .i64 0])::m) [23,24,25,26,27,28,29,30,31,32,33,34] [1] a1 () h (fun _=>rfl) tD tD ?_⟩
 clear h
 rintro k9 s1 _ nL0_1 hnL0_1 _ h Jk9 hk9
 change _∧FP N a0 k6 (k9+1) s1=_ at h
 rw[FP]at h
 refine AB (.q .z (.r [])) ?_
 simp(disch:=omega) only[vm,seval,h.1]
 refine⟨AP (γ:=Unit) h [23,24,25,26,27,28,29,30,31] [32] (fun j10 g=>[.bool j10]) (fun j10 g=>(n,[.int .i64 0,.str [],.int .i64 0])::m) (.r []) ?_ ?_⟩<;>clear h
 rintro j10 _ n13 hnn13 _ _ h
 refine AB (.c .z .z) ?_
 rcases AC h with h|h
 exact tJ (hk9 (wr .i64 (s1+1)) ())
 exact tJ (hk6 s1 ())
 intro k11 Jk11 hk11 h
 rcases AC h with h|h
 obtain⟨x14,h⟩:=AA h
 obtain⟨y15,h⟩:=AA h
 simp(disch:=omega) only[vm,seval,h.1]
 refine⟨Oq h.1.1 tD fun n16 hn16=>?_⟩
 exact tJ (hk11 y15 ())
 exact tJ (hk11 false ())
 intro k2 Jk2 hk2 h
 rcases AC h with h|h
 exact tJ (hk2 true ())
 exact tJ (hk2 (decide (a1>(a0.length:Int))) ())
theorem KF {a0 r} (h:Hl N a0=some r) (ha:args=[.str a0]) (hQ: ∀n',n≤n'→Gl (Q (.tuple [KU r.1,.int .i64 r.2]) ⟨m,n'⟩)):ACall vE 97 args ⟨m,n⟩ Q:=by
 rw[Hl]at h
 subst ha
 refine ent hQ Tryz.func97 rfl Tryz.ntmps97 Tryz.results97 (.q (.r []) (.q (.q (.r []) (.c (.q (.r []) .z) .z)) (.q (.r []) (.q (.q (.r []) (.c (.q (.r []) .z) .z)) (.q (.r []) (.q (.q (.r []) (.c (.q (.r []) .z) (.q (.r []) (.c (.q (.r []) .z) .z)))) (.q (.r []) (.q (.q (.r []) (.c (.q (.r []) .z) .z)) (.q (.r []) .z))))))))) fun R hR=>?_
 replace h:=And.intro trivial h
 rcases AC h with h|h
 exact tR
 obtain⟨y1,h⟩:=AA h
 simp(disch:=omega) only[vm,seval,h.1]
 refine⟨G6 h.1.1 tD fun n2 hn2=>?_⟩
 rcases AC h with h|h
 obtain⟨y3,h⟩:=AA h
 simp(disch:=omega) only[vm,seval,h.1]
 refine⟨DV h.1.1 tD fun n4 hn4=>?_⟩
 rcases AC h with h|h
 obtain⟨y5,h⟩:=AA h
 simp(disch:=omega) only[vm,seval,h.1]
 refine⟨VB h.1.1 tD fun n6 hn6=>?_⟩
 rcases AC h with h|h
 obtain⟨y7,h⟩:=AA h
 simp(disch:=omega) only[vm,seval,h.1]
 refine⟨NI h.1.1 tD fun n8 hn8=>?_⟩
 rcases AC h with h|h
 exact tR
 simp(disch:=omega) only[vm,seval,h.1]
 refine⟨AP (γ:=Unit) h [47,48,49,50,51,52] [46] (fun j9 g=>[.bool j9]) (fun j9 g=>(n,[.str [],.str []])::m) (.r []) ?_ ?_⟩<;>clear h
 rintro j9 _ n12 hnn12 _ _ h
 refine AB (.c (.q (.r []) .z) .z) ?_
 rcases AC h with h|h
 exact tR
 exact tR
 intro k10 Jk10 hk10 h
 rcases AC h with h|h
 exact tJ (hk10 true ())
 obtain⟨y13,h⟩:=AA h
 simp(disch:=omega) only[vm,seval,h.1]
 refine⟨Ke h.1.1 tD fun n14 hn14=>?_⟩
 exact tJ (hk10 y13 ())
 exact tR
 exact tR
 exact tR
theorem Y8 {a0 r} (h:Mk N a0=some r) (ha:args=[.str a0]) (hQ: ∀n',n≤n'→Gl (Q (.tuple [.str r.1,.int .i64 r.2]) ⟨m,n'⟩)):ACall vE 162 args ⟨m,n⟩ Q:=by
 rw[Mk]at h
 subst ha
 refine ent hQ Tryz.func162 rfl Tryz.ntmps162 Tryz.results162 (.q (.r []) (.q (.q (.r []) (.c (.q (.r []) .z) (.q (.r []) (.c (.q (.r []) .z) .z)))) (.q (.r []) .z))) fun R hR=>?_
 replace h:=And.intro trivial h
 rcases AC h with h|h
 exact tR
 rcases AC h with h|h
 exact tR
 simp(disch:=omega) only[vm,seval,h.1]
 refine⟨AP (γ:=Unit) h [12,13,14,15,16,17,18,19] [11] (fun j1 g=>[.bool j1]) (fun j1 g=>m) (.r []) ?_ ?_⟩<;>clear h
 rintro j1 _ n4 hnn4 _ _ h
 refine AB (.c (.q (.r []) .z) .z) ?_
 rcases AC h with h|h
 exact tR
 obtain⟨y9,h⟩:=AA h
 simp(disch:=omega) only[vm,seval,h.1]
 refine⟨Ii h.1.1 tD fun n10 hn10=>?_⟩
 exact tR
 intro k2 Jk2 hk2 h
 obtain⟨y5,h⟩:=AA h
 simp(disch:=omega) only[vm,seval,h.1]
 refine⟨O4 h.1.1 tD fun n6 hn6=>?_⟩
 rcases AC h with h|h
 exact tJ (hk2 false ())
 obtain⟨y7,h⟩:=AA h
 simp(disch:=omega) only[vm,seval,h.1]
 refine⟨Ym h.1.1 tD fun n8 hn8=>?_⟩
 exact tJ (hk2 (!y7) ())
end Go.Proofs.YtjgdhjpafjpjgaaGreatDoor
