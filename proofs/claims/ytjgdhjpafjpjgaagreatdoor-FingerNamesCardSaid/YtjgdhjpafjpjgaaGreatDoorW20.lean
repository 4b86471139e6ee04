import Derived.Test.YtjgdhjpafjpjgaaGreatDoorVmFacts
import Derived.Test.YtjgdhjpafjpjgaaGreatDoorDefs
import Derived.Test.YtjgdhjpafjpjgaaGreatDoorVM2
import Derived.Test.YtjgdhjpafjpjgaaGreatDoorW3
import Derived.Test.YtjgdhjpafjpjgaaGreatDoorW19
set_option linter.unusedVariables false
set_option linter.unusedSimpArgs false
set_option maxHeartbeats 4000000
set_option maxRecDepth 100000
set_option linter.defProp false
namespace Go.Proofs.YtjgdhjpafjpjgaaGreatDoor
open Go.VM
variable{N n:Nat}{m:MS}{Q:PQ}{args:List AVal}
theorem Ud {a0 r} (h:NV N a0=some r) (ha:args=[A9 a0]) (hQ: ∀n',n≤n'→Gl (Q (.bool r) ⟨m,n'⟩)):ACall vE 76 args ⟨m,n⟩ Q:=by
 rw[NV]at h
 subst ha
 refine ent hQ Tryz.func76 rfl Tryz.ntmps76 Tryz.results76 (.q (.r []) (.q (.r []) (.q (.r []) .z))) fun R hR=>?_
 replace h:=And.intro trivial h
 obtain⟨y1,h⟩:=AA h
 simp(disch:=omega) only[vm,seval,h.1]
 refine⟨O0 h.1.1 tD fun n2 hn2=>?_⟩
 rcases AC h with h|h
 exact tR
 exact tR
theorem AHJ {a0 a1 a2 r} (h:MP N a0 a1 a2=some r) (ha:args=[A9 a0,.int .i64 a1,.slice 1 (List.map (fun l=>AVal.slice 1 (List.map AVal.str l) false) a2) false]) (hQ: ∀n',n≤n'→Gl (Q (.slice 4 (List.map A9 r) false) ⟨m,n'⟩)):ACall vE 60 args ⟨m,n⟩ Q:=by
 rw[MP]at h
 subst ha
 refine ent hQ Tryz.func60 rfl Tryz.ntmps60 Tryz.results60 (.q (.r []) (.q (.r []) .z)) fun R hR=>?_
 replace h:=And.intro trivial h
 simp(disch:=omega) only[vm,seval,h.1]
 refine⟨AQ (γ:=Unit) h [9,11,12,13,14,15,16,17,18,19,20,21,22,23,24,25,26,27,28,29,30,31,32,33,34,35,36,37,38,39,40,41,42,43,44,45,46,47,48,49,50,51,52,53,54,55] [7] (fun j1 g=>[.slice 4 (List.map A9 j1) true]) (fun j1 g=>(n,[.int .i64 a0.kind,.str a0.text,.str a0.host,.int .i64 a0.port])::m) (.q (.r []) .z) ?_ ?_⟩<;>clear h
 rintro j1 _ n4 hnn4 _ _ h
 refine AB (.q (.r []) .z) ?_
 exact tR
 intro k2 Jk2 hk2 h
 obtain⟨hfk5,h⟩:=AR h
 simp(disch:=omega) only[vm,seval,h.1]
 refine⟨BM (σ:=(List ApiID)) (γ:=Unit) a2 hfk5 (fun xs i s=>Eu N a0 a1 k2 xs s) (fun i s g=>[.slice 4 (List.map A9 s) true,.int .i64 i]) (fun i s g=>(n,[.int .i64 a0.kind,.str a0.text,.str a0.host,.int .i64 a0.port])::m) [9,11,12,13,17,18,19,20,21,22,23,24,25,26,27,28,29,30,31,32,33,34,35,36,37,38,39,40,41,42,43,44,45,46,47,48,49,50,51,52,53,54,55] [7,16] [] () h tD tD ?_ ?_⟩<;>clear h
 rintro s16 s7 _ nL0_1 hnL0_1 _ h
 change _∧Eu N a0 a1 k2 [] s7=_ at h
 rw[Eu]at h
 refine AB (.q (.r []) (.q (.c .z .z) .z)) ?_
 exact tJ (hk2 s7 ())
 rintro xk5 xsk5 s16 s7 _ nL0_1 hnL0_1 _ h Jk5 hk5
 change _∧Eu N a0 a1 k2 (xk5::xsk5) s7=_ at h
 rw[Eu]at h
 refine AB (.q (.r []) (.q (.c .z .z) .z)) ?_
 simp(disch:=omega) only[vm,seval,h.1]
 refine⟨AQ (γ:=Unit) h [9,11,12,13,18,19,20,21,22,23,24,25,26,27,28,29,30,31,32,33,34,35,36,37,38,39,40,41,42,43,44,45,46,47,48,49,50,51,52,53,54] [7] (fun j6 g=>[.slice 4 (List.map A9 j6) true]) (fun j6 g=>(n,[.int .i64 a0.kind,.str a0.text,.str a0.host,.int .i64 a0.port])::m) (.q (.r []) (.q (.r []) .z)) ?_ ?_⟩<;>clear h
 rintro j6 _ n9 hnn9 _ _ h
 refine AB (.r []) ?_
 exact tJ (hk5 j6 ())
 intro k7 Jk7 hk7 h
 obtain⟨hfk10,h⟩:=AR h
 simp(disch:=omega) only[vm,seval,h.1]
 refine⟨BM (σ:=(List ApiID)) (γ:=Unit) xk5 hfk10 (fun xs i s=>Et N a0 a1 k7 xs s) (fun i s g=>[.slice 4 (List.map A9 s) true,.int .i64 i]) (fun i s g=>(n,[.int .i64 a0.kind,.str a0.text,.str a0.host,.int .i64 a0.port])::m) [11,12,13,23,24,25,26,27,28,29,30,31,32,33,34,35,36,37,38,39,40,41,42,43,44,45,46,47,48,49,50,51,52,53,54] [7,22] s7 () h tD tD ?_ ?_⟩<;>clear h
 rintro s22 s7_i1 _ nL1_2 hnL1_2 _ h
 change _∧Et N a0 a1 k7 [] s7_i1=_ at h
 rw[Et]at h
 refine AB (.q (.r []) (.q (.c .z .z) .z)) ?_
 exact tJ (hk7 s7_i1 ())
 rintro xk10 xsk10 s22 s7_i1 _ nL1_2 hnL1_2 _ h Jk10 hk10
 change _∧Et N a0 a1 k7 (xk10::xsk10) s7_i1=_ at h
 rw[Et]at h
 refine AB (.q (.r []) (.q (.c .z .z) .z)) ?_
 simp(disch:=omega) only[vm,seval,h.1]
 refine⟨AQ (γ:=Unit) h [11,12,13,24,25,26,27,28,29,30,31,32,33,34,35,36,37,38,39,40,41,42,43,44,45,46,47,48,49,50,51,52,53] [7] (fun j11 g=>[.slice 4 (List.map A9 j11) true]) (fun j11 g=>(n,[.int .i64 a0.kind,.str a0.text,.str a0.host,.int .i64 a0.port])::m) (.q (.r []) (.q (.r []) .z)) ?_ ?_⟩<;>clear h
 rintro j11 _ n14 hnn14 _ _ h
 refine AB (.r []) ?_
 exact tJ (hk10 j11 ())
 intro k12 Jk12 hk12 h
 obtain⟨y15,h⟩:=AA h
 simp(disch:=omega) only[vm,seval,h.1]
 refine⟨O0 h.1.1 tD fun n16 hn16=>?_⟩
 simp(disch:=omega) only[vm,seval,h.1]
 refine⟨AQ (γ:=Unit) h [31,32,33,34,35,36,37,38,39,40,41,42,43,44,45,46,47,48] [49] (fun j17 g=>[.bool j17]) (fun j17 g=>(n16,[.int .i64 y15.1.kind,.str y15.1.text,.str y15.1.host,.int .i64 y15.1.port])::(n,[.int .i64 a0.kind,.str a0.text,.str a0.host,.int .i64 a0.port])::m) (.r []) ?_ ?_⟩<;>clear h
 rintro j17 _ n20 hnn20 _ _ h
 refine AB (.c (.r [50]) .z) ?_
 rcases AC h with h|h
 obtain⟨c,h⟩:=AR h
 try simp only[liE,seval]at c
 replace h:=AP c h
 exact tJ (hk12 (s7_i1++[y15.1]) ())
 exact tJ (hk12 s7_i1 ())
 intro k18 Jk18 hk18 h
 rcases AC h with h|h
 rcases AC h with h|h
 exact tJ (hk18 false ())
 obtain⟨y21,h⟩:=AA h
 simp(disch:=omega) only[vm,seval,h.1]
 refine⟨JW h.1.1 tD fun n22 hn22=>?_⟩
 rcases AC h with h|h
 exact tJ (hk18 false ())
 exact tJ (hk18 (decide ((s7_i1.length:Int)<a1)) ())
 exact tJ (hk18 false ())
end Go.Proofs.YtjgdhjpafjpjgaaGreatDoor
