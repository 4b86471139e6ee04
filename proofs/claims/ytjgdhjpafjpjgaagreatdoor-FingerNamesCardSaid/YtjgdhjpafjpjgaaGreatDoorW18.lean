import Derived.Test.YtjgdhjpafjpjgaaGreatDoorVmFacts
import Derived.Test.YtjgdhjpafjpjgaaGreatDoorDefs
import Derived.Test.YtjgdhjpafjpjgaaGreatDoorVM2
import Derived.Test.YtjgdhjpafjpjgaaGreatDoorW0
import Derived.Test.YtjgdhjpafjpjgaaGreatDoorW1
import Derived.Test.YtjgdhjpafjpjgaaGreatDoorW7
import Derived.Test.YtjgdhjpafjpjgaaGreatDoorW12
import Derived.Test.YtjgdhjpafjpjgaaGreatDoorW14
import Derived.Test.YtjgdhjpafjpjgaaGreatDoorW17
set_option linter.unusedVariables false
set_option linter.unusedSimpArgs false
set_option maxHeartbeats 4000000
set_option maxRecDepth 100000
set_option linter.defProp false
namespace Go.Proofs.YtjgdhjpafjpjgaaGreatDoor
open Go.VM
variable{N n:Nat}{m:MS}{Q:PQ}{args:List AVal}
theorem PR {a0 r} (h:Fu N a0=some r) (ha:args=[.str a0]) (hQ: ∀n',n≤n'→Gl (Q (.tuple [A9 r.1,.int .i64 r.2]) ⟨m,n'⟩)):ACall vE 224 args ⟨m,n⟩ Q:=by
 rw[Fu]at h
 subst ha
 refine ent hQ Tryz.func224 rfl Tryz.ntmps224 Tryz.results224 (.q (.r []) (.q (.r []) (.q (.q (.r []) (.c (.q (.r []) .z) .z)) (.q (.q (.r []) (.q (.r []) (.c (.q (.r []) .z) .z))) (.q (.r []) (.q (.q (.r []) (.c (.q (.r []) .z) .z)) (.q .z .z))))))) fun R hR=>?_
 replace h:=And.intro trivial h
 obtain⟨y1,h⟩:=AA h
 simp(disch:=omega) only[vm,seval,h.1]
 refine⟨OD h.1.1 tD fun n2 hn2=>?_⟩
 rcases AC h with h|h
 exact tR
 obtain⟨y3,h⟩:=AA h
 simp(disch:=omega) only[vm,seval,h.1]
 refine⟨Pf h.1.1 tD fun n4 hn4=>?_⟩
 rcases AC h with h|h
 exact tR
 obtain⟨y5,h⟩:=AA h
 simp(disch:=omega) only[vm,seval,h.1]
 refine⟨Ku h.1.1 tD fun n6 hn6=>?_⟩
 rcases AC h with h|h
 exact tR
 obtain⟨y7,h⟩:=AA h
 have cy7:=h.1.1
 simp(disch:=omega) only[vm,seval,h.1]
 refine⟨BI [] (.take 0 (.take 2 (.take 3 (.take 4 (.take 5 (.alt 1 [5,4,3,2] (.alt 6 [4,2,0] (.alt 7 [] (.alt 8 [] (.done) (.stop)) (.stop)) (.stop)) (.stop))))))) Au (by kernel_rfl) ?_⟩
 simp(disch:=omega) only[vm,seval,h.1]
 refine⟨KL cy7 tD fun n8 hn8=>?_⟩
 exact tR
theorem Pi {a0 r} (h:Fg N a0=some r) (ha:args=[.slice 1 (List.map (AVal.int .u8) a0) false]) (hQ: ∀n',n≤n'→Gl (Q (A9 r) ⟨m,n'⟩)):ACall vE 9 args ⟨m,n⟩ Q:=by
 rw[Fg]at h
 subst ha
 refine ent hQ Tryz.func9 rfl Tryz.ntmps9 Tryz.results9 (.q (.r []) (.q (.r []) (.q (.r []) .z))) fun R hR=>?_
 replace h:=And.intro trivial h
 obtain⟨y1,h⟩:=AA h
 simp(maxSteps:=10000000) (disch:=omega) only[vm,seval,h.1]
 refine⟨AFu h.1.1 (by first|(simp(maxSteps:=10000000) (disch:=omega) only[vm,seval,h.1];done)|rfl) fun i2 n3 hi2 gi2=>?_⟩
 obtain⟨y4,h⟩:=AA h
 simp(maxSteps:=10000000) (disch:=omega) only[vm,seval,h.1]
 refine⟨ACf h.1.1 (by first|(simp(maxSteps:=10000000) (disch:=omega) only[vm,seval,h.1];done)|rfl) (i0:=i2) (by simp(maxSteps:=10000000) (disch:=omega) only[vm,seval,h.1]) fun n5 hn5=>?_⟩
 obtain⟨y6,h⟩:=AA h
 simp(maxSteps:=10000000) (disch:=omega) only[vm,seval,h.1]
 refine⟨O6 h.1.1 (by first|(simp(maxSteps:=10000000) (disch:=omega) only[vm,seval,h.1];done)|rfl) fun n7 hn7=>?_⟩
 obtain⟨H,h⟩:=h
 cases h
 simp(maxSteps:=10000000) (disch:=omega) only[vm,seval,H]
 refine⟨(hR _ _ _ _ _ _ (by simp(maxSteps:=10000000) (disch:=omega) only[vm,seval,H];rfl) (.cons _ (.cons _ (.cons _ slr))) ?_ (by omega) ?_).1⟩<;>first|(simp(maxSteps:=10000000) (disch:=omega) only[vm,seval,H];done)|rfl
theorem R6 {a0 a1 r} (h:GZ N a0 a1=some r) (ha:args=[.slice 1 (List.map AVal.str a0) false,A9 a1]) (hQ: ∀n',n≤n'→Gl (Q (.slice 4 (List.map A9 r) false) ⟨m,n'⟩)):ACall vE 62 args ⟨m,n⟩ Q:=by
 rw[GZ]at h
 subst ha
 refine ent hQ Tryz.func62 rfl Tryz.ntmps62 Tryz.results62 (.q (.r []) (.q (.r []) .z)) fun R hR=>?_
 replace h:=And.intro trivial h
 simp(disch:=omega) only[vm,seval,h.1]
 refine⟨AQ (γ:=Unit) h [7,8,9,10,12,13,14,15,16,17,18,19,20,21,22,23,24,25,26,27,28,29,30,31,32,33,34,35,36,37,38,39,40,41,42,43,44,45,46,47,48,49,50,51,52,53,54,55] [5] (fun j1 g=>[.slice 4 (List.map A9 j1) true]) (fun j1 g=>(n,[.int .i64 a1.kind,.str a1.text,.str a1.host,.int .i64 a1.port])::m) (.q (.r []) .z) ?_ ?_⟩<;>clear h
 rintro j1 _ n4 hnn4 _ _ h
 refine AB (.q (.r []) .z) ?_
 exact tR
 intro k2 Jk2 hk2 h
 obtain⟨hfk5,h⟩:=AR h
 simp(disch:=omega) only[vm,seval,h.1]
 refine⟨BM (σ:=(List ApiID)) (γ:=Unit) a0 hfk5 (fun xs i s=>CZ N a1 k2 xs s) (fun i s g=>[.slice 4 (List.map A9 s) true,.int .i64 i]) (fun i s g=>(n,[.int .i64 a1.kind,.str a1.text,.str a1.host,.int .i64 a1.port])::m) [7,8,9,10,12,16,17,18,19,20,21,22,23,24,25,26,27,28,29,30,31,32,33,34,35,36,37,38,39,40,41,42,43,44,45,46,47,48,49,50,51,52,53,54,55] [5,15] [] () h tD tD ?_ ?_⟩<;>clear h
 rintro s15 s5 _ nL0_1 hnL0_1 _ h
 change _∧CZ N a1 k2 [] s5=_ at h
 rw[CZ]at h
 refine AB (.q (.r []) (.q (.c .z .z) .z)) ?_
 exact tJ (hk2 s5 ())
 rintro xk5 xsk5 s15 s5 _ nL0_1 hnL0_1 _ h Jk5 hk5
 change _∧CZ N a1 k2 (xk5::xsk5) s5=_ at h
 rw[CZ]at h
 refine AB (.q (.r []) (.q (.c .z .z) .z)) ?_
 simp(disch:=omega) only[vm,seval,h.1]
 refine⟨AQ (γ:=Unit) h [7,8,9,10,12,17,18,19,20,21,22,23,24,25,26,27,28,29,30,31,32,33,34,35,36,37,38,39,40,41,42,43,44,45,46,47,48,49,50,51,52,53,54] [5] (fun j6 g=>[.slice 4 (List.map A9 j6) true]) (fun j6 g=>(n,[.int .i64 a1.kind,.str a1.text,.str a1.host,.int .i64 a1.port])::m) (.q (.r []) (.q (.r []) .z)) ?_ ?_⟩<;>clear h
 rintro j6 _ n9 hnn9 _ _ h
 refine AB (.r []) ?_
 exact tJ (hk5 j6 ())
 intro k7 Jk7 hk7 h
 obtain⟨y10,h⟩:=AA h
 simp(disch:=omega) only[vm,seval,h.1]
 refine⟨O6 h.1.1 tD fun n11 hn11=>?_⟩
 simp(disch:=omega) only[vm,seval,h.1]
 refine⟨AQ (γ:=Unit) h [24,25,26,27,28,29,30] [10] (fun j12 g=>[.bool j12]) (fun j12 g=>(n11,[.int .i64 y10.1.kind,.str y10.1.text,.str y10.1.host,.int .i64 y10.1.port])::(n,[.int .i64 a1.kind,.str a1.text,.str a1.host,.int .i64 a1.port])::m) (.r []) ?_ ?_⟩<;>clear h
 rintro j12 _ n15 hnn15 _ _ h
 refine AB .z ?_
 simp(disch:=omega) only[vm,seval,h.1]
 refine⟨AQ (γ:=Unit) h [12,31,32,33,34,35,36,37,38,39,40,41,42,43] [10] (fun j16 g=>[.bool j16]) (fun j16 g=>(n11,[.int .i64 y10.1.kind,.str y10.1.text,.str y10.1.host,.int .i64 y10.1.port])::(n,[.int .i64 a1.kind,.str a1.text,.str a1.host,.int .i64 a1.port])::m) (.q (.r []) .z) ?_ ?_⟩<;>clear h
 rintro j16 _ n19 hnn19 _ _ h
 refine AB .z ?_
 simp(disch:=omega) only[vm,seval,h.1]
 refine⟨AQ (γ:=Unit) h [44,45,46,47,48,49] [50] (fun j25 g=>[.bool j25]) (fun j25 g=>(n11,[.int .i64 y10.1.kind,.str y10.1.text,.str y10.1.host,.int .i64 y10.1.port])::(n,[.int .i64 a1.kind,.str a1.text,.str a1.host,.int .i64 a1.port])::m) (.r []) ?_ ?_⟩<;>clear h
 rintro j25 _ n28 hnn28 _ _ h
 refine AB (.c (.r [51]) .z) ?_
 rcases AC h with h|h
 obtain⟨c,h⟩:=AR h
 try simp only[liE,seval]at c
 replace h:=AP c h
 exact tJ (hk7 (s5++[y10.1]) ())
 exact tJ (hk7 s5 ())
 intro k26 Jk26 hk26 h
 rcases AC h with h|h
 exact tJ (hk26 false ())
 exact tJ (hk26 (decide ((s5.length:Int)<64)) ())
 intro k17 Jk17 hk17 h
 obtain⟨hfk20,h⟩:=AR h
 simp(disch:=omega) only[vm,seval,h.1]
 refine⟨BM (σ:=Bool) (γ:=Unit) s5 hfk20 (fun xs i s=>CX N y10 k17 xs s) (fun i s g=>[.bool s,.int .i64 i]) (fun i s g=>(n11,[.int .i64 y10.1.kind,.str y10.1.text,.str y10.1.host,.int .i64 y10.1.port])::(n,[.int .i64 a1.kind,.str a1.text,.str a1.host,.int .i64 a1.port])::m) [12,34,35,36,37,38,39,40,41,42,43] [10,33] j12 () h tD tD ?_ ?_⟩<;>clear h
 rintro s33 s10 _ nL1_2 hnL1_2 _ h
 change _∧CX N y10 k17 [] s10=_ at h
 rw[CX]at h
 refine AB (.q (.r []) (.q (.c .z .z) .z)) ?_
 exact tJ (hk17 s10 ())
 rintro xk20 xsk20 s33 s10 _ nL1_2 hnL1_2 _ h Jk20 hk20
 change _∧CX N y10 k17 (xk20::xsk20) s10=_ at h
 rw[CX]at h
 refine AB (.q (.r []) (.q (.c .z .z) .z)) ?_
 simp(disch:=omega) only[vm,seval,h.1]
 refine⟨AQ (γ:=Unit) h [12,35,36,37,38,39,40,41,42] [10] (fun j21 g=>[.bool j21]) (fun j21 g=>(n11,[.int .i64 y10.1.kind,.str y10.1.text,.str y10.1.host,.int .i64 y10.1.port])::(n,[.int .i64 a1.kind,.str a1.text,.str a1.host,.int .i64 a1.port])::m) (.q (.r []) (.r [])) ?_ ?_⟩<;>clear h
 rintro j21 _ n24 hnn24 _ _ h
 refine AB (.r []) ?_
 exact tJ (hk20 j21 ())
 intro k22 Jk22 hk22 h
 rcases AC h with h|h
 exact tJ (hk22 true ())
 exact tJ (hk22 (y10.1.kind==xk20.kind&&(y10.1.text==xk20.text&&(y10.1.host==xk20.host&&y10.1.port==xk20.port))) ())
 intro k13 Jk13 hk13 h
 rcases AC h with h|h
 exact tJ (hk13 true ())
 exact tJ (hk13 (y10.1.kind==a1.kind&&(y10.1.text==a1.text&&(y10.1.host==a1.host&&y10.1.port==a1.port))) ())
end Go.Proofs.YtjgdhjpafjpjgaaGreatDoor
