import Derived.Test.YtjgdhjpafjpjgaaGreatDoorVmFacts
import Derived.Test.YtjgdhjpafjpjgaaGreatDoorDefs
import Derived.Test.YtjgdhjpafjpjgaaGreatDoorVM2
import Derived.Test.YtjgdhjpafjpjgaaGreatDoorW0
import Derived.Test.YtjgdhjpafjpjgaaGreatDoorW1
import Derived.Test.YtjgdhjpafjpjgaaGreatDoorW2
import Derived.Test.YtjgdhjpafjpjgaaGreatDoorW4
import Derived.Test.YtjgdhjpafjpjgaaGreatDoorW5
import Derived.Test.YtjgdhjpafjpjgaaGreatDoorW6
import Derived.Test.YtjgdhjpafjpjgaaGreatDoorW8
import Derived.Test.YtjgdhjpafjpjgaaGreatDoorW10
import Derived.Test.YtjgdhjpafjpjgaaGreatDoorW12
import Derived.Test.YtjgdhjpafjpjgaaGreatDoorW13
set_option linter.unusedVariables false
set_option linter.unusedSimpArgs false
set_option maxHeartbeats 4000000
set_option maxRecDepth 100000
set_option linter.defProp false
namespace Go.Proofs.YtjgdhjpafjpjgaaGreatDoor
open Go.VM
variable{N n:Nat}{m:MS}{Q:PQ}{args:List AVal}
theorem Ou {a0 r} (h:FM N a0=some r) (ha:args=[.str a0]) (hQ: ∀n',n≤n'→Gl (Q (.tuple [A9 r.1,.int .i64 r.2]) ⟨m,n'⟩)):ACall vE 221 args ⟨m,n⟩ Q:=by
 rw[FM]at h
 subst ha
 refine ent hQ Tryz.func221 rfl Tryz.ntmps221 Tryz.results221 (.q (.r []) (.q (.r []) (.q (.q (.r []) (.c (.q (.r []) .z) .z)) (.q .z .z)))) fun R hR=>?_
 replace h:=And.intro trivial h
 obtain⟨y1,h⟩:=AA h
 simp(disch:=omega) only[vm,seval,h.1]
 refine⟨XQ h.1.1 tD fun n2 hn2=>?_⟩
 rcases AC h with h|h
 exact tR
 obtain⟨y3,h⟩:=AA h
 have cy3:=h.1.1
 simp(disch:=omega) only[vm,seval,h.1]
 refine⟨BI [] (.take 0 (.take 2 (.take 3 (.alt 1 [3,2] (.alt 4 [2,0] (.alt 5 [] (.alt 6 [] (.done) (.stop)) (.stop)) (.stop)) (.stop))))) Au (by kernel_rfl) ?_⟩
 simp(disch:=omega) only[vm,seval,h.1]
 refine⟨Ut cy3 tD fun n4 hn4=>?_⟩
 exact tR
theorem Ov {a0 r} (h:FT N a0=some r) (ha:args=[.str a0]) (hQ: ∀n',n≤n'→Gl (Q (.tuple [A9 r.1,.int .i64 r.2]) ⟨m,n'⟩)):ACall vE 222 args ⟨m,n⟩ Q:=by
 rw[FT]at h
 subst ha
 refine ent hQ Tryz.func222 rfl Tryz.ntmps222 Tryz.results222 (.q (.r []) (.q (.r []) (.q (.q (.r []) (.c (.q (.r []) .z) .z)) (.q .z .z)))) fun R hR=>?_
 replace h:=And.intro trivial h
 obtain⟨y1,h⟩:=AA h
 simp(disch:=omega) only[vm,seval,h.1]
 refine⟨YP h.1.1 tD fun n2 hn2=>?_⟩
 rcases AC h with h|h
 exact tR
 obtain⟨y3,h⟩:=AA h
 have cy3:=h.1.1
 simp(disch:=omega) only[vm,seval,h.1]
 refine⟨BI [] (.take 0 (.take 2 (.take 3 (.alt 1 [3,2] (.alt 4 [2,0] (.alt 5 [] (.alt 6 [] (.done) (.stop)) (.stop)) (.stop)) (.stop))))) Au (by kernel_rfl) ?_⟩
 simp(disch:=omega) only[vm,seval,h.1]
 refine⟨U4 cy3 tD fun n4 hn4=>?_⟩
 exact tR
theorem Na {a0 r} (h:HY N a0=some r) (ha:args=[.str a0]) (hQ: ∀n',n≤n'→Gl (Q (.tuple [Dt r.1,.int .i64 r.2]) ⟨m,n'⟩)):ACall vE 52 args ⟨m,n⟩ Q:=by
 rw[HY]at h
 subst ha
 refine ent hQ Tryz.func52 rfl Tryz.ntmps52 Tryz.results52 (.q (.r []) (.q (.q (.r []) (.c (.q (.r []) .z) .z)) (.q (.r []) (.q (.q (.r []) (.c (.q (.r []) .z) .z)) (.q (.r []) (.q (.q (.r []) (.c (.q (.r []) .z) .z)) (.q (.r []) (.q (.q (.r []) (.q (.r []) (.c (.q (.r []) .z) .z))) (.q (.q (.r []) (.q (.r []) (.c (.q (.r []) .z) .z))) (.q (.q (.r []) (.q (.r []) (.c (.q (.r []) .z) .z))) .z)))))))))) fun R hR=>?_
 replace h:=And.intro trivial h
 rcases AC h with h|h
 exact tR
 obtain⟨y1,h⟩:=AA h
 simp(disch:=omega) only[vm,seval,h.1]
 refine⟨ABh h.1.1 tD fun n2 hn2=>?_⟩
 rcases AC h with h|h
 exact tR
 simp(disch:=omega) only[vm,seval,h.1]
 refine⟨AQ (γ:=Unit) h [23,24,25,26,27,28,29,30,31] [22] (fun j3 g=>[.bool j3]) (fun j3 g=>(n2,[.str y1.1.scheme,.str y1.1.authority,.str y1.1.path,.str y1.1.query,.str y1.1.fragment,.bool y1.1.hasScheme,.bool y1.1.hasAuthority,.bool y1.1.hasQuery,.bool y1.1.hasFrag])::(n,[.str [],.int .i64 0,.str [],.str [],.str [],.bool false,.bool false])::m) (.r []) ?_ ?_⟩<;>clear h
 rintro j3 _ n6 hnn6 _ _ h
 refine AB (.c (.q (.r []) .z) (.q (.r []) (.c (.q (.r []) .z) (.q (.r []) (.c (.q (.r []) .z) .z))))) ?_
 rcases AC h with h|h
 exact tR
 rcases AC h with h|h
 obtain⟨y9,h⟩:=AA h
 simp(disch:=omega) only[vm,seval,h.1]
 refine⟨LK h.1.1 tD fun n10 hn10=>?_⟩
 rcases AC h with h|h
 exact tR
 obtain⟨y11,h⟩:=AA h
 simp(disch:=omega) only[vm,seval,h.1]
 refine⟨QS h.1.1 tD fun n12 hn12=>?_⟩
 rcases AC h with h|h
 exact tR
 obtain⟨y13,h⟩:=AA h
 simp(disch:=omega) only[vm,seval,h.1]
 refine⟨Ej h.1.1 tD fun n14 hn14=>?_⟩
 rcases AC h with h|h
 exact tR
 obtain⟨y15,h⟩:=AA h
 simp(disch:=omega) only[vm,seval,h.1]
 refine⟨Ej h.1.1 tD fun n16 hn16=>?_⟩
 rcases AC h with h|h
 exact tR
 obtain⟨y17,h⟩:=AA h
 simp(disch:=omega) only[vm,seval,h.1]
 refine⟨Ej h.1.1 tD fun n18 hn18=>?_⟩
 rcases AC h with h|h
 exact tR
 simp(disch:=omega) only[vm,seval,h.1]
 refine⟨AQ (γ:=Unit) h [95,96,97,98,99,100,101,102] [] (fun j19 g=>[]) (fun j19 g=>((n12+1),[.str y11.1.host,.int .i64 y11.1.port,.str j19,.str y15.1,.str y17.1,.bool y1.1.hasQuery,.bool y1.1.hasFrag])::(n12,[.str y11.1.host,.int .i64 y11.1.port])::(n2,[.str y1.1.scheme,.str y1.1.authority,.str y1.1.path,.str y1.1.query,.str y1.1.fragment,.bool y1.1.hasScheme,.bool y1.1.hasAuthority,.bool y1.1.hasQuery,.bool y1.1.hasFrag])::(n,[.str [],.int .i64 0,.str [],.str [],.str [],.bool false,.bool false])::m) (.q (.r []) (.q (.r []) (.c (.r []) .z))) ?_ ?_⟩<;>clear h
 rintro j19 _ n22 hnn22 _ _ h
 refine AB (.q (.q (.r []) (.c (.q (.r []) .z) .z)) (.q (.r []) .z)) ?_
 obtain⟨y25,h⟩:=AA h
 simp(disch:=omega) only[vm,seval,h.1]
 refine⟨GV h.1.1 tD fun n26 hn26=>?_⟩
 rcases AC h with h|h
 exact tR
 exact tR
 intro k20 Jk20 hk20 h
 obtain⟨y23,h⟩:=AA h
 simp(disch:=omega) only[vm,seval,h.1]
 refine⟨Q7 h.1.1 tD fun n24 hn24=>?_⟩
 rcases AC h with h|h
 exact tJ (hk20 ([47]:List UInt8) ())
 exact tJ (hk20 y23 ())
 exact tR
 intro k4 Jk4 hk4 h
 rcases AC h with h|h
 obtain⟨y7,h⟩:=AA h
 simp(disch:=omega) only[vm,seval,h.1]
 refine⟨Lj h.1.1 tD fun n8 hn8=>?_⟩
 exact tJ (hk4 (!y7) ())
 exact tJ (hk4 true ())
theorem Ku {a0 r} (h:Ex N a0=some r) (ha:args=[EF a0]) (hQ: ∀n',n≤n'→Gl (Q (.tuple [DY r.1,.int .i64 r.2]) ⟨m,n'⟩)):ACall vE 245 args ⟨m,n⟩ Q:=by
 rw[Ex]at h
 subst ha
 refine ent hQ Tryz.func245 rfl Tryz.ntmps245 Tryz.results245 (.q (.r []) (.q (.q (.r []) (.c (.q (.r []) .z) .z)) (.q (.q (.r []) (.q (.r []) (.c (.q (.r []) .z) .z))) (.q (.r []) (.q (.r []) (.q (.q (.r []) (.c (.q (.r []) .z) .z)) (.q (.r []) .z))))))) fun R hR=>?_
 replace h:=And.intro trivial h
 rcases AC h with h|h
 obtain⟨y1,h⟩:=AA h
 simp(disch:=omega) only[vm,seval,h.1]
 refine⟨KL h.1.1 tD fun n2 hn2=>?_⟩
 obtain⟨y3,h⟩:=AA h
 simp(disch:=omega) only[vm,seval,h.1]
 refine⟨OD h.1.1 tD fun n4 hn4=>?_⟩
 rcases AC h with h|h
 exact tR
 obtain⟨y5,h⟩:=AA h
 simp(disch:=omega) only[vm,seval,h.1]
 refine⟨ET h.1.1 tD fun n6 hn6=>?_⟩
 obtain⟨y7,h⟩:=AA h
 simp(disch:=omega) only[vm,seval,h.1]
 refine⟨Fp h.1.1 tD fun n8 hn8=>?_⟩
 rcases AC h with h|h
 exact tR
 obtain⟨y9,h⟩:=AA h
 simp(disch:=omega) only[vm,seval,h.1]
 refine⟨QS h.1.1 tD fun n10 hn10=>?_⟩
 exact tR
 exact tR
theorem SB {a0 r} (h:IQ N a0=some r) (ha:args=[Dt a0]) (hQ: ∀n',n≤n'→Gl (Q (.tuple [EF r.1,.int .i64 r.2]) ⟨m,n'⟩)):ACall vE 189 args ⟨m,n⟩ Q:=by
 rw[IQ]at h
 subst ha
 refine ent hQ Tryz.func189 rfl Tryz.ntmps189 Tryz.results189 (.q (.r []) (.q (.q (.r []) (.c (.q (.r []) .z) .z)) (.q (.r []) (.q .z (.q (.r []) (.q (.q (.r []) (.c (.q (.r []) .z) .z)) (.q (.r []) .z))))))) fun R hR=>?_
 replace h:=And.intro trivial h
 obtain⟨y1,h⟩:=AA h
 simp(disch:=omega) only[vm,seval,h.1]
 refine⟨Ur h.1.1 tD fun n2 hn2=>?_⟩
 rcases AC h with h|h
 obtain⟨y3,h⟩:=AA h
 simp(disch:=omega) only[vm,seval,h.1]
 refine⟨Gb h.1.1 tD fun n4 hn4=>?_⟩
 obtain⟨x5,h⟩:=AA h
 simp(disch:=omega) only[vm,seval,h.1]
 refine⟨AQ (γ:=Unit) h [20,21,22,23,24,25,26,27,28,29,30,31,32,33] [34] (fun j6 g=>[.bool j6]) (fun j6 g=>((n+1),[.str [],.str []])::(n,[.str a0.host,.int .i64 a0.port,.str a0.path,.str a0.query,.str a0.fragment,.bool a0.hasQuery,.bool a0.hasFrag])::m) (.r []) ?_ ?_⟩<;>clear h
 rintro j6 _ n9 hnn9 _ _ h
 refine AB (.c (.q (.r []) .z) .z) ?_
 rcases AC h with h|h
 exact tR
 obtain⟨x11,h⟩:=AA h
 rcases AC h with h|h
 exact tR
 simp(disch:=omega) only[vm,seval,h.1]
 refine⟨AQ (γ:=Unit) h [47,48,49,50,51,52,53,54,55] [5] (fun j12 g=>[.str j12]) (fun j12 g=>((n+1),[.str [],.str []])::(n,[.str a0.host,.int .i64 a0.port,.str a0.path,.str a0.query,.str a0.fragment,.bool a0.hasQuery,.bool a0.hasFrag])::m) (.q (.r []) (.c (.r []) .z)) ?_ ?_⟩<;>clear h
 rintro j12 _ n15 hnn15 _ _ h
 refine AB .z ?_
 simp(disch:=omega) only[vm,seval,h.1]
 refine⟨AQ (γ:=Unit) h [3,7,8,9,10,56,57,58,59,60,61,62,63,64,65,66,67,68,69,70,71,72,73,74,75,76,77,78,79,80,81,82,83,84,85,86,87,88,89,90,91,92,93,94,95,96] [5] (fun j18 g=>[.str j18]) (fun j18 g=>((n+1),[.str [],.str []])::(n,[.str a0.host,.int .i64 a0.port,.str a0.path,.str a0.query,.str a0.fragment,.bool a0.hasQuery,.bool a0.hasFrag])::m) (.q (.r []) .z) ?_ ?_⟩<;>clear h
 rintro j18 _ n21 hnn21 _ _ h
 refine AB (.q (.r []) (.q (.q (.r []) (.c (.q (.r []) .z) .z)) (.q (.r []) .z))) ?_
 obtain⟨y42,h⟩:=AA h
 simp(disch:=omega) only[vm,seval,h.1]
 refine⟨JE h.1.1 tD fun n43 hn43=>?_⟩
 rcases AC h with h|h
 exact tR
 exact tR
 intro k19 Jk19 hk19 h
 obtain⟨hfk22,h⟩:=AR h
 simp(disch:=omega) only[vm,seval,h.1]
 refine⟨BM (σ:=(List UInt8)) (γ:=Unit) x11 hfk22 (fun xs i s=>Bu N a0 k19 xs s) (fun i s g=>[.str s,.int .i64 i]) (fun i s g=>((n+1),[.str [],.str []])::(n,[.str a0.host,.int .i64 a0.port,.str a0.path,.str a0.query,.str a0.fragment,.bool a0.hasQuery,.bool a0.hasFrag])::m) [3,7,8,9,10,59,60,61,62,63,64,65,66,67,68,69,70,71,72,73,74,75,76,77,78,79,80,81,82,83,84,85,86,87,88,89,90,91,92,93,94,95,96] [5,58] j12 () h tD tD ?_ ?_⟩<;>clear h
 rintro s58 s5 _ nL0_1 hnL0_1 _ h
 change _∧Bu N a0 k19 [] s5=_ at h
 rw[Bu]at h
 refine AB (.q (.r []) (.q (.c .z .z) .z)) ?_
 exact tJ (hk19 s5 ())
 rintro xk22 xsk22 s58 s5 _ nL0_1 hnL0_1 _ h Jk22 hk22
 change _∧Bu N a0 k19 (xk22::xsk22) s5=_ at h
 rw[Bu]at h
 refine AB (.q (.r []) (.q (.c .z .z) .z)) ?_
 simp(disch:=omega) only[vm,seval,h.1]
 refine⟨AQ (γ:=Unit) h [3,7,8,9,10,60,61,62,63,64,65,66,67,68,69,70,71,72,73,74,75,76,77,78,79,80,81,82,83,84,85,86,87,88,89,90,91,92,93,94,95] [5] (fun j23 g=>[.str j23]) (fun j23 g=>((n+1),[.str [],.str []])::(n,[.str a0.host,.int .i64 a0.port,.str a0.path,.str a0.query,.str a0.fragment,.bool a0.hasQuery,.bool a0.hasFrag])::m) (.q (.r []) .z) ?_ ?_⟩<;>clear h
 rintro j23 _ n26 hnn26 _ _ h
 refine AB (.r []) ?_
 exact tJ (hk22 j23 ())
 intro k24 Jk24 hk24 h
 simp(disch:=omega) only[vm,seval,h.1]
 refine⟨AQ (γ:=Unit) h [3,8,62,63,64,65,66,67,68,69,70,71,72,73,74,75,76,77,78,79] [] (fun j27 g=>[]) (fun j27 g=>((n+1),[.str [],.str []])::(n,[.str a0.host,.int .i64 a0.port,.str a0.path,.str a0.query,.str a0.fragment,.bool a0.hasQuery,.bool a0.hasFrag])::m) (.q (.r []) .z) ?_ ?_⟩<;>clear h
 rintro j27 _ n30 hnn30 _ _ h
 refine AB (.q (.r []) (.q (.q (.r []) (.c (.q (.r []) .z) .z)) (.q (.r []) (.c (.r []) .z)))) ?_
 obtain⟨y38,h⟩:=AA h
 simp(disch:=omega) only[vm,seval,h.1]
 refine⟨Fv h.1.1 tD fun n39 hn39=>?_⟩
 rcases AC h with h|h
 exact tR
 rcases AC h with h|h
 exact tJ (hk24 s5 ())
 obtain⟨y40,h⟩:=AA h
 simp(disch:=omega) only[vm,seval,h.1]
 refine⟨ND h.1.1 tD fun n41 hn41=>?_⟩
 obtain⟨c,h⟩:=AR h
 try simp only[liE,seval]at c
 replace h:=AP c h
 obtain⟨c,h⟩:=AR h
 try simp only[liE,seval]at c
 replace h:=AP c h
 exact tJ (hk24 (s5++(([58]:List UInt8)++y40)) ())
 intro k28 Jk28 hk28 h
 obtain⟨hfk31,h⟩:=AR h
 simp(disch:=omega) only[vm,seval,h.1]
 refine⟨BM (σ:=Unit) (γ:=Unit) xk22 hfk31 (fun xs i s=>CW N k28 xs) (fun i s g=>[.int .i64 i]) (fun i s g=>((n+1),[.str [],.str []])::(n,[.str a0.host,.int .i64 a0.port,.str a0.path,.str a0.query,.str a0.fragment,.bool a0.hasQuery,.bool a0.hasFrag])::m) [3,62,63,64,65,66,67,68,69,70,71,72,73,74,75,76,77,78,79] [8] () () h tD tD ?_ ?_⟩<;>clear h
 rintro s8 _ _ nL1_2 hnL1_2 _ h
 change _∧CW N k28 []=_ at h
 rw[CW]at h
 refine AB (.q (.q (.r []) (.c .z .z)) (.q .z (.r []))) ?_
 exact tJ (hk28 () ())
 rintro xk31 xsk31 s8 _ _ nL1_2 hnL1_2 _ h Jk31 hk31
 change _∧CW N k28 (xk31::xsk31)=_ at h
 rw[CW]at h
 refine AB (.q (.q (.r []) (.c .z .z)) (.q .z (.r []))) ?_
 simp(disch:=omega) only[vm,seval,h.1]
 refine⟨AQ (γ:=Unit) h [68,69,70,71,72,73,74,75,76,77] [78] (fun j32 g=>[.bool j32]) (fun j32 g=>((n+1),[.str [],.str []])::(n,[.str a0.host,.int .i64 a0.port,.str a0.path,.str a0.query,.str a0.fragment,.bool a0.hasQuery,.bool a0.hasFrag])::m) (.r []) ?_ ?_⟩<;>clear h
 rintro j32 _ n35 hnn35 _ _ h
 refine AB (.c (.q (.r []) .z) .z) ?_
 rcases AC h with h|h
 exact tR
 exact tJ (hk31 () ())
 intro k33 Jk33 hk33 h
 obtain⟨y36,h⟩:=AA h
 simp(disch:=omega) only[vm,seval,h.1]
 refine⟨Eb h.1.1 tD fun n37 hn37=>?_⟩
 rcases AC h with h|h
 exact tJ (hk33 false ())
 exact tJ (hk33 ((AL xk31) !=37) ())
 intro k13 Jk13 hk13 h
 rcases AC h with h|h
 obtain⟨y16,h⟩:=AA h
 simp(disch:=omega) only[vm,seval,h.1]
 refine⟨NC h.1.1 tD fun n17 hn17=>?_⟩
 obtain⟨c,h⟩:=AR h
 try simp only[liE,seval]at c
 replace h:=AP c h
 obtain⟨c,h⟩:=AR h
 try simp only[liE,seval]at c
 replace h:=AP c h
 exact tJ (hk13 (a0.host++(([37,51,65]:List UInt8)++y16)) ())
 exact tJ (hk13 a0.host ())
 intro k7 Jk7 hk7 h
 rcases AC h with h|h
 exact tJ (hk7 true ())
 rcases AC h with h|h
 exact tJ (hk7 true ())
 obtain⟨x10,h⟩:=AA h
 exact tJ (hk7 (!(x10==([100,105,100,46,106,115,111,110]:List UInt8))) ())
 exact tR
end Go.Proofs.YtjgdhjpafjpjgaaGreatDoor
