import Derived.Test.YtjgdhjpafjpjgaaGreatDoorVmFacts
import Derived.Test.YtjgdhjpafjpjgaaGreatDoorDefs
import Derived.Test.YtjgdhjpafjpjgaaGreatDoorVM2
import Derived.Test.YtjgdhjpafjpjgaaGreatDoorW0
import Derived.Test.YtjgdhjpafjpjgaaGreatDoorW1
import Derived.Test.YtjgdhjpafjpjgaaGreatDoorW6
import Derived.Test.YtjgdhjpafjpjgaaGreatDoorW14
import Derived.Test.YtjgdhjpafjpjgaaGreatDoorW15
import Derived.Test.YtjgdhjpafjpjgaaGreatDoorW18
set_option linter.unusedVariables false
set_option linter.unusedSimpArgs false
set_option maxHeartbeats 4000000
set_option maxRecDepth 100000
set_option linter.defProp false
namespace Go.Proofs.YtjgdhjpafjpjgaaGreatDoor
open Go.VM
variable{N n:Nat}{m:MS}{Q:PQ}{args:List AVal}
theorem O0 {a0 r} (h:Iu N a0=some r) (ha:args=[.str a0]) (hQ: ∀n',n≤n'→Gl (Q (.tuple [A9 r.1,.int .i64 r.2]) ⟨m,n'⟩)):ACall vE 122 args ⟨m,n⟩ Q:=by
 rw[Iu]at h
 subst ha
 refine ent hQ Tryz.func122 rfl Tryz.ntmps122 Tryz.results122 (.q (.r []) (.q (.q (.r []) (.c (.q (.r []) .z) .z)) (.q (.r []) (.q (.r []) (.q .z (.q (.r []) .z)))))) fun R hR=>?_
 replace h:=And.intro trivial h
 rcases AC h with h|h
 exact tR
 obtain⟨y1,h⟩:=AA h
 simp(disch:=omega) only[vm,seval,h.1]
 refine⟨ET h.1.1 tD fun n2 hn2=>?_⟩
 obtain⟨y3,h⟩:=AA h
 simp(disch:=omega) only[vm,seval,h.1]
 refine⟨Uj h.1.1 tD fun i4 n5 hi4 gi4=>?_⟩
 obtain⟨y6,h⟩:=AA h
 simp(disch:=omega) only[vm,seval,h.1]
 refine⟨Ju h.1.1 tD fun n7 hn7=>?_⟩
 rcases AC h with h|h
 simp(disch:=omega) only[vm,seval,h.1]
 refine⟨AQ (γ:=Unit) h [22,23,24,25,26] [27] (fun j8 g=>[.bool j8]) (fun j8 g=>(i4,[.map [[97,99,99,116],[109,97,105,108,116,111],[104,116,116,112,115],[100,105,100]] [.fn (.func 221) [] [],.fn (.func 222) [] [],.fn (.func 223) [] [],.fn (.func 224) [] []]])::(n,[.int .i64 0,.str [],.str [],.int .i64 0])::m) (.r []) ?_ ?_⟩<;>clear h
 rintro j8 _ n11 hnn11 _ _ h
 refine AB (.c (.q (.r []) .z) .z) ?_
 rcases AC h with h|h
 exact tR
 obtain⟨y12,h⟩:=AA h
 simp(disch:=omega) only[vm,seval,h.1]
 refine⟨Ou h.1.1 tD fun n13 hn13=>?_⟩
 exact tR
 intro k9 Jk9 hk9 h
 rcases AC h with h|h
 exact tJ (hk9 false ())
 exact tJ (hk9 true ())
 rcases AC h with h|h
 simp(disch:=omega) only[vm,seval,h.1]
 refine⟨AQ (γ:=Unit) h [22,23,24,25,26] [27] (fun j14 g=>[.bool j14]) (fun j14 g=>(i4,[.map [[97,99,99,116],[109,97,105,108,116,111],[104,116,116,112,115],[100,105,100]] [.fn (.func 221) [] [],.fn (.func 222) [] [],.fn (.func 223) [] [],.fn (.func 224) [] []]])::(n,[.int .i64 0,.str [],.str [],.int .i64 0])::m) (.r []) ?_ ?_⟩<;>clear h
 rintro j14 _ n17 hnn17 _ _ h
 refine AB (.c (.q (.r []) .z) .z) ?_
 rcases AC h with h|h
 exact tR
 obtain⟨y18,h⟩:=AA h
 simp(disch:=omega) only[vm,seval,h.1]
 refine⟨Ov h.1.1 tD fun n19 hn19=>?_⟩
 exact tR
 intro k15 Jk15 hk15 h
 rcases AC h with h|h
 exact tJ (hk15 false ())
 exact tJ (hk15 true ())
 rcases AC h with h|h
 simp(disch:=omega) only[vm,seval,h.1]
 refine⟨AQ (γ:=Unit) h [22,23,24,25,26] [27] (fun j20 g=>[.bool j20]) (fun j20 g=>(i4,[.map [[97,99,99,116],[109,97,105,108,116,111],[104,116,116,112,115],[100,105,100]] [.fn (.func 221) [] [],.fn (.func 222) [] [],.fn (.func 223) [] [],.fn (.func 224) [] []]])::(n,[.int .i64 0,.str [],.str [],.int .i64 0])::m) (.r []) ?_ ?_⟩<;>clear h
 rintro j20 _ n23 hnn23 _ _ h
 refine AB (.c (.q (.r []) .z) .z) ?_
 rcases AC h with h|h
 exact tR
 obtain⟨y24,h⟩:=AA h
 simp(disch:=omega) only[vm,seval,h.1]
 refine⟨Ph h.1.1 tD fun n25 hn25=>?_⟩
 exact tR
 intro k21 Jk21 hk21 h
 rcases AC h with h|h
 exact tJ (hk21 false ())
 exact tJ (hk21 true ())
 rcases AC h with h|h
 simp(disch:=omega) only[vm,seval,h.1]
 refine⟨AQ (γ:=Unit) h [22,23,24,25,26] [27] (fun j26 g=>[.bool j26]) (fun j26 g=>(i4,[.map [[97,99,99,116],[109,97,105,108,116,111],[104,116,116,112,115],[100,105,100]] [.fn (.func 221) [] [],.fn (.func 222) [] [],.fn (.func 223) [] [],.fn (.func 224) [] []]])::(n,[.int .i64 0,.str [],.str [],.int .i64 0])::m) (.r []) ?_ ?_⟩<;>clear h
 rintro j26 _ n29 hnn29 _ _ h
 refine AB (.c (.q (.r []) .z) .z) ?_
 rcases AC h with h|h
 exact tR
 obtain⟨y30,h⟩:=AA h
 simp(disch:=omega) only[vm,seval,h.1]
 refine⟨PR h.1.1 tD fun n31 hn31=>?_⟩
 exact tR
 intro k27 Jk27 hk27 h
 rcases AC h with h|h
 exact tJ (hk27 false ())
 exact tJ (hk27 true ())
 simp(disch:=omega) only[vm,seval,h.1]
 refine⟨AQ (γ:=Unit) h [22,23,24,25,26] [27] (fun j32 g=>[.bool true]) (fun j32 g=>(i4,[.map [[97,99,99,116],[109,97,105,108,116,111],[104,116,116,112,115],[100,105,100]] [.fn (.func 221) [] [],.fn (.func 222) [] [],.fn (.func 223) [] [],.fn (.func 224) [] []]])::(n,[.int .i64 0,.str [],.str [],.int .i64 0])::m) (.r []) ?_ ?_⟩<;>clear h
 rintro j32 _ n35 hnn35 _ _ h
 refine AB (.c (.q (.r []) .z) .z) ?_
 exact tR
 intro k33 Jk33 hk33 h
 rcases AC h with h|h
 exact tJ (hk33 () ())
 exact tJ (hk33 () ())
theorem Ls {a0 a1 r} (h:Ip N a0 a1=some r) (ha:args=[Hm a0,A9 a1]) (hQ: ∀n',n≤n'→Gl (Q (.slice 4 (List.map A9 r) false) ⟨m,n'⟩)):ACall vE 26 args ⟨m,n⟩ Q:=by
 rw[Ip]at h
 subst ha
 refine ent hQ Tryz.func26 rfl Tryz.ntmps26 Tryz.results26 (.q (.r []) (.q (.r []) .z)) fun R hR=>?_
 replace h:=And.intro trivial h
 simp(disch:=omega) only[vm,seval,h.1]
 refine⟨AQ (γ:=Unit) h [7,8,9,10,11,12,13,14,15,16,17,18,19,20] [5] (fun j1 g=>[.slice 1 (List.map AVal.str j1) true]) (fun j1 g=>((n+1),[.int .i64 a1.kind,.str a1.text,.str a1.host,.int .i64 a1.port])::(n,[.str a0.subject,.slice 1 (List.map AVal.str a0.aliases) false,.slice 3 (List.map AY a0.properties) false,.slice 6 (List.map Aw a0.links) false])::m) (.q (.r []) .z) ?_ ?_⟩<;>clear h
 rintro j1 _ n4 hnn4 _ _ h
 refine AB (.q .z .z) ?_
 obtain⟨c,h⟩:=AR h
 try simp only[liE,seval]at c
 replace h:=AP c h
 obtain⟨c,h⟩:=AR h
 try simp only[liE,seval]at c
 replace h:=AP c h
 obtain⟨y8,h⟩:=AA h
 have cy8:=h.1.1
 simp(disch:=omega) only[vm,seval,h.1]
 refine⟨BI [21] (.take 1 (.take 2 (.take 3 (.take 5 (.take 6 (.take 8 (.alt 0 [8,6,5,3,2,1] (.alt 4 [8,6,5,2,1] (.alt 7 [8,5,3,2,1] (.alt 9 [6,5,3,2,1] (.alt 10 [] (.done) (.stop)) (.stop)) (.stop)) (.stop)) (.stop)))))))) Au (by kernel_rfl) ?_⟩
 simp(disch:=omega) only[vm,seval,h.1]
 refine⟨R6 cy8 tD fun n9 hn9=>?_⟩
 exact tR
 intro k2 Jk2 hk2 h
 obtain⟨y5,h⟩:=AA h
 simp(disch:=omega) only[vm,seval,h.1]
 refine⟨AAV h.1.1 tD fun n6 hn6=>?_⟩
 obtain⟨hfk7,h⟩:=AR h
 simp(disch:=omega) only[vm,seval,h.1]
 refine⟨BM (σ:=(List (List UInt8))) (γ:=Unit) y5 hfk7 (fun xs i s=>DK N k2 xs s) (fun i s g=>[.slice 1 (List.map AVal.str s) true,.int .i64 i]) (fun i s g=>((n+1),[.int .i64 a1.kind,.str a1.text,.str a1.host,.int .i64 a1.port])::(n,[.str a0.subject,.slice 1 (List.map AVal.str a0.aliases) false,.slice 3 (List.map AY a0.properties) false,.slice 6 (List.map Aw a0.links) false])::m) [7,12,13,14,15,16,17,18,19,20] [5,11] [] () h tD tD ?_ ?_⟩<;>clear h
 rintro s11 s5 _ nL0_1 hnL0_1 _ h
 change _∧DK N k2 [] s5=_ at h
 rw[DK]at h
 refine AB (.q (.r []) (.q (.c .z .z) (.q (.q (.r []) (.r [15])) (.r [])))) ?_
 exact tJ (hk2 s5 ())
 rintro xk7 xsk7 s11 s5 _ nL0_1 hnL0_1 _ h Jk7 hk7
 change _∧DK N k2 (xk7::xsk7) s5=_ at h
 rw[DK]at h
 refine AB (.q (.r []) (.q (.c .z .z) (.q (.q (.r []) (.r [15])) (.r [])))) ?_
 obtain⟨c,h⟩:=AR h
 try simp only[liE,seval]at c
 replace h:=AP c h
 exact tJ (hk7 (s5++[xk7.href]) ())
end Go.Proofs.YtjgdhjpafjpjgaaGreatDoor
