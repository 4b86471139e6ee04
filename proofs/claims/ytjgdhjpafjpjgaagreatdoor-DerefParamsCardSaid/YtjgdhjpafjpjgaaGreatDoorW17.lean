import Derived.Test.YtjgdhjpafjpjgaaGreatDoorVmFacts
import Derived.Test.YtjgdhjpafjpjgaaGreatDoorDefs
import Derived.Test.YtjgdhjpafjpjgaaGreatDoorVM2
import Derived.Test.YtjgdhjpafjpjgaaGreatDoorW0
import Derived.Test.YtjgdhjpafjpjgaaGreatDoorW4
import Derived.Test.YtjgdhjpafjpjgaaGreatDoorW9
import Derived.Test.YtjgdhjpafjpjgaaGreatDoorW13
import Derived.Test.YtjgdhjpafjpjgaaGreatDoorW15
import Derived.Test.YtjgdhjpafjpjgaaGreatDoorW16
set_option linter.unusedVariables false
set_option linter.unusedSimpArgs false
set_option maxHeartbeats 4000000
set_option maxRecDepth 100000
set_option linter.defProp false
namespace Go.Proofs.YtjgdhjpafjpjgaaGreatDoor
open Go.VM
variable{N n:Nat}{m:MS}{Q:PQ}{args:List AVal}
theorem NU {a0 a1 r} (h:IY N a0 a1=some r) (ha:args=[AJ a0,FE a1]) (hQ: ∀n',n≤n'→Gl (Q (.tuple [.str r.1,.int .i64 r.2]) ⟨m,n'⟩)):ACall vE 21 args ⟨m,n⟩ Q:=by
 rw[IY]at h
 subst ha
 refine ent hQ Tryz.func21 rfl Tryz.ntmps21 Tryz.results21 (.q (.r []) (.q (.r []) (.q (.q (.r []) (.c (.q (.r []) .z) .z)) (.q (.r []) (.q (.r []) .z))))) fun R hR=>?_
 replace h:=And.intro trivial h
 obtain⟨y1,h⟩:=AA h
 simp(disch:=omega) only[vm,seval,h.1]
 refine⟨NL h.1.1 tD fun n2 hn2=>?_⟩
 rcases AC h with h|h
 exact tR
 · replace h:=AA h
   obtain⟨y3,h⟩:=h
   simp(disch:=omega) only[vm,seval,h.1]
   refine⟨OX h.1.1 tD fun n4 hn4=>?_⟩
   obtain⟨y5,h⟩:=AA h
   simp(disch:=omega) only[vm,seval,h.1]
   refine⟨Kr h.1.1 tD fun n6 hn6=>?_⟩
   simp(disch:=omega) only[vm,seval,h.1]
   refine⟨AP (γ:=Unit) h [32,33,34,35,36,37,38,39,40,41,42] [11,12] (fun j7 g=>[.slice 1 (List.map AVal.str j7.1) false,.bool j7.2]) (fun j7 g=>(n2,[.str y1.1.iD,.slice 1 (List.map AVal.str y1.1.also) false,.slice 1 (List.map AVal.str y1.1.controllers) false,.slice 3 (List.map Ad y1.1.methods) false,.slice 3 (List.map Ac y1.1.services) false])::((n+1),[.str a1.dID.method,.str a1.dID.iD,.str a1.path,.str a1.query,.str a1.fragment,.bool a1.hasQuery,.bool a1.hasFrag])::(n,[.int .i64 a0.kind,.str a0.text,.slice 1 (List.map AVal.str a0.keys) false,.slice 4 (List.map AJ a0.items) false])::m) .z ?_ ?_⟩<;>clear h
   rintro j7 _ n10 hnn10 _ _ h
   refine AB (.q .z (.q (.r []) .z)) ?_
   simp(disch:=omega) only[vm,seval,h.1]
   refine⟨AP (γ:=Unit) h [44,45,46,47,48,49] [43] (fun j15 g=>[.bool j15]) (fun j15 g=>(n2,[.str y1.1.iD,.slice 1 (List.map AVal.str y1.1.also) false,.slice 1 (List.map AVal.str y1.1.controllers) false,.slice 3 (List.map Ad y1.1.methods) false,.slice 3 (List.map Ac y1.1.services) false])::((n+1),[.str a1.dID.method,.str a1.dID.iD,.str a1.path,.str a1.query,.str a1.fragment,.bool a1.hasQuery,.bool a1.hasFrag])::(n,[.int .i64 a0.kind,.str a0.text,.slice 1 (List.map AVal.str a0.keys) false,.slice 4 (List.map AJ a0.items) false])::m) (.r []) ?_ ?_⟩<;>clear h
   rintro j15 _ n18 hnn18 _ _ h
   refine AB (.c (.q (.r []) .z) (.q (.r []) (.c (.q (.r []) .z) .z))) ?_
   rcases AC h with h|h
   exact tR
   rcases AC h with h|h
   exact tR
   obtain⟨x19,h⟩:=AA h
   obtain⟨y20,h⟩:=AA h
   simp(disch:=omega) only[vm,seval,h.1]
   refine⟨Hr h.1.1 tD fun n21 hn21=>?_⟩
   simp(disch:=omega) only[vm,seval,h.1]
   refine⟨AP (γ:=Unit) h [14,15,61,62,63,64,65,66,67,68,69,70,71,72,73,74,75,76] [7] (fun j22 g=>[.int .i64 j22.1]) (fun j22 g=>(n21,[.str j22.2.host,.int .i64 j22.2.port,.str j22.2.path,.str j22.2.query,.str j22.2.fragment,.bool j22.2.hasQuery,.bool j22.2.hasFrag])::(n2,[.str y1.1.iD,.slice 1 (List.map AVal.str y1.1.also) false,.slice 1 (List.map AVal.str y1.1.controllers) false,.slice 3 (List.map Ad y1.1.methods) false,.slice 3 (List.map Ac y1.1.services) false])::((n+1),[.str a1.dID.method,.str a1.dID.iD,.str a1.path,.str a1.query,.str a1.fragment,.bool a1.hasQuery,.bool a1.hasFrag])::(n,[.int .i64 a0.kind,.str a0.text,.slice 1 (List.map AVal.str a0.keys) false,.slice 4 (List.map AJ a0.items) false])::m) (.q (.r []) .z) ?_ ?_⟩<;>clear h
   rintro j22 _ n25 hnn25 _ _ h
   refine AB (.q (.q (.r []) (.c (.q (.r []) .z) .z)) .z) ?_
   rcases AC h with h|h
   exact tR
   simp(disch:=omega) only[vm,seval,h.1]
   refine⟨AP (γ:=Unit) h [79,80,81,82,83,84,85,86,87,88,89] [] (fun j34 g=>[]) (fun j34 g=>(n21,[.str j22.2.host,.int .i64 j22.2.port,.str j22.2.path,.str j22.2.query,.str j34.1,.bool j22.2.hasQuery,.bool j34.2])::(n2,[.str y1.1.iD,.slice 1 (List.map AVal.str y1.1.also) false,.slice 1 (List.map AVal.str y1.1.controllers) false,.slice 3 (List.map Ad y1.1.methods) false,.slice 3 (List.map Ac y1.1.services) false])::((n+1),[.str a1.dID.method,.str a1.dID.iD,.str a1.path,.str a1.query,.str a1.fragment,.bool a1.hasQuery,.bool a1.hasFrag])::(n,[.int .i64 a0.kind,.str a0.text,.slice 1 (List.map AVal.str a0.keys) false,.slice 4 (List.map AJ a0.items) false])::m) .z ?_ ?_⟩<;>clear h
   rintro j34 _ n37 hnn37 _ _ h
   refine AB (.q (.r []) (.q (.q (.r []) (.c (.q (.r []) .z) .z)) (.q (.r []) .z))) ?_
   obtain⟨y42,h⟩:=AA h
   simp(disch:=omega) only[vm,seval,h.1]
   refine⟨FY h.1.1 tD fun n43 hn43=>?_⟩
   rcases AC h with h|h
   exact tR
   exact tR
   intro k35 Jk35 hk35 h
   simp(disch:=omega) only[vm,seval,h.1]
   refine⟨AP (γ:=Unit) h [79,80,81,82,83,84] [85] (fun j38 g=>[.bool j38]) (fun j38 g=>(n21,[.str j22.2.host,.int .i64 j22.2.port,.str j22.2.path,.str j22.2.query,.str j22.2.fragment,.bool j22.2.hasQuery,.bool j22.2.hasFrag])::(n2,[.str y1.1.iD,.slice 1 (List.map AVal.str y1.1.also) false,.slice 1 (List.map AVal.str y1.1.controllers) false,.slice 3 (List.map Ad y1.1.methods) false,.slice 3 (List.map Ac y1.1.services) false])::((n+1),[.str a1.dID.method,.str a1.dID.iD,.str a1.path,.str a1.query,.str a1.fragment,.bool a1.hasQuery,.bool a1.hasFrag])::(n,[.int .i64 a0.kind,.str a0.text,.slice 1 (List.map AVal.str a0.keys) false,.slice 4 (List.map AJ a0.items) false])::m) (.r []) ?_ ?_⟩<;>clear h
   rintro j38 _ n41 hnn41 _ _ h
   refine AB (.c (.r []) .z) ?_
   rcases AC h with h|h
   exact tJ (hk35 (a1.fragment,true) ())
   exact tJ (hk35 (j22.2.fragment,j22.2.hasFrag) ())
   intro k39 Jk39 hk39 h
   rcases AC h with h|h
   exact tJ (hk39 (!j22.2.hasFrag) ())
   exact tJ (hk39 false ())
   intro k23 Jk23 hk23 h
   obtain⟨y26,h⟩:=AA h
   simp(disch:=omega) only[vm,seval,h.1]
   refine⟨Kr h.1.1 tD fun n27 hn27=>?_⟩
   simp(disch:=omega) only[vm,seval,h.1]
   refine⟨AP (γ:=Unit) h [66,67,68,69] [70] (fun j28 g=>[.bool j28]) (fun j28 g=>(n21,[.str y20.1.host,.int .i64 y20.1.port,.str y20.1.path,.str y20.1.query,.str y20.1.fragment,.bool y20.1.hasQuery,.bool y20.1.hasFrag])::(n2,[.str y1.1.iD,.slice 1 (List.map AVal.str y1.1.also) false,.slice 1 (List.map AVal.str y1.1.controllers) false,.slice 3 (List.map Ad y1.1.methods) false,.slice 3 (List.map Ac y1.1.services) false])::((n+1),[.str a1.dID.method,.str a1.dID.iD,.str a1.path,.str a1.query,.str a1.fragment,.bool a1.hasQuery,.bool a1.hasFrag])::(n,[.int .i64 a0.kind,.str a0.text,.slice 1 (List.map AVal.str a0.keys) false,.slice 4 (List.map AJ a0.items) false])::m) (.r []) ?_ ?_⟩<;>clear h
   rintro j28 _ n31 hnn31 _ _ h
   refine AB (.c (.r []) .z) ?_
   rcases AC h with h|h
   obtain⟨y32,h⟩:=AA h
   simp(disch:=omega) only[vm,seval,h.1]
   refine⟨LX h.1.1 tD fun n33 hn33=>?_⟩
   exact tJ (hk23 (y32.2,y32.1) ())
   exact tJ (hk23 (y20.2,y20.1) ())
   intro k29 Jk29 hk29 h
   rcases AC h with h|h
   exact tJ (hk29 (y20.2==0) ())
   exact tJ (hk29 false ())
   intro k16 Jk16 hk16 h
   rcases AC h with h|h
   exact tJ (hk16 (!j7.2) ())
   exact tJ (hk16 true ())
   · intro k8 Jk8 hk8 h
     obtain⟨y11,h⟩:=AA h
     have cy11:=h.1.1
     obtain⟨c,h⟩:=AU h
     try simp only[liE,seval]at c
     replace h:=AQ c h
     obtain⟨c,h⟩:=AU h
     try simp only[liE,seval]at c
     replace h:=AQ c h
     obtain⟨y13,h⟩:=AA h
     have cy13:=h.1.1
     simp(disch:=omega) only[vm,seval,h.1]
     refine⟨BL [] (.take 0 (.take 1 (.take 2 (.take 5 (.alt 3 [5,1,0] (.take 4 (.take 6 (.alt 7 [4,5,2,1] (.take 8 (.alt 9 [6,4,5,2,1,0] (.alt 10 [6,4,5,2,1,0] (.alt 11 [] (.alt 12 [] (.done) (.stop)) (.stop)) (.alt 11 [] (.alt 10 [6,4,5,2,1,0] (.alt 12 [] (.done) (.stop)) (.stop)) (.stop))) (.alt 10 [6,4,5,2,1,0] (.alt 9 [6,4,5,2,1,0] (.alt 11 [] (.alt 12 [] (.done) (.stop)) (.stop)) (.stop)) (.stop)))) (.stop)))) (.stop)))))) Ar (by kernel_rfl) ?_⟩
     all_goals
      simp(disch:=omega) only[vm,seval,h.1]
      repeat' refine Nn ?_ ?_
      all_goals
       refine⟨Fa cy11 tD fun n12 hn12=>?_⟩
       all_goals
        simp(disch:=omega) only[vm,seval,h.1]
        repeat' refine Nn ?_ ?_
        all_goals
         refine⟨Lj cy13 tD fun n14 hn14=>?_⟩
         exact tJ (hk8 (y13.1,y13.2) ())
end Go.Proofs.YtjgdhjpafjpjgaaGreatDoor
