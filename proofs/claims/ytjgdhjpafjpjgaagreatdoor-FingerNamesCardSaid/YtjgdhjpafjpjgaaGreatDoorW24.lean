import Derived.Test.YtjgdhjpafjpjgaaGreatDoorVmFacts
import Derived.Test.YtjgdhjpafjpjgaaGreatDoorDefs
import Derived.Test.YtjgdhjpafjpjgaaGreatDoorVM2
import Derived.Test.YtjgdhjpafjpjgaaGreatDoorW0
import Derived.Test.YtjgdhjpafjpjgaaGreatDoorW1
import Derived.Test.YtjgdhjpafjpjgaaGreatDoorW18
import Derived.Test.YtjgdhjpafjpjgaaGreatDoorW19
import Derived.Test.YtjgdhjpafjpjgaaGreatDoorW21
import Derived.Test.YtjgdhjpafjpjgaaGreatDoorW23
set_option linter.unusedVariables false
set_option linter.unusedSimpArgs false
set_option maxHeartbeats 4000000
set_option maxRecDepth 100000
set_option linter.defProp false
namespace Go.Proofs.YtjgdhjpafjpjgaaGreatDoor
open Go.VM
variable{N n:Nat}{m:MS}{Q:PQ}{args:List AVal}
theorem Ol {a0 a1 a2 r} (h:Gp N a0 a1 a2=some r) (ha:args=[Hm a0,A9 a1,.slice 1 (List.map (AVal.int .u8) a2) false]) (hQ: ∀n',n≤n'→Gl (Q (.bool r) ⟨m,n'⟩)):ACall vE 6 args ⟨m,n⟩ Q:=by
 rw[Gp]at h
 subst ha
 refine ent hQ Tryz.func6 rfl Tryz.ntmps6 Tryz.results6 (.q (.r []) (.q (.q (.r []) (.c (.q (.r []) .z) .z)) (.q .z (.q (.r []) (.q .z .z))))) fun R hR=>?_
 replace h:=And.intro trivial h
 obtain⟨y1,h⟩:=AA h
 simp(maxSteps:=10000000) (disch:=omega) only[vm,seval,h.1]
 refine⟨XM h.1.1 (by first|(simp(maxSteps:=10000000) (disch:=omega) only[vm,seval,h.1];done)|rfl) fun n2 hn2=>?_⟩
 rcases AC h with h|h
 simp(maxSteps:=10000000) (disch:=omega) only[vm,seval,h.1]
 refine⟨AQ (γ:=Unit) h [10,11,12,13,14,15,16] [17] (fun j3 g=>[.bool j3]) (fun j3 g=>((n+1),[.int .i64 a1.kind,.str a1.text,.str a1.host,.int .i64 a1.port])::(n,[.str a0.subject,.slice 1 (List.map AVal.str a0.aliases) false,.slice 3 (List.map AY a0.properties) false,.slice 6 (List.map Aw a0.links) false])::m) (.r []) ?_ ?_⟩<;>clear h
 rintro j3 _ n6 hnn6 _ _ h
 refine AB (.c (.q (.r []) .z) .z) ?_
 rcases AC h with h|h
 obtain⟨H,h⟩:=h
 cases h
 simp(maxSteps:=10000000) (disch:=omega) only[vm,seval,H]
 refine⟨(hR _ _ _ _ _ _ (by simp(maxSteps:=10000000) (disch:=omega) only[vm,seval,H];rfl) (.cons _ (.cons _ slr)) ?_ (by omega) ?_).1⟩<;>first|(simp(maxSteps:=10000000) (disch:=omega) only[vm,seval,H];done)|rfl
 obtain⟨y11,h⟩:=AA h
 simp(maxSteps:=10000000) (disch:=omega) only[vm,seval,h.1]
 refine⟨Pi h.1.1 (by first|(simp(maxSteps:=10000000) (disch:=omega) only[vm,seval,h.1];done)|rfl) fun n12 hn12=>?_⟩
 obtain⟨y13,h⟩:=AA h
 have cy13:=h.1.1
 obtain⟨y15,h⟩:=AA h
 have cy15:=h.1.1
 obtain⟨y17,h⟩:=AA h
 have cy17:=h.1.1
 rcases AC h with h|h
 obtain⟨y19,h⟩:=AA h
 have cy19:=h.1.1
 obtain⟨y21,h⟩:=AA h
 have cy21:=h.1.1
 obtain⟨y23,h⟩:=AA h
 have cy23:=h.1.1
 simp(maxSteps:=10000000) (disch:=omega) only[vm,seval,h.1]
 refine⟨BI [] (.take 0 (.take 1 (.take 3 (.take 4 (.alt 2 [4,3] (.alt 5 [1,0] (.alt 6 [4,3,1,0] (.take 7 (.take 8 (.take 9 (.take 11 (.take 12 (.alt 10 [12,11,4,3,1,0] (.alt 13 [9,8,4,3,1,0] (.alt 14 [12,11,9,8,4,3,1,0] (.take 15 (.alt 16 [] (.done) (.stop))) (.stop)) (.stop)) (.stop))))))) (.stop)) (.stop)) (.stop)))))) Au (by kernel_rfl) ?_⟩
 simp(maxSteps:=10000000) (disch:=omega) only[vm,seval,h.1]
 refine⟨LG cy13 (by first|(simp(maxSteps:=10000000) (disch:=omega) only[vm,seval,h.1];done)|rfl) fun n14 hn14=>?_⟩
 simp(maxSteps:=10000000) (disch:=omega) only[vm,seval,h.1]
 refine⟨Ls cy15 (by first|(simp(maxSteps:=10000000) (disch:=omega) only[vm,seval,h.1];done)|rfl) fun n16 hn16=>?_⟩
 simp(maxSteps:=10000000) (disch:=omega) only[vm,seval,h.1]
 refine⟨I6 cy17 (by first|(simp(maxSteps:=10000000) (disch:=omega) only[vm,seval,h.1];done)|rfl) fun n18 hn18=>?_⟩
 simp(maxSteps:=10000000) (disch:=omega) only[vm,seval,h.1]
 refine⟨LG cy19 (by first|(simp(maxSteps:=10000000) (disch:=omega) only[vm,seval,h.1];done)|rfl) fun n20 hn20=>?_⟩
 simp(maxSteps:=10000000) (disch:=omega) only[vm,seval,h.1]
 refine⟨Ls cy21 (by first|(simp(maxSteps:=10000000) (disch:=omega) only[vm,seval,h.1];done)|rfl) fun n22 hn22=>?_⟩
 simp(maxSteps:=10000000) (disch:=omega) only[vm,seval,h.1]
 refine⟨I6 cy23 (by first|(simp(maxSteps:=10000000) (disch:=omega) only[vm,seval,h.1];done)|rfl) fun n24 hn24=>?_⟩
 obtain⟨H,h⟩:=h
 cases h
 simp(maxSteps:=10000000) (disch:=omega) only[vm,seval,H]
 refine⟨(hR _ _ _ _ _ _ (by simp(maxSteps:=10000000) (disch:=omega) only[vm,seval,H];rfl) (.cons _ (.cons _ (.cons _ slr))) ?_ (by omega) ?_).1⟩<;>first|(simp(maxSteps:=10000000) (disch:=omega) only[vm,seval,H];done)|rfl
 simp(maxSteps:=10000000) (disch:=omega) only[vm,seval,h.1]
 refine⟨BI [] (.take 0 (.take 1 (.take 3 (.take 4 (.alt 2 [4,3] (.alt 5 [1,0] (.alt 6 [4,3,1,0] (.take 7 (.take 8 (.take 9 (.take 11 (.take 12 (.alt 10 [12,11,4,3,1,0] (.alt 13 [9,8,4,3,1,0] (.alt 14 [12,11,9,8,4,3,1,0] (.take 15 (.alt 16 [] (.done) (.stop))) (.stop)) (.stop)) (.stop))))))) (.stop)) (.stop)) (.stop)))))) Au (by kernel_rfl) ?_⟩
 simp(maxSteps:=10000000) (disch:=omega) only[vm,seval,h.1]
 refine⟨LG cy13 (by first|(simp(maxSteps:=10000000) (disch:=omega) only[vm,seval,h.1];done)|rfl) fun n14 hn14=>?_⟩
 simp(maxSteps:=10000000) (disch:=omega) only[vm,seval,h.1]
 refine⟨Ls cy15 (by first|(simp(maxSteps:=10000000) (disch:=omega) only[vm,seval,h.1];done)|rfl) fun n16 hn16=>?_⟩
 simp(maxSteps:=10000000) (disch:=omega) only[vm,seval,h.1]
 refine⟨I6 cy17 (by first|(simp(maxSteps:=10000000) (disch:=omega) only[vm,seval,h.1];done)|rfl) fun n18 hn18=>?_⟩
 obtain⟨H,h⟩:=h
 cases h
 simp(maxSteps:=10000000) (disch:=omega) only[vm,seval,H]
 refine⟨(hR _ _ _ _ _ _ (by simp(maxSteps:=10000000) (disch:=omega) only[vm,seval,H];rfl) (.cons _ (.cons _ (.cons _ slr))) ?_ (by omega) ?_).1⟩<;>first|(simp(maxSteps:=10000000) (disch:=omega) only[vm,seval,H];done)|rfl
 intro k4 Jk4 hk4 h
 obtain⟨y7,h⟩:=AA h
 simp(maxSteps:=10000000) (disch:=omega) only[vm,seval,h.1]
 refine⟨AGC h.1.1 (by first|(simp(maxSteps:=10000000) (disch:=omega) only[vm,seval,h.1];done)|rfl) fun n8 hn8=>?_⟩
 rcases AC h with h|h
 obtain⟨y9,h⟩:=AA h
 simp(maxSteps:=10000000) (disch:=omega) only[vm,seval,h.1]
 refine⟨AKq h.1.1 (by first|(simp(maxSteps:=10000000) (disch:=omega) only[vm,seval,h.1];done)|rfl) fun n10 hn10=>?_⟩
 simp(maxSteps:=10000000) (disch:=omega) only[vm,seval,h.1]
 refine⟨hk4 (!y9) () _ _ _ _ h.2 slr ?_ ?_ ?_ (by omega)⟩<;>first|(simp(maxSteps:=10000000) (disch:=omega) only[vm,seval,h.1];done)|rfl
 simp(maxSteps:=10000000) (disch:=omega) only[vm,seval,h.1]
 refine⟨hk4 true () _ _ _ _ h.2 slr ?_ ?_ ?_ (by omega)⟩<;>first|(simp(maxSteps:=10000000) (disch:=omega) only[vm,seval,h.1];done)|rfl
 obtain⟨H,h⟩:=h
 cases h
 simp(maxSteps:=10000000) (disch:=omega) only[vm,seval,H]
 refine⟨(hR _ _ _ _ _ _ (by simp(maxSteps:=10000000) (disch:=omega) only[vm,seval,H];rfl) (.cons _ (.cons _ slr)) ?_ (by omega) ?_).1⟩<;>first|(simp(maxSteps:=10000000) (disch:=omega) only[vm,seval,H];done)|rfl
end Go.Proofs.YtjgdhjpafjpjgaaGreatDoor
