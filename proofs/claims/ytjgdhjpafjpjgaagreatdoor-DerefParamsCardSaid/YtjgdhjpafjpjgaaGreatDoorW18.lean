import Derived.Test.YtjgdhjpafjpjgaaGreatDoorVmFacts
import Derived.Test.YtjgdhjpafjpjgaaGreatDoorDefs
import Derived.Test.YtjgdhjpafjpjgaaGreatDoorVM2
import Derived.Test.YtjgdhjpafjpjgaaGreatDoorW7
import Derived.Test.YtjgdhjpafjpjgaaGreatDoorW14
import Derived.Test.YtjgdhjpafjpjgaaGreatDoorW17
set_option linter.unusedVariables false
set_option linter.unusedSimpArgs false
set_option maxHeartbeats 4000000
set_option maxRecDepth 100000
set_option linter.defProp false
namespace Go.Proofs.YtjgdhjpafjpjgaaGreatDoor
open Go.VM
variable{N n:Nat}{m:MS}{Q:PQ}{args:List AVal}
theorem Qz {r} (h:JJ N=some r) (ha:args=[]) (hQ: ∀n',n≤n'→Gl (Q (.bool r) ⟨m,n'⟩)):ACall vE 16 args ⟨m,n⟩ Q:=by
 rw[JJ]at h
 subst ha
 refine ent hQ Tryz.func16 rfl Tryz.ntmps16 Tryz.results16 (.q (.r []) (.q (.r []) (.q (.r []) (.q (.r []) .z)))) fun R hR=>?_
 replace h:=And.intro trivial h
 obtain⟨y1,h⟩:=AA h
 simp(maxSteps:=10000000) (disch:=omega) only[vm,seval,h.1]
 refine⟨PD h.1.1 (by first|(simp(maxSteps:=10000000) (disch:=omega) only[vm,seval,h.1];done)|rfl) fun n2 hn2=>?_⟩
 obtain⟨y3,h⟩:=AA h
 simp(maxSteps:=10000000) (disch:=omega) only[vm,seval,h.1]
 refine⟨NU h.1.1 (by first|(simp(maxSteps:=10000000) (disch:=omega) only[vm,seval,h.1];done)|rfl) fun n4 hn4=>?_⟩
 rcases AC h with h|h
 rcases AC h with h|h
 obtain⟨y5,h⟩:=AA h
 simp(maxSteps:=10000000) (disch:=omega) only[vm,seval,h.1]
 refine⟨Hu h.1.1 (by first|(simp(maxSteps:=10000000) (disch:=omega) only[vm,seval,h.1];done)|rfl) fun n6 hn6=>?_⟩
 obtain⟨H,h⟩:=h
 cases h
 simp(maxSteps:=10000000) (disch:=omega) only[vm,seval,H]
 refine⟨(hR _ _ _ _ _ _ (by simp(maxSteps:=10000000) (disch:=omega) only[vm,seval,H];rfl) (.cons _ slr) ?_ (by omega) ?_).1⟩<;>first|(simp(maxSteps:=10000000) (disch:=omega) only[vm,seval,H];done)|rfl
 obtain⟨H,h⟩:=h
 cases h
 simp(maxSteps:=10000000) (disch:=omega) only[vm,seval,H]
 refine⟨(hR _ _ _ _ _ _ (by simp(maxSteps:=10000000) (disch:=omega) only[vm,seval,H];rfl) (.cons _ slr) ?_ (by omega) ?_).1⟩<;>first|(simp(maxSteps:=10000000) (disch:=omega) only[vm,seval,H];done)|rfl
 obtain⟨H,h⟩:=h
 cases h
 simp(maxSteps:=10000000) (disch:=omega) only[vm,seval,H]
 refine⟨(hR _ _ _ _ _ _ (by simp(maxSteps:=10000000) (disch:=omega) only[vm,seval,H];rfl) (.cons _ slr) ?_ (by omega) ?_).1⟩<;>first|(simp(maxSteps:=10000000) (disch:=omega) only[vm,seval,H];done)|rfl
end Go.Proofs.YtjgdhjpafjpjgaaGreatDoor
