import Derived.Test.YtjgdhjpafjpjgaaGreatDoorVmFacts
import Derived.Test.YtjgdhjpafjpjgaaGreatDoorDefs
import Derived.Test.YtjgdhjpafjpjgaaGreatDoorVM2
import Derived.Test.YtjgdhjpafjpjgaaGreatDoorW1
import Derived.Test.YtjgdhjpafjpjgaaGreatDoorW7
import Derived.Test.YtjgdhjpafjpjgaaGreatDoorW8
import Derived.Test.YtjgdhjpafjpjgaaGreatDoorW18
set_option linter.unusedVariables false
set_option linter.unusedSimpArgs false
set_option maxHeartbeats 4000000
set_option maxRecDepth 100000
set_option linter.defProp false
namespace Go.Proofs.YtjgdhjpafjpjgaaGreatDoor
open Go.VM
variable{N n:Nat}{m:MS}{Q:PQ}{args:List AVal}
theorem Kh {a0 r} (h:Er N a0=some r) (ha:args=[.str a0]) (hQ: ∀n',n≤n'→Gl (Q (.bool r) ⟨m,n'⟩)):ACall vE 4 args ⟨m,n⟩ Q:=by
 rw[Er]at h
 subst ha
 refine ent hQ Tryz.func4 rfl Tryz.ntmps4 Tryz.results4 (.q (.r []) (.q (.q (.r []) (.c (.q (.r []) .z) .z)) (.q (.r []) .z))) fun R hR=>?_
 replace h:=And.intro trivial h
 obtain⟨y1,h⟩:=AA h
 simp(maxSteps:=10000000) (disch:=omega) only[vm,seval,h.1]
 refine⟨Qz h.1.1 (by first|(simp(maxSteps:=10000000) (disch:=omega) only[vm,seval,h.1];done)|rfl) fun n2 hn2=>?_⟩
 rcases AC h with h|h
 rcases AC h with h|h
 obtain⟨H,h⟩:=h
 cases h
 simp(maxSteps:=10000000) (disch:=omega) only[vm,seval,H]
 refine⟨(hR _ _ _ _ _ _ (by simp(maxSteps:=10000000) (disch:=omega) only[vm,seval,H];rfl) slr ?_ (by omega) ?_).1⟩<;>first|(simp(maxSteps:=10000000) (disch:=omega) only[vm,seval,H];done)|rfl
 obtain⟨y3,h⟩:=AA h
 simp(maxSteps:=10000000) (disch:=omega) only[vm,seval,h.1]
 refine⟨Hu h.1.1 (by first|(simp(maxSteps:=10000000) (disch:=omega) only[vm,seval,h.1];done)|rfl) fun n4 hn4=>?_⟩
 obtain⟨y5,h⟩:=AA h
 simp(maxSteps:=10000000) (disch:=omega) only[vm,seval,h.1]
 refine⟨OT h.1.1 (by first|(simp(maxSteps:=10000000) (disch:=omega) only[vm,seval,h.1];done)|rfl) fun n6 hn6=>?_⟩
 obtain⟨y7,h⟩:=AA h
 simp(maxSteps:=10000000) (disch:=omega) only[vm,seval,h.1]
 refine⟨LF h.1.1 (by first|(simp(maxSteps:=10000000) (disch:=omega) only[vm,seval,h.1];done)|rfl) fun n8 hn8=>?_⟩
 obtain⟨H,h⟩:=h
 cases h
 simp(maxSteps:=10000000) (disch:=omega) only[vm,seval,H]
 refine⟨(hR _ _ _ _ _ _ (by simp(maxSteps:=10000000) (disch:=omega) only[vm,seval,H];rfl) slr ?_ (by omega) ?_).1⟩<;>first|(simp(maxSteps:=10000000) (disch:=omega) only[vm,seval,H];done)|rfl
 obtain⟨H,h⟩:=h
 cases h
 simp(maxSteps:=10000000) (disch:=omega) only[vm,seval,H]
 refine⟨(hR _ _ _ _ _ _ (by simp(maxSteps:=10000000) (disch:=omega) only[vm,seval,H];rfl) slr ?_ (by omega) ?_).1⟩<;>first|(simp(maxSteps:=10000000) (disch:=omega) only[vm,seval,H];done)|rfl
end Go.Proofs.YtjgdhjpafjpjgaaGreatDoor
