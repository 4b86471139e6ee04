import Derived.Test.YtooeobhihpkicaaGreatDoorVmFacts
import Derived.Test.YtooeobhihpkicaaGreatDoorDefs
import Derived.Test.YtooeobhihpkicaaGreatDoorVM2
import Derived.Test.YtooeobhihpkicaaGreatDoorW1
import Derived.Test.YtooeobhihpkicaaGreatDoorW3
import Derived.Test.YtooeobhihpkicaaGreatDoorW14
import Derived.Test.YtooeobhihpkicaaGreatDoorW15
import Derived.Test.YtooeobhihpkicaaGreatDoorW16
set_option linter.unusedVariables false
set_option linter.unusedSimpArgs false
set_option maxHeartbeats 4000000
set_option maxRecDepth 100000
set_option linter.defProp false
namespace Go.Proofs.YtooeobhihpkicaaGreatDoor
open Go.VM
variable{N n:Nat}{m:MS}{Q:PQ}{args:List AVal}
theorem Lb {a0 r} (h:Fz N a0=some r) (ha:args=[AB a0]) (hQ: ∀n',n≤n'→Gl (Q (.bool r) ⟨m,n'⟩)):ACall vE 7 args ⟨m,n⟩ Q:=by
 rw[Fz]at h
 subst ha
 refine ent hQ Tryz.func7 rfl Tryz.ntmps7 Tryz.results7 (.q (.r []) (.q (.q (.r []) (.c (.q (.r []) .z) .z)) (.q (.q (.r []) (.c (.q (.r []) .z) .z)) (.q (.r []) (.q (.q (.r []) (.c (.q (.r []) .z) .z)) (.q (.r []) (.q .z .z))))))) fun R hR=>?_
 replace h:=And.intro trivial h
 replace h:=AA h
 obtain⟨y1,h⟩:=h
 simp(maxSteps:=10000000) (disch:=omega) only[vm,seval,h.1]
 refine⟨Vy h.1.1 (by first|(simp(maxSteps:=10000000) (disch:=omega) only[vm,seval,h.1];done)|rfl) fun n2 hn2=>?_⟩
 replace h:=AJ h
 rcases h with h|h
 replace h:=AA h
 obtain⟨y3,h⟩:=h
 simp(maxSteps:=10000000) (disch:=omega) only[vm,seval,h.1]
 refine⟨VT h.1.1 (by first|(simp(maxSteps:=10000000) (disch:=omega) only[vm,seval,h.1];done)|rfl) fun n4 hn4=>?_⟩
 replace h:=AJ h
 rcases h with h|h
 replace h:=AA h
 obtain⟨y5,h⟩:=h
 simp(maxSteps:=10000000) (disch:=omega) only[vm,seval,h.1]
 refine⟨KD h.1.1 (by first|(simp(maxSteps:=10000000) (disch:=omega) only[vm,seval,h.1];done)|rfl) fun n6 hn6=>?_⟩
 replace h:=AJ h
 rcases h with h|h
 obtain⟨H,h⟩:=h
 cases h
 simp(maxSteps:=10000000) (disch:=omega) only[vm,seval,H]
 refine⟨(hR _ _ _ _ _ _ (by simp(maxSteps:=10000000) (disch:=omega) only[vm,seval,H];rfl) (.cons _ slr) ?_ (by omega) ?_).1⟩<;>first|(simp(maxSteps:=10000000) (disch:=omega) only[vm,seval,H];done)|rfl
 replace h:=AA h
 obtain⟨y7,h⟩:=h
 simp(maxSteps:=10000000) (disch:=omega) only[vm,seval,h.1]
 refine⟨Mm h.1.1 (by first|(simp(maxSteps:=10000000) (disch:=omega) only[vm,seval,h.1];done)|rfl) fun n8 hn8=>?_⟩
 replace h:=AJ h
 rcases h with h|h
 replace h:=AJ h
 rcases h with h|h
 replace h:=AA h
 obtain⟨y9,h⟩:=h
 have cy9:=h.1.1
 replace h:=AA h
 obtain⟨y11,h⟩:=h
 have cy11:=h.1.1
 replace h:=AJ h
 rcases h with h|h
 replace h:=AA h
 obtain⟨y13,h⟩:=h
 have cy13:=h.1.1
 simp(maxSteps:=10000000) (disch:=omega) only[vm,seval,h.1]
 refine⟨A7 [] (.take 0 (.take 1 (.take 2 (.take 3 (.take 4 (.take 5 (.take 6 (.take 7 (.take 8 (.take 9 (.take 10 (.alt 11 [9,7,6,5,4,3,2,1,0] (.alt 12 [10,7,6,5,4,3,2,1,0] (.take 13 (.take 14 (.take 15 (.take 16 (.alt 17 [13,10,9,8,7,6,5,4,3,2,1,0] (.take 18 (.alt 19 [] (.done) (.stop))) (.stop)))))) (.stop)) (.stop))))))))))))) Ak (by kernel_rfl) ?_⟩
 simp(maxSteps:=10000000) (disch:=omega) only[vm,seval,h.1]
 refine⟨Ik cy9 (by first|(simp(maxSteps:=10000000) (disch:=omega) only[vm,seval,h.1];done)|rfl) fun n10 hn10=>?_⟩
 simp(maxSteps:=10000000) (disch:=omega) only[vm,seval,h.1]
 refine⟨N7 cy11 (by first|(simp(maxSteps:=10000000) (disch:=omega) only[vm,seval,h.1];done)|rfl) fun n12 hn12=>?_⟩
 simp(maxSteps:=10000000) (disch:=omega) only[vm,seval,h.1]
 refine⟨R3 cy13 (by first|(simp(maxSteps:=10000000) (disch:=omega) only[vm,seval,h.1];done)|rfl) fun n14 hn14=>?_⟩
 obtain⟨H,h⟩:=h
 cases h
 simp(maxSteps:=10000000) (disch:=omega) only[vm,seval,H]
 refine⟨(hR _ _ _ _ _ _ (by simp(maxSteps:=10000000) (disch:=omega) only[vm,seval,H];rfl) (.cons _ (.cons _ slr)) ?_ (by omega) ?_).1⟩<;>first|(simp(maxSteps:=10000000) (disch:=omega) only[vm,seval,H];done)|rfl
 simp(maxSteps:=10000000) (disch:=omega) only[vm,seval,h.1]
 refine⟨A7 [] (.take 0 (.take 1 (.take 2 (.take 3 (.take 4 (.take 5 (.take 6 (.take 7 (.take 8 (.take 9 (.take 10 (.alt 11 [9,7,6,5,4,3,2,1,0] (.alt 12 [10,7,6,5,4,3,2,1,0] (.take 13 (.take 14 (.take 15 (.take 16 (.alt 17 [13,10,9,8,7,6,5,4,3,2,1,0] (.take 18 (.alt 19 [] (.done) (.stop))) (.stop)))))) (.stop)) (.stop))))))))))))) Ak (by kernel_rfl) ?_⟩
 simp(maxSteps:=10000000) (disch:=omega) only[vm,seval,h.1]
 refine⟨Ik cy9 (by first|(simp(maxSteps:=10000000) (disch:=omega) only[vm,seval,h.1];done)|rfl) fun n10 hn10=>?_⟩
 simp(maxSteps:=10000000) (disch:=omega) only[vm,seval,h.1]
 refine⟨N7 cy11 (by first|(simp(maxSteps:=10000000) (disch:=omega) only[vm,seval,h.1];done)|rfl) fun n12 hn12=>?_⟩
 obtain⟨H,h⟩:=h
 cases h
 simp(maxSteps:=10000000) (disch:=omega) only[vm,seval,H]
 refine⟨(hR _ _ _ _ _ _ (by simp(maxSteps:=10000000) (disch:=omega) only[vm,seval,H];rfl) (.cons _ (.cons _ slr)) ?_ (by omega) ?_).1⟩<;>first|(simp(maxSteps:=10000000) (disch:=omega) only[vm,seval,H];done)|rfl
 simp(maxSteps:=10000000) (disch:=omega) only[vm,seval,h.1]
 refine⟨A7 [] (.take 0 (.take 1 (.take 2 (.take 3 (.take 4 (.take 5 (.take 6 (.take 7 (.take 8 (.take 9 (.take 10 (.alt 11 [9,7,6,5,4,3,2,1,0] (.alt 12 [10,7,6,5,4,3,2,1,0] (.take 13 (.take 14 (.take 15 (.take 16 (.alt 17 [13,10,9,8,7,6,5,4,3,2,1,0] (.take 18 (.alt 19 [] (.done) (.stop))) (.stop)))))) (.stop)) (.stop))))))))))))) Ak (by kernel_rfl) ?_⟩
 obtain⟨H,h⟩:=h
 cases h
 simp(maxSteps:=10000000) (disch:=omega) only[vm,seval,H]
 refine⟨(hR _ _ _ _ _ _ (by simp(maxSteps:=10000000) (disch:=omega) only[vm,seval,H];rfl) (.cons _ (.cons _ slr)) ?_ (by omega) ?_).1⟩<;>first|(simp(maxSteps:=10000000) (disch:=omega) only[vm,seval,H];done)|rfl
 simp(maxSteps:=10000000) (disch:=omega) only[vm,seval,h.1]
 refine⟨A7 [] (.take 0 (.take 1 (.take 2 (.take 3 (.take 4 (.take 5 (.take 6 (.take 7 (.take 8 (.take 9 (.take 10 (.alt 11 [9,7,6,5,4,3,2,1,0] (.alt 12 [10,7,6,5,4,3,2,1,0] (.take 13 (.take 14 (.take 15 (.take 16 (.alt 17 [13,10,9,8,7,6,5,4,3,2,1,0] (.take 18 (.alt 19 [] (.done) (.stop))) (.stop)))))) (.stop)) (.stop))))))))))))) Ak (by kernel_rfl) ?_⟩
 obtain⟨H,h⟩:=h
 cases h
 simp(maxSteps:=10000000) (disch:=omega) only[vm,seval,H]
 refine⟨(hR _ _ _ _ _ _ (by simp(maxSteps:=10000000) (disch:=omega) only[vm,seval,H];rfl) (.cons _ (.cons _ slr)) ?_ (by omega) ?_).1⟩<;>first|(simp(maxSteps:=10000000) (disch:=omega) only[vm,seval,H];done)|rfl
 obtain⟨H,h⟩:=h
 cases h
 simp(maxSteps:=10000000) (disch:=omega) only[vm,seval,H]
 refine⟨(hR _ _ _ _ _ _ (by simp(maxSteps:=10000000) (disch:=omega) only[vm,seval,H];rfl) (.cons _ slr) ?_ (by omega) ?_).1⟩<;>first|(simp(maxSteps:=10000000) (disch:=omega) only[vm,seval,H];done)|rfl
 obtain⟨H,h⟩:=h
 cases h
 simp(maxSteps:=10000000) (disch:=omega) only[vm,seval,H]
 refine⟨(hR _ _ _ _ _ _ (by simp(maxSteps:=10000000) (disch:=omega) only[vm,seval,H];rfl) (.cons _ slr) ?_ (by omega) ?_).1⟩<;>first|(simp(maxSteps:=10000000) (disch:=omega) only[vm,seval,H];done)|rfl
end Go.Proofs.YtooeobhihpkicaaGreatDoor
