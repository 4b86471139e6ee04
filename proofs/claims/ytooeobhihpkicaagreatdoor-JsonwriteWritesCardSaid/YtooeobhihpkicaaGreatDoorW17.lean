import Derived.Test.YtooeobhihpkicaaGreatDoorVmFacts
import Derived.Test.YtooeobhihpkicaaGreatDoorDefs
import Derived.Test.YtooeobhihpkicaaGreatDoorVM2
import Derived.Test.YtooeobhihpkicaaGreatDoorW1
import Derived.Test.YtooeobhihpkicaaGreatDoorW2
import Derived.Test.YtooeobhihpkicaaGreatDoorW10
import Derived.Test.YtooeobhihpkicaaGreatDoorW11
import Derived.Test.YtooeobhihpkicaaGreatDoorW14
import Derived.Test.YtooeobhihpkicaaGreatDoorW15
import Derived.Test.YtooeobhihpkicaaGreatDoorW16
set_option linter.unusedVariables false
set_option linter.unusedSimpArgs false
set_option maxHeartbeats 4000000
set_option maxRecDepth 100000
set_option linter.defProp false
namespace Go.Proofs.YtooeobhihpkicaaGreatDoor
open Go.VM
variable{N n:Nat}{m:MS}{Q:PQ}{args:List AVal}
theorem Ku {a0 r} (h:FI N a0=some r) (ha:args=[AA a0]) (hQ: ∀n',n≤n'→Gl (Q (.bool r) ⟨m,n'⟩)):ACall vE 6 args ⟨m,n⟩ Q:=by
 rw[FI]at h
 subst ha
 refine ent hQ Tryz.func6 rfl Tryz.ntmps6 Tryz.results6 (.q (.r []) (.q (.q (.r []) (.c (.q (.r []) .z) .z)) (.q (.q (.r []) (.c (.q (.r []) .z) .z)) (.q (.r []) (.q (.r []) (.q .z .z)))))) fun R hR=>?_
 replace h:=And.intro trivial h
 replace h:=AB h
 obtain⟨y1,h⟩:=h
 simp(maxSteps:=10000000) (disch:=omega) only[vm,seval,h.1]
 refine⟨UU h.1.1 (by first|(simp(maxSteps:=10000000) (disch:=omega) only[vm,seval,h.1];done)|rfl) fun n2 hn2=>?_⟩
 replace h:=AJ h
 rcases h with h|h
 replace h:=AB h
 obtain⟨y3,h⟩:=h
 simp(maxSteps:=10000000) (disch:=omega) only[vm,seval,h.1]
 refine⟨UT h.1.1 (by first|(simp(maxSteps:=10000000) (disch:=omega) only[vm,seval,h.1];done)|rfl) fun n4 hn4=>?_⟩
 replace h:=AJ h
 rcases h with h|h
 replace h:=AB h
 obtain⟨y5,h⟩:=h
 simp(maxSteps:=10000000) (disch:=omega) only[vm,seval,h.1]
 refine⟨KA h.1.1 (by first|(simp(maxSteps:=10000000) (disch:=omega) only[vm,seval,h.1];done)|rfl) fun n6 hn6=>?_⟩
 replace h:=AB h
 obtain⟨y7,h⟩:=h
 simp(maxSteps:=10000000) (disch:=omega) only[vm,seval,h.1]
 refine⟨R8 h.1.1 (by first|(simp(maxSteps:=10000000) (disch:=omega) only[vm,seval,h.1];done)|rfl) fun n8 hn8=>?_⟩
 replace h:=AB h
 obtain⟨y9,h⟩:=h
 have cy9:=h.1.1
 replace h:=AB h
 obtain⟨y11,h⟩:=h
 have cy11:=h.1.1
 replace h:=AJ h
 rcases h with h|h
 replace h:=AJ h
 rcases h with h|h
 replace h:=AJ h
 rcases h with h|h
 replace h:=AB h
 obtain⟨y13,h⟩:=h
 have cy13:=h.1.1
 replace h:=AB h
 obtain⟨y15,h⟩:=h
 have cy15:=h.1.1
 replace h:=AB h
 obtain⟨y17,h⟩:=h
 have cy17:=h.1.1
 simp(maxSteps:=10000000) (disch:=omega) only[vm,seval,h.1]
 refine⟨Ar [] (.take 0 (.take 2 (.alt 1 [2] (.alt 3 [0] (.take 4 (.take 5 (.take 6 (.take 7 (.take 8 (.take 9 (.take 10 (.take 11 (.take 12 (.take 13 (.take 14 (.take 15 (.take 16 (.take 18 (.alt 17 [18,14,13,12,11,10,9,8,7,6,5,4,2,0] (.alt 19 [16,14,13,12,11,10,9,8,7,6,5,4,2,0] (.alt 20 [18,16,14,13,12,11,10,9,8,7,6,5,4,2,0] (.take 21 (.alt 22 [] (.done) (.stop))) (.stop)) (.stop)) (.stop)))))))))))))))) (.stop)) (.stop)))) Af (by kernel_rfl) ?_⟩
 simp(maxSteps:=10000000) (disch:=omega) only[vm,seval,h.1]
 refine⟨DU cy9 (by first|(simp(maxSteps:=10000000) (disch:=omega) only[vm,seval,h.1];done)|rfl) fun n10 hn10=>?_⟩
 simp(maxSteps:=10000000) (disch:=omega) only[vm,seval,h.1]
 refine⟨Gq cy11 (by first|(simp(maxSteps:=10000000) (disch:=omega) only[vm,seval,h.1];done)|rfl) fun n12 hn12=>?_⟩
 simp(maxSteps:=10000000) (disch:=omega) only[vm,seval,h.1]
 refine⟨Li cy13 (by first|(simp(maxSteps:=10000000) (disch:=omega) only[vm,seval,h.1];done)|rfl) fun n14 hn14=>?_⟩
 simp(maxSteps:=10000000) (disch:=omega) only[vm,seval,h.1]
 refine⟨Nw cy15 (by first|(simp(maxSteps:=10000000) (disch:=omega) only[vm,seval,h.1];done)|rfl) fun n16 hn16=>?_⟩
 simp(maxSteps:=10000000) (disch:=omega) only[vm,seval,h.1]
 refine⟨UA cy17 (by first|(simp(maxSteps:=10000000) (disch:=omega) only[vm,seval,h.1];done)|rfl) fun n18 hn18=>?_⟩
 obtain⟨H,h⟩:=h
 cases h
 simp(maxSteps:=10000000) (disch:=omega) only[vm,seval,H]
 refine⟨(hR _ _ _ _ _ _ (by simp(maxSteps:=10000000) (disch:=omega) only[vm,seval,H];rfl) (.cons _ slr) ?_ (by omega) ?_).1⟩<;>first|(simp(maxSteps:=10000000) (disch:=omega) only[vm,seval,H];done)|rfl
 simp(maxSteps:=10000000) (disch:=omega) only[vm,seval,h.1]
 refine⟨Ar [] (.take 0 (.take 2 (.alt 1 [2] (.alt 3 [0] (.take 4 (.take 5 (.take 6 (.take 7 (.take 8 (.take 9 (.take 10 (.take 11 (.take 12 (.take 13 (.take 14 (.take 15 (.take 16 (.take 18 (.alt 17 [18,14,13,12,11,10,9,8,7,6,5,4,2,0] (.alt 19 [16,14,13,12,11,10,9,8,7,6,5,4,2,0] (.alt 20 [18,16,14,13,12,11,10,9,8,7,6,5,4,2,0] (.take 21 (.alt 22 [] (.done) (.stop))) (.stop)) (.stop)) (.stop)))))))))))))))) (.stop)) (.stop)))) Af (by kernel_rfl) ?_⟩
 simp(maxSteps:=10000000) (disch:=omega) only[vm,seval,h.1]
 refine⟨DU cy9 (by first|(simp(maxSteps:=10000000) (disch:=omega) only[vm,seval,h.1];done)|rfl) fun n10 hn10=>?_⟩
 simp(maxSteps:=10000000) (disch:=omega) only[vm,seval,h.1]
 refine⟨Gq cy11 (by first|(simp(maxSteps:=10000000) (disch:=omega) only[vm,seval,h.1];done)|rfl) fun n12 hn12=>?_⟩
 obtain⟨H,h⟩:=h
 cases h
 simp(maxSteps:=10000000) (disch:=omega) only[vm,seval,H]
 refine⟨(hR _ _ _ _ _ _ (by simp(maxSteps:=10000000) (disch:=omega) only[vm,seval,H];rfl) (.cons _ slr) ?_ (by omega) ?_).1⟩<;>first|(simp(maxSteps:=10000000) (disch:=omega) only[vm,seval,H];done)|rfl
 simp(maxSteps:=10000000) (disch:=omega) only[vm,seval,h.1]
 refine⟨Ar [] (.take 0 (.take 2 (.alt 1 [2] (.alt 3 [0] (.take 4 (.take 5 (.take 6 (.take 7 (.take 8 (.take 9 (.take 10 (.take 11 (.take 12 (.take 13 (.take 14 (.take 15 (.take 16 (.take 18 (.alt 17 [18,14,13,12,11,10,9,8,7,6,5,4,2,0] (.alt 19 [16,14,13,12,11,10,9,8,7,6,5,4,2,0] (.alt 20 [18,16,14,13,12,11,10,9,8,7,6,5,4,2,0] (.take 21 (.alt 22 [] (.done) (.stop))) (.stop)) (.stop)) (.stop)))))))))))))))) (.stop)) (.stop)))) Af (by kernel_rfl) ?_⟩
 simp(maxSteps:=10000000) (disch:=omega) only[vm,seval,h.1]
 refine⟨DU cy9 (by first|(simp(maxSteps:=10000000) (disch:=omega) only[vm,seval,h.1];done)|rfl) fun n10 hn10=>?_⟩
 simp(maxSteps:=10000000) (disch:=omega) only[vm,seval,h.1]
 refine⟨Gq cy11 (by first|(simp(maxSteps:=10000000) (disch:=omega) only[vm,seval,h.1];done)|rfl) fun n12 hn12=>?_⟩
 obtain⟨H,h⟩:=h
 cases h
 simp(maxSteps:=10000000) (disch:=omega) only[vm,seval,H]
 refine⟨(hR _ _ _ _ _ _ (by simp(maxSteps:=10000000) (disch:=omega) only[vm,seval,H];rfl) (.cons _ slr) ?_ (by omega) ?_).1⟩<;>first|(simp(maxSteps:=10000000) (disch:=omega) only[vm,seval,H];done)|rfl
 simp(maxSteps:=10000000) (disch:=omega) only[vm,seval,h.1]
 refine⟨Ar [] (.take 0 (.take 2 (.alt 1 [2] (.alt 3 [0] (.take 4 (.take 5 (.take 6 (.take 7 (.take 8 (.take 9 (.take 10 (.take 11 (.take 12 (.take 13 (.take 14 (.take 15 (.take 16 (.take 18 (.alt 17 [18,14,13,12,11,10,9,8,7,6,5,4,2,0] (.alt 19 [16,14,13,12,11,10,9,8,7,6,5,4,2,0] (.alt 20 [18,16,14,13,12,11,10,9,8,7,6,5,4,2,0] (.take 21 (.alt 22 [] (.done) (.stop))) (.stop)) (.stop)) (.stop)))))))))))))))) (.stop)) (.stop)))) Af (by kernel_rfl) ?_⟩
 simp(maxSteps:=10000000) (disch:=omega) only[vm,seval,h.1]
 refine⟨DU cy9 (by first|(simp(maxSteps:=10000000) (disch:=omega) only[vm,seval,h.1];done)|rfl) fun n10 hn10=>?_⟩
 simp(maxSteps:=10000000) (disch:=omega) only[vm,seval,h.1]
 refine⟨Gq cy11 (by first|(simp(maxSteps:=10000000) (disch:=omega) only[vm,seval,h.1];done)|rfl) fun n12 hn12=>?_⟩
 obtain⟨H,h⟩:=h
 cases h
 simp(maxSteps:=10000000) (disch:=omega) only[vm,seval,H]
 refine⟨(hR _ _ _ _ _ _ (by simp(maxSteps:=10000000) (disch:=omega) only[vm,seval,H];rfl) (.cons _ slr) ?_ (by omega) ?_).1⟩<;>first|(simp(maxSteps:=10000000) (disch:=omega) only[vm,seval,H];done)|rfl
 obtain⟨H,h⟩:=h
 cases h
 simp(maxSteps:=10000000) (disch:=omega) only[vm,seval,H]
 refine⟨(hR _ _ _ _ _ _ (by simp(maxSteps:=10000000) (disch:=omega) only[vm,seval,H];rfl) (.cons _ slr) ?_ (by omega) ?_).1⟩<;>first|(simp(maxSteps:=10000000) (disch:=omega) only[vm,seval,H];done)|rfl
 obtain⟨H,h⟩:=h
 cases h
 simp(maxSteps:=10000000) (disch:=omega) only[vm,seval,H]
 refine⟨(hR _ _ _ _ _ _ (by simp(maxSteps:=10000000) (disch:=omega) only[vm,seval,H];rfl) (.cons _ slr) ?_ (by omega) ?_).1⟩<;>first|(simp(maxSteps:=10000000) (disch:=omega) only[vm,seval,H];done)|rfl
end Go.Proofs.YtooeobhihpkicaaGreatDoor
