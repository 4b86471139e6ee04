import Derived.Test.YtooeobhihpkicaaGreatDoorVmFacts
import Derived.Test.YtooeobhihpkicaaGreatDoorDefs
import Derived.Test.YtooeobhihpkicaaGreatDoorVM2
import Derived.Test.YtooeobhihpkicaaGreatDoorW3
import Derived.Test.YtooeobhihpkicaaGreatDoorW15
import Derived.Test.YtooeobhihpkicaaGreatDoorW16
set_option linter.unusedVariables false
set_option linter.unusedSimpArgs false
set_option maxHeartbeats 4000000
set_option maxRecDepth 100000
set_option linter.defProp false
namespace Go.Proofs.YtooeobhihpkicaaGreatDoor
open Go.VM
variable{N n:Nat}{m:MS}{Q:PQ}{args:List AVal}
theorem JF {a0 a1 r} (h:D6 N a0 a1=some r) (ha:args=[AC a0,AC a1]) (hQ: ∀n',n≤n'→Gl (Q (.bool r) ⟨m,n'⟩)):ACall vE 5 args ⟨m,n⟩ Q:=by
 rw[D6]at h
 subst ha
 refine ent hQ Tryz.func5 rfl Tryz.ntmps5 Tryz.results5 (.q (.r []) (.q (.q (.r []) (.c (.q (.r []) .z) .z)) (.q .z (.q (.r []) (.q (.r []) (.q (.r []) .z)))))) fun R hR=>?_
 replace h:=And.intro trivial h
 replace h:=AA h
 obtain⟨y1,h⟩:=h
 simp(maxSteps:=10000000) (disch:=omega) only[vm,seval,h.1]
 refine⟨R6 h.1.1 (by first|(simp(maxSteps:=10000000) (disch:=omega) only[vm,seval,h.1];done)|rfl) fun n2 hn2=>?_⟩
 replace h:=AJ h
 rcases h with h|h
 simp(maxSteps:=10000000) (disch:=omega) only[vm,seval,h.1]
 refine⟨Aa (γ:=Unit) h [11,12,13,14,15,16,17] [18] (fun j3 g=>[.bool j3]) (fun j3 g=>((n+1),[.int .i64 a1.kind,.str a1.text,.slice 1 (List.map AVal.str a1.keys) false,.slice 4 (List.map AC a1.items) false])::(n,[.int .i64 a0.kind,.str a0.text,.slice 1 (List.map AVal.str a0.keys) false,.slice 4 (List.map AC a0.items) false])::m) (.r []) ?_ ?_⟩<;>clear h
 rintro j3 _ n6 hnn6 _ _ h
 refine AB (.c (.q (.r []) .z) .z) ?_
 replace h:=AJ h
 rcases h with h|h
 obtain⟨H,h⟩:=h
 cases h
 simp(maxSteps:=10000000) (disch:=omega) only[vm,seval,H]
 refine⟨(hR _ _ _ _ _ _ (by simp(maxSteps:=10000000) (disch:=omega) only[vm,seval,H];rfl) (.cons _ (.cons _ slr)) ?_ (by omega) ?_).1⟩<;>first|(simp(maxSteps:=10000000) (disch:=omega) only[vm,seval,H];done)|rfl
 replace h:=AA h
 obtain⟨y11,h⟩:=h
 simp(maxSteps:=10000000) (disch:=omega) only[vm,seval,h.1]
 refine⟨Hm h.1.1 (by first|(simp(maxSteps:=10000000) (disch:=omega) only[vm,seval,h.1];done)|rfl) fun n12 hn12=>?_⟩
 replace h:=AA h
 obtain⟨y13,h⟩:=h
 simp(maxSteps:=10000000) (disch:=omega) only[vm,seval,h.1]
 refine⟨Hm h.1.1 (by first|(simp(maxSteps:=10000000) (disch:=omega) only[vm,seval,h.1];done)|rfl) fun n14 hn14=>?_⟩
 replace h:=AJ h
 rcases h with h|h
 obtain⟨H,h⟩:=h
 cases h
 simp(maxSteps:=10000000) (disch:=omega) only[vm,seval,H]
 refine⟨(hR _ _ _ _ _ _ (by simp(maxSteps:=10000000) (disch:=omega) only[vm,seval,H];rfl) (.cons _ (.cons _ slr)) ?_ (by omega) ?_).1⟩<;>first|(simp(maxSteps:=10000000) (disch:=omega) only[vm,seval,H];done)|rfl
 replace h:=AJ h
 rcases h with h|h
 obtain⟨H,h⟩:=h
 cases h
 simp(maxSteps:=10000000) (disch:=omega) only[vm,seval,H]
 refine⟨(hR _ _ _ _ _ _ (by simp(maxSteps:=10000000) (disch:=omega) only[vm,seval,H];rfl) (.cons _ (.cons _ slr)) ?_ (by omega) ?_).1⟩<;>first|(simp(maxSteps:=10000000) (disch:=omega) only[vm,seval,H];done)|rfl
 replace h:=AA h
 obtain⟨y15,h⟩:=h
 simp(maxSteps:=10000000) (disch:=omega) only[vm,seval,h.1]
 refine⟨Q6 h.1.1 (by first|(simp(maxSteps:=10000000) (disch:=omega) only[vm,seval,h.1];done)|rfl) fun n16 hn16=>?_⟩
 obtain⟨H,h⟩:=h
 cases h
 simp(maxSteps:=10000000) (disch:=omega) only[vm,seval,H]
 refine⟨(hR _ _ _ _ _ _ (by simp(maxSteps:=10000000) (disch:=omega) only[vm,seval,H];rfl) (.cons _ (.cons _ slr)) ?_ (by omega) ?_).1⟩<;>first|(simp(maxSteps:=10000000) (disch:=omega) only[vm,seval,H];done)|rfl
 intro k4 Jk4 hk4 h
 replace h:=AA h
 obtain⟨y7,h⟩:=h
 simp(maxSteps:=10000000) (disch:=omega) only[vm,seval,h.1]
 refine⟨Mh h.1.1 (by first|(simp(maxSteps:=10000000) (disch:=omega) only[vm,seval,h.1];done)|rfl) fun n8 hn8=>?_⟩
 replace h:=AJ h
 rcases h with h|h
 replace h:=AA h
 obtain⟨y9,h⟩:=h
 simp(maxSteps:=10000000) (disch:=omega) only[vm,seval,h.1]
 refine⟨Mh h.1.1 (by first|(simp(maxSteps:=10000000) (disch:=omega) only[vm,seval,h.1];done)|rfl) fun n10 hn10=>?_⟩
 simp(maxSteps:=10000000) (disch:=omega) only[vm,seval,h.1]
 refine⟨hk4 (!y9) () _ _ _ _ h.2 slr ?_ ?_ ?_ (by omega)⟩<;>first|(simp(maxSteps:=10000000) (disch:=omega) only[vm,seval,h.1];done)|rfl
 simp(maxSteps:=10000000) (disch:=omega) only[vm,seval,h.1]
 refine⟨hk4 true () _ _ _ _ h.2 slr ?_ ?_ ?_ (by omega)⟩<;>first|(simp(maxSteps:=10000000) (disch:=omega) only[vm,seval,h.1];done)|rfl
 obtain⟨H,h⟩:=h
 cases h
 simp(maxSteps:=10000000) (disch:=omega) only[vm,seval,H]
 refine⟨(hR _ _ _ _ _ _ (by simp(maxSteps:=10000000) (disch:=omega) only[vm,seval,H];rfl) (.cons _ (.cons _ slr)) ?_ (by omega) ?_).1⟩<;>first|(simp(maxSteps:=10000000) (disch:=omega) only[vm,seval,H];done)|rfl
end Go.Proofs.YtooeobhihpkicaaGreatDoor
