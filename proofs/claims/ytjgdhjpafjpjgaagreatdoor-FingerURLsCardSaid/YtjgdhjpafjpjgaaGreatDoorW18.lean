import Derived.Test.YtjgdhjpafjpjgaaGreatDoorVmFacts
import Derived.Test.YtjgdhjpafjpjgaaGreatDoorDefs
import Derived.Test.YtjgdhjpafjpjgaaGreatDoorVM2
import Derived.Test.YtjgdhjpafjpjgaaGreatDoorW0
import Derived.Test.YtjgdhjpafjpjgaaGreatDoorW1
import Derived.Test.YtjgdhjpafjpjgaaGreatDoorW7
import Derived.Test.YtjgdhjpafjpjgaaGreatDoorW12
import Derived.Test.YtjgdhjpafjpjgaaGreatDoorW14
import Derived.Test.YtjgdhjpafjpjgaaGreatDoorW17
set_option linter.unusedVariables false
set_option linter.unusedSimpArgs false
set_option maxHeartbeats 4000000
set_option maxRecDepth 100000
set_option linter.defProp false
namespace Go.Proofs.YtjgdhjpafjpjgaaGreatDoor
open Go.VM
variable{N n:Nat}{m:MS}{Q:PQ}{args:List AVal}
theorem O3 {a0 r} (h:FK N a0=some r) (ha:args=[.str a0]) (hQ: ∀n',n≤n'→Gl (Q (.tuple [Bz r.1,.int .i64 r.2]) ⟨m,n'⟩)):ACall vE 224 args ⟨m,n⟩ Q:=by
 rw[FK]at h
 subst ha
 refine ent hQ Tryz.func224 rfl Tryz.ntmps224 Tryz.results224 (.q (.r []) (.q (.r []) (.q (.q (.r []) (.c (.q (.r []) .z) .z)) (.q (.q (.r []) (.q (.r []) (.c (.q (.r []) .z) .z))) (.q (.r []) (.q (.q (.r []) (.c (.q (.r []) .z) .z)) (.q .z .z))))))) fun R hR=>?_
 replace h:=And.intro trivial h
 replace h:=AA h
 obtain⟨y1,h⟩:=h
 simp(disch:=omega) only[vm,seval,h.1]
 refine⟨NC h.1.1 (by first|(simp(disch:=omega) only[vm,seval,h.1];done)|rfl) fun n2 hn2=>?_⟩
 replace h:=AC h
 rcases h with h|h
 obtain⟨H,h⟩:=h
 cases h
 simp(disch:=omega) only[vm,seval,H]
 refine⟨(hR _ _ _ _ _ _ (by simp(disch:=omega) only[vm,seval,H];rfl) (.cons _ (.cons _ slr)) ?_ (by omega) ?_).1⟩<;>first|(simp(disch:=omega) only[vm,seval,H];done)|rfl
 replace h:=AA h
 obtain⟨y3,h⟩:=h
 simp(disch:=omega) only[vm,seval,h.1]
 refine⟨O4 h.1.1 (by first|(simp(disch:=omega) only[vm,seval,h.1];done)|rfl) fun n4 hn4=>?_⟩
 replace h:=AC h
 rcases h with h|h
 obtain⟨H,h⟩:=h
 cases h
 simp(disch:=omega) only[vm,seval,H]
 refine⟨(hR _ _ _ _ _ _ (by simp(disch:=omega) only[vm,seval,H];rfl) (.cons _ (.cons _ slr)) ?_ (by omega) ?_).1⟩<;>first|(simp(disch:=omega) only[vm,seval,H];done)|rfl
 replace h:=AA h
 obtain⟨y5,h⟩:=h
 simp(disch:=omega) only[vm,seval,h.1]
 refine⟨KT h.1.1 (by first|(simp(disch:=omega) only[vm,seval,h.1];done)|rfl) fun n6 hn6=>?_⟩
 replace h:=AC h
 rcases h with h|h
 obtain⟨H,h⟩:=h
 cases h
 simp(disch:=omega) only[vm,seval,H]
 refine⟨(hR _ _ _ _ _ _ (by simp(disch:=omega) only[vm,seval,H];rfl) (.cons _ (.cons _ (.cons _ slr))) ?_ (by omega) ?_).1⟩<;>first|(simp(disch:=omega) only[vm,seval,H];done)|rfl
 replace h:=AA h
 obtain⟨y7,h⟩:=h
 have cy7:=h.1.1
 simp(disch:=omega) only[vm,seval,h.1]
 refine⟨BM [] (.take 0 (.take 2 (.take 3 (.take 4 (.take 5 (.alt 1 [5,4,3,2] (.alt 6 [4,2,0] (.alt 7 [] (.alt 8 [] (.done) (.stop)) (.stop)) (.stop)) (.stop))))))) A8 (by kernel_rfl) ?_⟩
 simp(disch:=omega) only[vm,seval,h.1]
 refine⟨Jy cy7 (by first|(simp(disch:=omega) only[vm,seval,h.1];done)|rfl) fun n8 hn8=>?_⟩
 obtain⟨H,h⟩:=h
 cases h
 simp(disch:=omega) only[vm,seval,H]
 refine⟨(hR _ _ _ _ _ _ (by simp(disch:=omega) only[vm,seval,H];rfl) (.cons _ (.cons _ (.cons _ slr))) ?_ (by omega) ?_).1⟩<;>first|(simp(disch:=omega) only[vm,seval,H];done)|rfl
theorem Ox {a0 r} (h:FO N a0=some r) (ha:args=[.slice 1 (List.map (AVal.int .u8) a0) false]) (hQ: ∀n',n≤n'→Gl (Q (Bz r) ⟨m,n'⟩)):ACall vE 9 args ⟨m,n⟩ Q:=by
 rw[FO]at h
 subst ha
 refine ent hQ Tryz.func9 rfl Tryz.ntmps9 Tryz.results9 (.q (.r []) (.q (.r []) (.q (.r []) .z))) fun R hR=>?_
 replace h:=And.intro trivial h
 replace h:=AA h
 obtain⟨y1,h⟩:=h
 simp(maxSteps:=10000000) (disch:=omega) only[vm,seval,h.1]
 refine⟨AFW h.1.1 (by first|(simp(maxSteps:=10000000) (disch:=omega) only[vm,seval,h.1];done)|rfl) fun i2 n3 hi2 gi2=>?_⟩
 replace h:=AA h
 obtain⟨y4,h⟩:=h
 simp(maxSteps:=10000000) (disch:=omega) only[vm,seval,h.1]
 refine⟨AEy h.1.1 (by first|(simp(maxSteps:=10000000) (disch:=omega) only[vm,seval,h.1];done)|rfl) (i0:=i2) (by simp(maxSteps:=10000000) (disch:=omega) only[vm,seval,h.1]) fun n5 hn5=>?_⟩
 replace h:=AA h
 obtain⟨y6,h⟩:=h
 simp(maxSteps:=10000000) (disch:=omega) only[vm,seval,h.1]
 refine⟨OX h.1.1 (by first|(simp(maxSteps:=10000000) (disch:=omega) only[vm,seval,h.1];done)|rfl) fun n7 hn7=>?_⟩
 obtain⟨H,h⟩:=h
 cases h
 simp(maxSteps:=10000000) (disch:=omega) only[vm,seval,H]
 refine⟨(hR _ _ _ _ _ _ (by simp(maxSteps:=10000000) (disch:=omega) only[vm,seval,H];rfl) (.cons _ (.cons _ (.cons _ slr))) ?_ (by omega) ?_).1⟩<;>first|(simp(maxSteps:=10000000) (disch:=omega) only[vm,seval,H];done)|rfl
theorem Ug {a0 r} (h:Jv N a0=some r) (ha:args=[Bz a0]) (hQ: ∀n',n≤n'→Gl (Q (.bool r) ⟨m,n'⟩)):ACall vE 83 args ⟨m,n⟩ Q:=by
 rw[Jv]at h
 subst ha
 refine ent hQ Tryz.func83 rfl Tryz.ntmps83 Tryz.results83 (.q (.r []) (.q (.r []) (.q (.r []) .z))) fun R hR=>?_
 replace h:=And.intro trivial h
 replace h:=AA h
 obtain⟨y1,h⟩:=h
 simp(disch:=omega) only[vm,seval,h.1]
 refine⟨OX h.1.1 (by first|(simp(disch:=omega) only[vm,seval,h.1];done)|rfl) fun n2 hn2=>?_⟩
 replace h:=AC h
 rcases h with h|h
 obtain⟨H,h⟩:=h
 cases h
 simp(disch:=omega) only[vm,seval,H]
 refine⟨(hR _ _ _ _ _ _ (by simp(disch:=omega) only[vm,seval,H];rfl) (.cons _ (.cons _ slr)) ?_ (by omega) ?_).1⟩<;>first|(simp(disch:=omega) only[vm,seval,H];done)|rfl
 obtain⟨H,h⟩:=h
 cases h
 simp(disch:=omega) only[vm,seval,H]
 refine⟨(hR _ _ _ _ _ _ (by simp(disch:=omega) only[vm,seval,H];rfl) (.cons _ (.cons _ slr)) ?_ (by omega) ?_).1⟩<;>first|(simp(disch:=omega) only[vm,seval,H];done)|rfl
end Go.Proofs.YtjgdhjpafjpjgaaGreatDoor
