/- That the code computes these functions; written by decomp.py. -/
import Derived.Test.YtbmilkoebhmnnaaGreatDoorVmFacts
import Derived.Test.YtbmilkoebhmnnaaGreatDoorDefs
import Derived.Test.YtbmilkoebhmnnaaGreatDoorVM2
import Derived.Test.YtbmilkoebhmnnaaGreatDoorW1
import Derived.Test.YtbmilkoebhmnnaaGreatDoorW2
import Derived.Test.YtbmilkoebhmnnaaGreatDoorW4
import Derived.Test.YtbmilkoebhmnnaaGreatDoorW11
import Derived.Test.YtbmilkoebhmnnaaGreatDoorW12
import Derived.Test.YtbmilkoebhmnnaaGreatDoorW13
import Derived.Test.YtbmilkoebhmnnaaGreatDoorW14
set_option linter.unusedVariables false
set_option linter.unusedSimpArgs false
set_option maxHeartbeats 4000000
set_option maxRecDepth 100000
set_option linter.defProp false
namespace Go.Proofs.YtbmilkoebhmnnaaGreatDoor
open Go.VM
variable {N n : Nat} {m : MS} {Q : PQ} {args : List AVal}
theorem law14_JsondocParses_w {a0 r} (h : law14_JsondocParses N a0 = some r) (ha : args = [.str a0]) (hQ : ∀ n', n ≤ n' → Gl (Q (.bool r) ⟨m, n'⟩)) : ACall vE 3 args ⟨m, n⟩ Q := by
 rw [law14_JsondocParses] at h
 subst ha
 refine ent hQ Tryz.func3 rfl Tryz.ntmps3 Tryz.results3 (.q (.r []) (.q (.q (.r []) (.c (.q (.r []) .z) .z)) (.q (.q (.r []) (.c (.q (.r []) .z) .z)) (.q (.r []) (.q (.r []) (.q (.r []) .z)))))) fun R hR => ?_
 replace h := And.intro trivial h
 replace h := bind_a h
 obtain ⟨y1, h⟩ := h
 simp (maxSteps := 10000000) (disch := omega) only [vm, seval, h.1]
 refine ⟨law14_sane_w h.1.1 (by first | (simp (maxSteps := 10000000) (disch := omega) only [vm, seval, h.1]; done) | rfl) fun n2 hn2 => ?_⟩
 replace h := ite_a h
 rcases h with h | h
 replace h := ite_a h
 rcases h with h | h
 obtain ⟨H, h⟩ := h
 cases h
 simp (maxSteps := 10000000) (disch := omega) only [vm, seval, H]
 refine ⟨(hR _ _ _ _ _ _ (by simp (maxSteps := 10000000) (disch := omega) only [vm, seval, H]; rfl) (List.Sublist.refl _) ?_ (by omega) ?_).1⟩ <;> first | (simp (maxSteps := 10000000) (disch := omega) only [vm, seval, H]; done) | rfl
 replace h := bind_a h
 obtain ⟨y3, h⟩ := h
 simp (maxSteps := 10000000) (disch := omega) only [vm, seval, h.1]
 refine ⟨jsondoc_Parse_w h.1.1 (by first | (simp (maxSteps := 10000000) (disch := omega) only [vm, seval, h.1]; done) | rfl) fun n4 hn4 => ?_⟩
 replace h := bind_a h
 obtain ⟨y5, h⟩ := h
 simp (maxSteps := 10000000) (disch := omega) only [vm, seval, h.1]
 refine ⟨ref14_Parse_w h.1.1 (by first | (simp (maxSteps := 10000000) (disch := omega) only [vm, seval, h.1]; done) | rfl) fun n6 hn6 => ?_⟩
 replace h := ite_a h
 rcases h with h | h
 replace h := ite_a h
 rcases h with h | h
 replace h := bind_a h
 obtain ⟨y7, h⟩ := h
 simp (maxSteps := 10000000) (disch := omega) only [vm, seval, h.1]
 refine ⟨ref14_Same_w h.1.1 (by first | (simp (maxSteps := 10000000) (disch := omega) only [vm, seval, h.1]; done) | rfl) fun n8 hn8 => ?_⟩
 obtain ⟨H, h⟩ := h
 cases h
 simp (maxSteps := 10000000) (disch := omega) only [vm, seval, H]
 refine ⟨(hR _ _ _ _ _ _ (by simp (maxSteps := 10000000) (disch := omega) only [vm, seval, H]; rfl) (.cons _ (.cons _ (List.Sublist.refl _))) ?_ (by omega) ?_).1⟩ <;> first | (simp (maxSteps := 10000000) (disch := omega) only [vm, seval, H]; done) | rfl
 obtain ⟨H, h⟩ := h
 cases h
 simp (maxSteps := 10000000) (disch := omega) only [vm, seval, H]
 refine ⟨(hR _ _ _ _ _ _ (by simp (maxSteps := 10000000) (disch := omega) only [vm, seval, H]; rfl) (.cons _ (.cons _ (List.Sublist.refl _))) ?_ (by omega) ?_).1⟩ <;> first | (simp (maxSteps := 10000000) (disch := omega) only [vm, seval, H]; done) | rfl
 obtain ⟨H, h⟩ := h
 cases h
 simp (maxSteps := 10000000) (disch := omega) only [vm, seval, H]
 refine ⟨(hR _ _ _ _ _ _ (by simp (maxSteps := 10000000) (disch := omega) only [vm, seval, H]; rfl) (.cons _ (.cons _ (List.Sublist.refl _))) ?_ (by omega) ?_).1⟩ <;> first | (simp (maxSteps := 10000000) (disch := omega) only [vm, seval, H]; done) | rfl
 obtain ⟨H, h⟩ := h
 cases h
 simp (maxSteps := 10000000) (disch := omega) only [vm, seval, H]
 refine ⟨(hR _ _ _ _ _ _ (by simp (maxSteps := 10000000) (disch := omega) only [vm, seval, H]; rfl) (List.Sublist.refl _) ?_ (by omega) ?_).1⟩ <;> first | (simp (maxSteps := 10000000) (disch := omega) only [vm, seval, H]; done) | rfl
end Go.Proofs.YtbmilkoebhmnnaaGreatDoor
