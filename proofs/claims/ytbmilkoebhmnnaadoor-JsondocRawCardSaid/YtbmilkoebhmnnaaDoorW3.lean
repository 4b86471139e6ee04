/- That the code computes these functions; written by decomp.py. -/
import Derived.Test.YtbmilkoebhmnnaaDoorVmFacts
import Derived.Test.YtbmilkoebhmnnaaDoorDefs
import Derived.Test.YtbmilkoebhmnnaaDoorVM2
import Derived.Test.YtbmilkoebhmnnaaDoorW0
import Derived.Test.YtbmilkoebhmnnaaDoorW1
set_option linter.unusedVariables false
set_option linter.unusedSimpArgs false
set_option maxHeartbeats 4000000
set_option maxRecDepth 100000
set_option linter.defProp false
namespace Go.Proofs.YtbmilkoebhmnnaaDoor
open Go.VM
variable {N n : Nat} {m : MS} {Q : PQ} {args : List AVal}
theorem keep_Value_w {a0 a1 r} (h : keep_Value N a0 a1 = some r) (ha : args = [encApiValue a0, .int .i64 a1]) (hQ : ∀ n', n ≤ n' → Gl (Q (.bool r) ⟨m, n'⟩)) : ACall vE 10 args ⟨m, n⟩ Q := by
 rw [keep_Value] at h
 subst ha
 refine ent hQ Tryd.func10 rfl Tryd.ntmps10 Tryd.results10 (.q (.r []) (.q (.r []) .z)) fun R hR => ?_
 replace h := And.intro trivial h
 replace h := bind_a h
 obtain ⟨y1, h⟩ := h
 simp (disch := omega) only [vm, seval, h.1]
 refine ⟨keep_size_w h.1.1 (by first | (simp (disch := omega) only [vm, seval, h.1]; done) | rfl) fun n2 hn2 => ?_⟩
 obtain ⟨H, h⟩ := h
 cases h
 simp (disch := omega) only [vm, seval, H]
 refine ⟨(hR _ _ _ _ _ _ (by simp (disch := omega) only [vm, seval, H]; rfl) (.cons _ (List.Sublist.refl _)) ?_ (by omega) ?_).1⟩ <;> first | (simp (disch := omega) only [vm, seval, H]; done) | rfl
end Go.Proofs.YtbmilkoebhmnnaaDoor
