/- Plain facts for decompiled functions: elements, room, loops over lists. -/
import Derived.Test.YtdbeiialamganaaVM2
import GoSem.Claim
set_option linter.unusedVariables false
namespace Go.VM
theorem joinK_eq {α β : Type} (k : α → Option β) (body : (α → Option β) → Option β) : joinK k body = body k := rfl
theorem wf_u8 {n : Int} (h : (Lit.int .u8 n).wf = true) : 0 ≤ n ∧ n ≤ 255 := by
  simp only [Lit.wf, Bool.and_eq_true, decide_eq_true_eq] at h
  have e1 : IntKind.u8.min = 0 := by decide
  have e2 : IntKind.u8.max = 255 := by decide
  rw [e1, e2] at h; exact h
end Go.VM
