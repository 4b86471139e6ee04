/- Plain facts for decompiled functions: elements, room, loops over lists. -/
import Derived.Test.YtbmilkoebhmnnaaDoorVM2
import GoSem.Claim
set_option linter.unusedVariables false
namespace Go.VM
theorem wr_i64 {n : Int} (h : -9223372036854775808 ≤ n ∧ n ≤ 9223372036854775807) : wr .i64 n = n := by
  simp [wr, IntKind.wrap, IntKind.bits, IntKind.signed]; omega
theorem idx_mid {α : Type} (pre suf : List α) (x : α) : idx (pre ++ x :: suf) (pre.length : Int) = some x := by simp [idx]
theorem idx_at {α : Type} {l pre suf : List α} {x : α} (h : l = pre ++ x :: suf) : idx l (pre.length : Int) = some x := by rw [h]; exact idx_mid ..
theorem lt_at {α : Type} {l pre suf : List α} {x : α} (h : l = pre ++ x :: suf) : decide ((pre.length : Int) < (l.length : Int)) = true := by
  subst h; simp only [decide_eq_true_eq, List.length_append, List.length_cons]; omega
theorem len_snoc {α : Type} (pre : List α) (x : α) : (pre.length : Int) + 1 = ((pre ++ [x]).length : Int) := by simp
theorem grd_true {α : Type} {c : Prop} [Decidable c] {x : Option α} (h : c) : grd c x = x := by simp [grd, h]
/-- a length -/
theorem grdS {α : Type} {n : Nat} {x : Option α} (h : n ≤ 4611686018427387904) : grd (fitsS n) x = x := grd_true h
theorem joinK_eq {α β : Type} (k : α → Option β) (body : (α → Option β) → Option β) : joinK k body = body k := rfl
theorem wf_u8 {n : Int} (h : (Lit.int .u8 n).wf = true) : 0 ≤ n ∧ n ≤ 255 := by
  simp only [Lit.wf, Bool.and_eq_true, decide_eq_true_eq] at h
  have e1 : IntKind.u8.min = 0 := by decide
  have e2 : IntKind.u8.max = 255 := by decide
  rw [e1, e2] at h; exact h
end Go.VM
