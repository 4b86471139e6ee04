/- Plain facts for loops over lists: counters, elements, room. -/
import Derived.Test.YtdbeiialamganaaVMDec
set_option linter.unusedVariables false
namespace Go.VM
theorem wr_nat {n : Nat} (h : n ≤ 9223372036854775807) : wr .i64 (n : Int) = n := by
  simp [wr, IntKind.wrap, IntKind.bits, IntKind.signed]; omega
theorem wr_succ {n : Nat} (h : n < 9223372036854775807) : wr .i64 ((n : Int) + 1) = ((n + 1 : Nat) : Int) := by
  simp [wr, IntKind.wrap, IntKind.bits, IntKind.signed]; omega
theorem idx_nat {α : Type} (l : List α) (n : Nat) : idx l (n : Int) = l[n]? := by simp [idx]
theorem idx_mid {α : Type} (pre suf : List α) (x : α) : idx (pre ++ x :: suf) (pre.length : Int) = some x := by simp [idx]
theorem lt_mid {α : Type} (pre suf : List α) (x : α) : decide ((pre.length : Int) < ((pre ++ x :: suf).length : Int)) = true := by
  simp only [decide_eq_true_eq, List.length_append, List.length_cons]; omega
theorem lt_end {α : Type} (pre : List α) : decide ((pre.length : Int) < ((pre ++ []).length : Int)) = false := by simp
theorem step_mid {α : Type} (pre : List α) (x : α) (h : pre.length < 1000000) : wr .i64 ((pre.length : Int) + 1) = ((pre ++ [x]).length : Int) := by
  rw [wr_succ (by omega)]; simp
theorem sub_all {α : Type} (l : List α) : sub l 0 (l.length : Int) = some l := by simp [sub]
theorem grd_true {α : Type} {c : Prop} [Decidable c] {x : Option α} (h : c) : grd c x = x := by simp [grd, h]
theorem fits_small {n b : Nat} (h : n ≤ 1000000) (hb : b ≤ 100000) : fitsA n b := by
  unfold fitsA
  have : n * b ≤ 1000000 * 100000 := Nat.mul_le_mul h hb
  omega
theorem joinK_eq {α β : Type} (k : α → Option β) (body : (α → Option β) → Option β) : joinK k body = body k := rfl
theorem app_mid {α : Type} (pre suf : List α) (x : α) : pre ++ x :: suf = (pre ++ [x]) ++ suf := by simp
end Go.VM
