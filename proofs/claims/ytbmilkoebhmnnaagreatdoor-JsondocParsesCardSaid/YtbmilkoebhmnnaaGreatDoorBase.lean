/- Plain facts for decompiled functions: elements, room, loops over lists. -/
import Derived.Test.YtbmilkoebhmnnaaGreatDoorVM2
import GoSem.Claim
set_option linter.unusedVariables false
namespace Go.VM
theorem wr_nat {n : Nat} (h : n ≤ 9223372036854775807) : wr .i64 (n : Int) = n := by
  simp [wr, IntKind.wrap, IntKind.bits, IntKind.signed]; omega
theorem wr_i64 {n : Int} (h : -9223372036854775808 ≤ n ∧ n ≤ 9223372036854775807) : wr .i64 n = n := by
  simp [wr, IntKind.wrap, IntKind.bits, IntKind.signed]; omega
theorem idx_nat {α : Type} (l : List α) (n : Nat) : idx l (n : Int) = l[n]? := by simp [idx]
theorem idx_mid {α : Type} (pre suf : List α) (x : α) : idx (pre ++ x :: suf) (pre.length : Int) = some x := by simp [idx]
theorem idx_at {α : Type} {l pre suf : List α} {x : α} (h : l = pre ++ x :: suf) : idx l (pre.length : Int) = some x := by rw [h]; exact idx_mid ..
theorem lt_at {α : Type} {l pre suf : List α} {x : α} (h : l = pre ++ x :: suf) : decide ((pre.length : Int) < (l.length : Int)) = true := by
  subst h; simp only [decide_eq_true_eq, List.length_append, List.length_cons]; omega
theorem len_snoc {α : Type} (pre : List α) (x : α) : (pre.length : Int) + 1 = ((pre ++ [x]).length : Int) := by simp
theorem sub_nat {α : Type} (l : List α) (a b : Nat) (h1 : a ≤ b) (h2 : b ≤ l.length) : sub l (a : Int) (b : Int) = some ((l.drop a).take (b - a)) := by
  have h1' : (a : Int) ≤ b := by omega
  have h2' : (b : Int) ≤ l.length := by omega
  simp [sub, h1', h2']
theorem grd_true {α : Type} {c : Prop} [Decidable c] {x : Option α} (h : c) : grd c x = x := by simp [grd, h]
/-- a length -/
theorem grdS {α : Type} {n : Nat} {x : Option α} (h : n ≤ 4611686018427387904) : grd (fitsS n) x = x := grd_true h
theorem joinK_eq {α β : Type} (k : α → Option β) (body : (α → Option β) → Option β) : joinK k body = body k := rfl
end Go.VM
