/- Plain facts for decompiled functions: elements, room, loops over lists. -/
import Derived.Test.YtmdjjhakfoenpaaDoorVM2
import GoSem.Claim
set_option linter.unusedVariables false
namespace Go.VM
theorem wr_nat {n : Nat} (h : n ≤ 9223372036854775807) : wr .i64 (n : Int) = n := by
  simp [wr, IntKind.wrap, IntKind.bits, IntKind.signed]; omega
theorem wr_i64 {n : Int} (h : -9223372036854775808 ≤ n ∧ n ≤ 9223372036854775807) : wr .i64 n = n := by
  simp [wr, IntKind.wrap, IntKind.bits, IntKind.signed]; omega
theorem idx_nat {α : Type} (l : List α) (n : Nat) : idx l (n : Int) = l[n]? := by simp [idx]
theorem idx_mid {α : Type} (pre suf : List α) (x : α) : idx (pre ++ x :: suf) (pre.length : Int) = some x := by simp [idx]
theorem idx_at {α : Type} {l pre suf : List α} {x : α} (h : l = pre ++ x :: suf) : idx l (pre.length : Int) = some x := by rw [h]; exact idx_mid ..
theorem lt_at {α : Type} {l pre suf : List α} {x : α} (h : l = pre ++ x :: suf) : decide ((pre.length : Int) < (l.length : Int)) = true := by
  subst h; simp only [decide_eq_true_eq, List.length_append, List.length_cons]; omega
theorem len_snoc {α : Type} (pre : List α) (x : α) : (pre.length : Int) + 1 = ((pre ++ [x]).length : Int) := by simp
theorem sub_all {α : Type} (l : List α) : sub l 0 (l.length : Int) = some l := by simp [sub]
theorem sub_nat {α : Type} (l : List α) (a b : Nat) (h1 : a ≤ b) (h2 : b ≤ l.length) : sub l (a : Int) (b : Int) = some ((l.drop a).take (b - a)) := by
  have h1' : (a : Int) ≤ b := by omega
  have h2' : (b : Int) ≤ l.length := by omega
  simp [sub, h1', h2']
theorem grd_true {α : Type} {c : Prop} [Decidable c] {x : Option α} (h : c) : grd c x = x := by simp [grd, h]
theorem fits_small {n b : Nat} (h : n ≤ 1000000) (hb : b ≤ 100000) : fitsA n b := by
  unfold fitsA
  have : n * b ≤ 1000000 * 100000 := Nat.mul_le_mul h hb
  omega
/-- room for what is appended -/
theorem grdA {α : Type} {n b : Nat} {x : Option α} (h : n ≤ 1000000) (hb : b ≤ 100000) : grd (fitsA n b) x = x := grd_true (fits_small h hb)
/-- a length -/
theorem grdS {α : Type} {n : Nat} {x : Option α} (h : n ≤ 4611686018427387904) : grd (fitsS n) x = x := grd_true h
theorem joinK_eq {α β : Type} (k : α → Option β) (body : (α → Option β) → Option β) : joinK k body = body k := rfl
theorem app_mid {α : Type} (pre suf : List α) (x : α) : pre ++ x :: suf = (pre ++ [x]) ++ suf := by simp
theorem wf_u8 {n : Int} (h : (Lit.int .u8 n).wf = true) : 0 ≤ n ∧ n ≤ 255 := by
  simp only [Lit.wf, Bool.and_eq_true, decide_eq_true_eq] at h
  have e1 : IntKind.u8.min = 0 := by decide
  have e2 : IntKind.u8.max = 255 := by decide
  rw [e1, e2] at h; exact h
theorem wf_i64 {n : Int} (h : (Lit.int .i64 n).wf = true) : -9223372036854775808 ≤ n ∧ n ≤ 9223372036854775807 := by
  simp only [Lit.wf, Bool.and_eq_true, decide_eq_true_eq] at h
  have e1 : IntKind.i64.min = -9223372036854775808 := by decide
  have e2 : IntKind.i64.max = 9223372036854775807 := by decide
  rw [e1, e2] at h; exact h
theorem wf_u32 {n : Int} (h : (Lit.int .u32 n).wf = true) : 0 ≤ n ∧ n ≤ 4294967295 := by
  simp only [Lit.wf, Bool.and_eq_true, decide_eq_true_eq] at h
  have e1 : IntKind.u32.min = 0 := by decide
  have e2 : IntKind.u32.max = 4294967295 := by decide
  rw [e1, e2] at h; exact h
theorem wf_u16 {n : Int} (h : (Lit.int .u16 n).wf = true) : 0 ≤ n ∧ n ≤ 65535 := by
  simp only [Lit.wf, Bool.and_eq_true, decide_eq_true_eq] at h
  have e1 : IntKind.u16.min = 0 := by decide
  have e2 : IntKind.u16.max = 65535 := by decide
  rw [e1, e2] at h; exact h
end Go.VM
