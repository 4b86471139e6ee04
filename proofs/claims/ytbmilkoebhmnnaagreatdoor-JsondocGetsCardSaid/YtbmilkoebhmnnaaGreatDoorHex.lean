/- Hexadecimal numbers and escape sequences: the program's and the reference's are the same. -/
import Derived.Test.YtbmilkoebhmnnaaGreatDoorDec2
import Derived.KernelRfl
set_option linter.unusedVariables false
set_option linter.unusedSimpArgs false
namespace Go.VM
section
variable {N : Nat}
/-- two functions of a byte that agree wherever one looks -/
theorem bytes_eq {α : Type} [DecidableEq α] {f g : Nat → α} (h : (List.range 256).all (fun n => decide (f n = g n)) = true) (c : UInt8) : f c.toNat = g c.toNat := by
  have := List.all_eq_true.1 h c.toNat (List.mem_range.2 c.toNat_lt)
  simpa using this
def hexN (n : Nat) : Bool := (decide (48 ≤ n) && decide (n ≤ 57)) || (decide (65 ≤ n) && decide (n ≤ 70)) || (decide (97 ≤ n) && decide (n ≤ 102))
def hexB (c : UInt8) : Bool := hexN c.toNat
def hexD (n : Nat) : Nat := if n ≤ 57 then n - 48 else if n ≤ 70 then n - 55 else n - 87
theorem pval_eq (c : UInt8) (h : hexB c = true) : number_value N (bord c) = some ((hexD c.toNat : Nat) : Int) := by
  have := bytes_eq (f := fun n => if hexN n = true then number_value N (n : Int) else none) (g := fun n => if hexN n = true then some ((hexD n : Nat) : Int) else none) (by kernel_rfl) c
  simp only [show hexN c.toNat = true from h, if_true] at this
  exact this
end
end Go.VM
