/- Decoding of code points: the program's and the reference's are the same. -/
import Derived.Test.YtbmilkoebhmnnaaGreatDoorEnc
import Derived.Test.YtbmilkoebhmnnaaGreatDoorOk
set_option linter.unusedVariables false
set_option linter.unusedSimpArgs false
namespace Go.VM
section
variable {N : Nat}
def contB (c : UInt8) : Bool := decide (c.toNat / 64 = 2)
/-- the code point at the head of a text, and its length -/
def decB : List UInt8 → Option (Nat × Nat)
  | [] => none
  | a :: t =>
    if a.toNat < 128 then some (a.toNat, 1)
    else if a.toNat / 32 = 6 then
      match t with
      | b :: _ => if contB b = true ∧ 128 ≤ a.toNat % 32 * 64 + b.toNat % 64 then some (a.toNat % 32 * 64 + b.toNat % 64, 2) else none
      | _ => none
    else if a.toNat / 16 = 14 then
      match t with
      | b :: c :: _ => if contB b = true ∧ contB c = true ∧ 2048 ≤ (a.toNat % 16 * 64 + b.toNat % 64) * 64 + c.toNat % 64 ∧ pointB (((a.toNat % 16 * 64 + b.toNat % 64) * 64 + c.toNat % 64 : Nat)) = true then some ((a.toNat % 16 * 64 + b.toNat % 64) * 64 + c.toNat % 64, 3) else none
      | _ => none
    else if a.toNat / 8 = 30 then
      match t with
      | b :: c :: d :: _ => if contB b = true ∧ contB c = true ∧ contB d = true ∧ 65536 ≤ ((a.toNat % 8 * 64 + b.toNat % 64) * 64 + c.toNat % 64) * 64 + d.toNat % 64 ∧ pointB ((((a.toNat % 8 * 64 + b.toNat % 64) * 64 + c.toNat % 64) * 64 + d.toNat % 64 : Nat)) = true then some (((a.toNat % 8 * 64 + b.toNat % 64) * 64 + c.toNat % 64) * 64 + d.toNat % 64, 4) else none
      | _ => none
    else none
def udecR (i : Nat) : Option (Nat × Nat) → Int × Int × Int
  | some (r, n) => ((r : Int), ((i + n : Nat) : Int), 0)
  | none => (0, 0, 7)
theorem idx_drop {α : Type} {l t : List α} {x : α} {i j : Nat} (h : l.drop i = t) (hx : t[j]? = some x) : idx l ((i + j : Nat) : Int) = some x := by
  rw [idx_nat, ← List.getElem?_drop, h, hx]
theorem len_drop {α : Type} {l t : List α} {i : Nat} (h : l.drop i = t) (hi : i ≤ l.length) : l.length = i + t.length := by
  have := congrArg List.length h
  simp at this; omega
section
variable {l t : List UInt8} {i : Nat} {k13 : Int → Option (Int × Int × Int)}
end
end
end Go.VM
