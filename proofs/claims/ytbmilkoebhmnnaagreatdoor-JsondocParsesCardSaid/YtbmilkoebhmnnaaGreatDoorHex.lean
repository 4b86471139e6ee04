/- Hexadecimal numbers and escape sequences: the program's and the reference's are the same. -/
import Derived.Test.YtbmilkoebhmnnaaGreatDoorDec2
import Derived.KernelRfl
set_option linter.unusedVariables false
set_option linter.unusedSimpArgs false
namespace Go.VM
section
variable {N : Nat}
/-- two functions of a byte that agree wherever one looks -/
theorem bytes_eq {α : Type} [DecidableEq α] {f g : Nat → α} (h : (List.range 256).all (fun n => decide (f n = g n)) = true) (c : UInt8) : f c.toNat = g c.toNat := by
  have := List.all_eq_true.1 h c.toNat (List.mem_range.2 c.toNat_lt)
  simpa using this
def hexN (n : Nat) : Bool := (decide (48 ≤ n) && decide (n ≤ 57)) || (decide (65 ≤ n) && decide (n ≤ 70)) || (decide (97 ≤ n) && decide (n ≤ 102))
def hexB (c : UInt8) : Bool := hexN c.toNat
def hexD (n : Nat) : Nat := if n ≤ 57 then n - 48 else if n ≤ 70 then n - 55 else n - 87
theorem hexD_lt (c : UInt8) (h : hexB c = true) : hexD c.toNat < 16 := by
  simp only [hexB, hexN, Bool.or_eq_true, Bool.and_eq_true, decide_eq_true_eq] at h
  unfold hexD; split <;> (try split) <;> omega
theorem phex_eq (c : UInt8) : ascii_IsHex N (bord c) = some (hexB c) :=
  bytes_eq (f := fun n => ascii_IsHex N (n : Int)) (g := fun n => some (hexN n)) (by kernel_rfl) c
theorem rhex_eq (c : UInt8) : ref01_IsHex N (bord c) = some (hexB c) :=
  bytes_eq (f := fun n => ref01_IsHex N (n : Int)) (g := fun n => some (hexN n)) (by kernel_rfl) c
theorem pval_eq (c : UInt8) (h : hexB c = true) : number_value N (bord c) = some ((hexD c.toNat : Nat) : Int) := by
  have := bytes_eq (f := fun n => if hexN n = true then number_value N (n : Int) else none) (g := fun n => if hexN n = true then some ((hexD n : Nat) : Int) else none) (by kernel_rfl) c
  simp only [show hexN c.toNat = true from h, if_true] at this
  exact this
theorem rval_eq (c : UInt8) (h : hexB c = true) : (if decide (bord c > 57) = true then wr .u64 (wr .u64 (wr .u64 (borI .u8 (bord c) 32) - 97) + 10) else wr .u64 (wr .u8 (bord c - 48))) = ((hexD c.toNat : Nat) : Int) := by
  have := bytes_eq (f := fun n => if hexN n = true then (if decide ((n : Int) > 57) = true then wr .u64 (wr .u64 (wr .u64 (borI .u8 (n : Int) 32) - 97) + 10) else wr .u64 (wr .u8 ((n : Int) - 48))) else 0) (g := fun n => if hexN n = true then ((hexD n : Nat) : Int) else 0) (by kernel_rfl) c
  simp only [show hexN c.toNat = true from h, if_true] at this
  exact this
def hexV (n : Nat) : List UInt8 → Nat
  | [] => n
  | c :: l => hexV (n * 16 + hexD c.toNat) l
theorem hexV_lt : ∀ (l : List UInt8) (n : Nat), l.all hexB = true → hexV n l < (n + 1) * 16 ^ l.length
  | [], n, _ => by simp [hexV]
  | c :: l, n, h => by
    simp only [List.all_cons, Bool.and_eq_true] at h
    have := hexV_lt l (n * 16 + hexD c.toNat) h.2
    have hd := hexD_lt c h.1
    rw [hexV, List.length_cons, Nat.pow_succ]
    have e : (n * 16 + hexD c.toNat + 1) * 16 ^ l.length ≤ (n + 1) * 16 * 16 ^ l.length := Nat.mul_le_mul_right _ (by omega)
    have : (n + 1) * 16 * 16 ^ l.length = (n + 1) * (16 ^ l.length * 16) := by rw [Nat.mul_assoc, Nat.mul_comm 16]
    omega
theorem phex1 (k2 : Unit → Option (Int × Int)) : ∀ l : List UInt8, number_parse__ascii_IsHex_L1 N k2 l = if l.all hexB = true then k2 () else some (0, 1)
  | [] => by rw [number_parse__ascii_IsHex_L1]; rfl
  | c :: l => by
    rw [number_parse__ascii_IsHex_L1, phex_eq, Option.bind_some, phex1 k2 l]
    cases h : hexB c <;> simp [h]
theorem rhex1 (k2 : Unit → Option (Int × Int)) : ∀ l : List UInt8, ref04_parse_L1 N 16 k2 l = if l.all hexB = true then k2 () else some (0, 1)
  | [] => by rw [ref04_parse_L1]; rfl
  | c :: l => by
    rw [ref04_parse_L1, joinK_eq, show ((16 : Int) == 10) = false from rfl, show ((16 : Int) == 16) = true from rfl]
    simp only [Bool.false_eq_true, if_false, if_true]
    rw [rhex_eq, Option.bind_some, rhex1 k2 l]
    cases h : hexB c <;> simp [h]
theorem phex2 (k9 : Int → Option (Int × Int)) : ∀ (l : List UInt8) (n : Nat), l.all hexB = true → (n + 1) * 16 ^ l.length ≤ 65536 → number_parse__ascii_IsHex_L2 N 16 65535 k9 l (n : Int) = k9 ((hexV n l : Nat) : Int)
  | [], n, _, _ => by rw [number_parse__ascii_IsHex_L2]; rfl
  | c :: l, n, h, hn => by
    simp only [List.all_cons, Bool.and_eq_true] at h
    have hd := hexD_lt c h.1
    have hv := hexV_lt [] (n * 16 + hexD c.toNat) rfl
    rw [List.length_cons, Nat.pow_succ] at hn
    have hp : 1 ≤ 16 ^ l.length := Nat.one_le_pow _ _ (by decide)
    have e : (n * 16 + hexD c.toNat + 1) * 16 ^ l.length ≤ 65536 := by
      have e1 : (n * 16 + hexD c.toNat + 1) * 16 ^ l.length ≤ (n + 1) * 16 * 16 ^ l.length := Nat.mul_le_mul_right _ (by omega)
      have e2 : (n + 1) * 16 * 16 ^ l.length = (n + 1) * (16 ^ l.length * 16) := by rw [Nat.mul_assoc, Nat.mul_comm 16]
      omega
    have e3 : n * 16 + hexD c.toNat + 1 ≤ 65536 := by
      have : (n * 16 + hexD c.toNat + 1) * 1 ≤ (n * 16 + hexD c.toNat + 1) * 16 ^ l.length := Nat.mul_le_mul_left _ hp
      omega
    rw [number_parse__ascii_IsHex_L2, pval_eq c h.1, Option.bind_some, joinK_eq, grd_true (by decide)]
    have w1 : wr .u64 ((n : Int) * 16) = ((n * 16 : Nat) : Int) := by rw [wr_u64 (by omega)]; simp
    have w2 : wr .u64 (((n * 16 : Nat) : Int) + ((hexD c.toNat : Nat) : Int)) = ((n * 16 + hexD c.toNat : Nat) : Int) := by rw [wr_u64 (by omega)]; simp
    have w3 : wr .u64 (18446744073709551615 - ((hexD c.toNat : Nat) : Int)) = 18446744073709551615 - ((hexD c.toNat : Nat) : Int) := wr_u64 (by omega)
    rw [w1, w2, w3, Int.tdiv_eq_ediv_of_nonneg (by omega), wr_u64 (by omega)]
    have c1 : ¬ ((n : Int) > (18446744073709551615 - ((hexD c.toNat : Nat) : Int)) / 16) := by omega
    have c2 : ¬ (((n * 16 + hexD c.toNat : Nat) : Int) > 65535) := by omega
    simp only [c1, c2, decide_false, Bool.false_eq_true, if_false]
    rw [phex2 k9 l _ h.2 e]; rfl
theorem rhex2 (k9 : Int → Option (Int × Int)) : ∀ (l : List UInt8) (n : Nat), l.all hexB = true → (n + 1) * 16 ^ l.length ≤ 65536 → ref04_parse_L2 N 16 65535 k9 l (n : Int) = k9 ((hexV n l : Nat) : Int)
  | [], n, _, _ => by rw [ref04_parse_L2]; rfl
  | c :: l, n, h, hn => by
    simp only [List.all_cons, Bool.and_eq_true] at h
    have hd := hexD_lt c h.1
    rw [List.length_cons, Nat.pow_succ] at hn
    have hp : 1 ≤ 16 ^ l.length := Nat.one_le_pow _ _ (by decide)
    have e : (n * 16 + hexD c.toNat + 1) * 16 ^ l.length ≤ 65536 := by
      have e1 : (n * 16 + hexD c.toNat + 1) * 16 ^ l.length ≤ (n + 1) * 16 * 16 ^ l.length := Nat.mul_le_mul_right _ (by omega)
      have e2 : (n + 1) * 16 * 16 ^ l.length = (n + 1) * (16 ^ l.length * 16) := by rw [Nat.mul_assoc, Nat.mul_comm 16]
      omega
    have e3 : n * 16 + hexD c.toNat + 1 ≤ 65536 := by
      have : (n * 16 + hexD c.toNat + 1) * 1 ≤ (n * 16 + hexD c.toNat + 1) * 16 ^ l.length := Nat.mul_le_mul_left _ hp
      omega
    rw [ref04_parse_L2]
    simp only [joinK_eq]
    have hv := rval_eq c h.1
    have key : ∀ v : Int, v = ((hexD c.toNat : Nat) : Int) → (grd ((16 : Int) ≠ 0) (if decide ((n : Int) > wr .u64 ((65535 : Int).tdiv 16)) = true then if true = true then (some (0, 4) : Option (Int × Int)) else ref04_parse_L2 N 16 65535 k9 l (wr .u64 (wr .u64 ((n : Int) * 16) + v)) else if decide (wr .u64 ((n : Int) * 16) > wr .u64 (65535 - v)) = true then if true = true then some (0, 4) else ref04_parse_L2 N 16 65535 k9 l (wr .u64 (wr .u64 ((n : Int) * 16) + v)) else if decide (v > 65535) = true then some (0, 4) else ref04_parse_L2 N 16 65535 k9 l (wr .u64 (wr .u64 ((n : Int) * 16) + v)))) = k9 ((hexV (n * 16 + hexD c.toNat) l : Nat) : Int) := by
      rintro v rfl
      rw [grd_true (by decide), show wr .u64 ((65535 : Int).tdiv 16) = 4095 from rfl]
      have w1 : wr .u64 ((n : Int) * 16) = ((n * 16 : Nat) : Int) := by rw [wr_u64 (by omega)]; simp
      have w2 : wr .u64 (((n * 16 : Nat) : Int) + ((hexD c.toNat : Nat) : Int)) = ((n * 16 + hexD c.toNat : Nat) : Int) := by rw [wr_u64 (by omega)]; simp
      have w3 : wr .u64 (65535 - ((hexD c.toNat : Nat) : Int)) = 65535 - ((hexD c.toNat : Nat) : Int) := wr_u64 (by omega)
      rw [w1, w2, w3]
      have c1 : ¬ ((n : Int) > 4095) := by omega
      have c2 : ¬ (((n * 16 : Nat) : Int) > 65535 - ((hexD c.toNat : Nat) : Int)) := by omega
      have c3 : ¬ (((hexD c.toNat : Nat) : Int) > 65535) := by omega
      simp only [c1, c2, c3, decide_false, Bool.false_eq_true, if_false]
      exact rhex2 k9 l _ h.2 e
    rw [hexV]
    by_cases hc : bord c > 57
    · simp only [hc, decide_true, if_true] at hv ⊢
      exact key _ hv
    · simp only [hc, decide_false, Bool.false_eq_true, if_false] at hv ⊢
      exact key _ hv
def hexR (l : List UInt8) : Int × Int := if l.all hexB = true then ((hexV 0 l : Nat), 0) else (0, 1)
theorem phexs_eq (l : List UInt8) (h0 : l ≠ []) (h4 : l.length ≤ 4) : number_Hex N l 65535 = some (hexR l) := by
  unfold number_Hex number_parse__ascii_IsHex hexR
  have e : (l == []) = false := by simpa using h0
  rw [e]
  simp only [Bool.false_eq_true, if_false, joinK_eq]
  rw [grd_true (by unfold fitsS; omega), grd_true (by unfold fitsS; omega), phex1]
  by_cases h : l.all hexB = true
  · rw [if_pos h, if_pos h, show (0 : Int) = ((0 : Nat) : Int) from rfl, phex2 _ l 0 h (by
      have : 16 ^ l.length ≤ 16 ^ 4 := Nat.pow_le_pow_right (by decide) h4
      omega)]
    rfl
  · rw [if_neg h, if_neg h]; rfl
theorem rhexs_eq (l : List UInt8) (h0 : l ≠ []) (h4 : l.length ≤ 4) : ref04_Hex N l 65535 = some (hexR l) := by
  unfold ref04_Hex ref04_parse hexR
  have e : (l == []) = false := by simpa using h0
  rw [e]
  simp only [Bool.false_eq_true, if_false, joinK_eq]
  rw [grd_true (by unfold fitsS; omega), grd_true (by unfold fitsS; omega), rhex1]
  by_cases h : l.all hexB = true
  · rw [if_pos h, if_pos h, show (0 : Int) = ((0 : Nat) : Int) from rfl, rhex2 _ l 0 h (by
      have : 16 ^ l.length ≤ 16 ^ 4 := Nat.pow_le_pow_right (by decide) h4
      omega)]
    rfl
  · rw [if_neg h, if_neg h]; rfl
end
end Go.VM
