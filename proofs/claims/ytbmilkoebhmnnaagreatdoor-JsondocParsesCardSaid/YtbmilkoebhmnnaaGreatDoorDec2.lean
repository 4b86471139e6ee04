/- Decoding of code points by the reference: the same. -/
import Derived.Test.YtbmilkoebhmnnaaGreatDoorDec
set_option linter.unusedVariables false
set_option linter.unusedSimpArgs false
namespace Go.VM
section
variable {N : Nat}
theorem b31' {a : Nat} (h : a < 256) : bandI .i64 (a : Int) 31 = ((a % 32 : Nat) : Int) := band_mod 5 (by omega) (by decide)
theorem b15' {a : Nat} (h : a < 256) : bandI .i64 (a : Int) 15 = ((a % 16 : Nat) : Int) := band_mod 4 (by omega) (by decide)
theorem b7' {a : Nat} (h : a < 256) : bandI .i64 (a : Int) 7 = ((a % 8 : Nat) : Int) := band_mod 3 (by omega) (by decide)
theorem v_step {x : List UInt8} {k4 : Int → Option Int} {k j r : Nat} {c : UInt8} (hx : x[j]? = some c) (hr : r < 2 ^ 50) :
    ref02_value_L1 N x k4 (k + 1) (j : Int) (r : Int) = ref02_value_L1 N x k4 k ((j + 1 : Nat) : Int) ((r * 64 + c.toNat % 64 : Nat) : Int) := by
  have hc := c.toNat_lt
  rw [ref02_value_L1, idx_nat, hx, Option.bind_some, bord_nat, wr_nat (by omega), band63 (by omega), push6 hr (Nat.mod_lt _ (by decide))]
  simp
/-- the number that the bits make -/
def valB : List UInt8 → Nat
  | [a] => a.toNat
  | [a, b] => a.toNat % 32 * 64 + b.toNat % 64
  | [a, b, c] => (a.toNat % 16 * 64 + b.toNat % 64) * 64 + c.toNat % 64
  | [a, b, c, d] => ((a.toNat % 8 * 64 + b.toNat % 64) * 64 + c.toNat % 64) * 64 + d.toNat % 64
  | _ => 0
theorem uvalue_eq (x : List UInt8) (h0 : 0 < x.length) (h4 : x.length ≤ 4) : ref02_value N x = some (valB x : Int) := by
  match x, h0, h4 with
  | [a], _, _ =>
    have ha := a.toNat_lt
    unfold ref02_value
    rw [show ((([a] : List UInt8).length : Int) == 1) = true from rfl, if_pos rfl, show idx [a] 0 = some a from rfl, Option.bind_some, bord_nat, wr_nat (by omega)]
    rfl
  | [a, b], _, _ =>
    have ha := a.toNat_lt
    unfold ref02_value
    rw [show ((([a, b] : List UInt8).length : Int) == 1) = false from rfl, if_neg (by decide), show idx [a, b] 0 = some a from rfl, Option.bind_some, bord_nat]
    rw [grd_true (by show ¬ ((5 : Int) < 0); decide), joinK_eq, grd_true (by show (-4611686018427387904 : Int) ≤ 1 ∧ (2 : Int) ≤ 4611686018427387904; decide), wr_nat (by omega)]
    rw [show wr .i64 (shlI .i64 1 (wr .i64 (7 - (([a, b] : List UInt8).length : Int))) - 1) = 31 from rfl, b31' (by omega)]
    rw [show ((([a, b] : List UInt8).length : Int) - 1).toNat = 0 + 1 from rfl, show (1 : Int) = ((1 : Nat) : Int) from rfl]
    rw [v_step (c := b) rfl (by omega), ref02_value_L1]
    rfl
  | [a, b, c], _, _ =>
    have ha := a.toNat_lt
    unfold ref02_value
    rw [show ((([a, b, c] : List UInt8).length : Int) == 1) = false from rfl, if_neg (by decide), show idx [a, b, c] 0 = some a from rfl, Option.bind_some, bord_nat]
    rw [grd_true (by show ¬ ((4 : Int) < 0); decide), joinK_eq, grd_true (by show (-4611686018427387904 : Int) ≤ 1 ∧ (3 : Int) ≤ 4611686018427387904; decide), wr_nat (by omega)]
    rw [show wr .i64 (shlI .i64 1 (wr .i64 (7 - (([a, b, c] : List UInt8).length : Int))) - 1) = 15 from rfl, b15' (by omega)]
    rw [show ((([a, b, c] : List UInt8).length : Int) - 1).toNat = 0 + 1 + 1 from rfl, show (1 : Int) = ((1 : Nat) : Int) from rfl]
    rw [v_step (c := b) rfl (by omega), v_step (c := c) rfl (by omega), ref02_value_L1]
    rfl
  | [a, b, c, d], _, _ =>
    have ha := a.toNat_lt
    unfold ref02_value
    rw [show ((([a, b, c, d] : List UInt8).length : Int) == 1) = false from rfl, if_neg (by decide), show idx [a, b, c, d] 0 = some a from rfl, Option.bind_some, bord_nat]
    rw [grd_true (by show ¬ ((3 : Int) < 0); decide), joinK_eq, grd_true (by show (-4611686018427387904 : Int) ≤ 1 ∧ (4 : Int) ≤ 4611686018427387904; decide), wr_nat (by omega)]
    rw [show wr .i64 (shlI .i64 1 (wr .i64 (7 - (([a, b, c, d] : List UInt8).length : Int))) - 1) = 7 from rfl, b7' (by omega)]
    rw [show ((([a, b, c, d] : List UInt8).length : Int) - 1).toNat = 0 + 1 + 1 + 1 from rfl, show (1 : Int) = ((1 : Nat) : Int) from rfl]
    rw [v_step (c := b) rfl (by omega), v_step (c := c) rfl (by omega), v_step (c := d) rfl (by omega), ref02_value_L1]
    rfl
/-- are these bytes the encoding of a code point -/
def hitB (x : List UInt8) : Bool := pointB (valB x : Int) && (encB (valB x) == x)
theorem rd_step {l : List UInt8} {i j k : Nat} {k6 : Unit → Option (Int × Int × Int)} (hi : i + 10 ≤ 2 ^ 60) (h1 : 1 ≤ j) (h4 : j ≤ 4) :
    ref02_Decode_L1 N l (i : Int) k6 (k + 1) (j : Int) = if i + j ≤ l.length then (if hitB ((l.drop i).take j) = true then some ((valB ((l.drop i).take j) : Int), ((i + j : Nat) : Int), 0) else ref02_Decode_L1 N l (i : Int) k6 k ((j + 1 : Nat) : Int)) else k6 () := by
  rw [ref02_Decode_L1, joinK_eq]
  have e1 : (j : Int) ≤ 4 := by omega
  have e2 : wr .i64 ((i : Int) + (j : Int)) = ((i + j : Nat) : Int) := by rw [wr_i64 (by omega)]; simp
  have e3 : wr .i64 ((j : Int) + 1) = ((j + 1 : Nat) : Int) := by rw [wr_i64 (by omega)]; simp
  simp only [e1, decide_true, if_true, e2, e3]
  by_cases h : i + j ≤ l.length
  · have h' : ((i + j : Nat) : Int) ≤ (l.length : Int) := by omega
    simp only [h, h', decide_true, if_true]
    rw [sub_nat l i (i + j) (by omega) h, Option.bind_some, Nat.add_sub_cancel_left]
    have hl : ((l.drop i).take j).length = j := by simp; omega
    rw [uvalue_eq _ (by omega) (by omega), Option.bind_some, ruenc_eq, Option.bind_some, joinK_eq]
    unfold hitB encR
    cases hp : pointB (valB ((l.drop i).take j) : Int)
    · simp
    · simp only [if_true, Int.toNat_natCast, Bool.true_and, beq_self_eq_true]
  · have h' : ¬ ((i + j : Nat) : Int) ≤ (l.length : Int) := by omega
    simp only [h, h', decide_false, if_false, Bool.false_eq_true]
theorem hit1 (a : UInt8) : hitB [a] = true ↔ a.toNat < 128 := by
  have ha := a.toNat_lt
  have hp : pointB (a.toNat : Int) = true := by simp [pointB]; omega
  simp only [hitB, valB, hp, Bool.true_and, encB]
  by_cases h : a.toNat < 128
  · simp [h]
  · have : a.toNat < 2048 := by omega
    simp [h, this]
theorem u8_of {n : Nat} {a : UInt8} (h : n < 256) : UInt8.ofNat n = a ↔ n = a.toNat := by
  rw [u8_eq, toNat_ofNat h]
theorem cont_iff (b : UInt8) : contB b = true ↔ 128 + b.toNat % 64 = b.toNat := by
  have := b.toNat_lt
  simp only [contB, decide_eq_true_eq]; omega
theorem hit2 (a b : UInt8) : hitB [a, b] = true ↔ a.toNat / 32 = 6 ∧ contB b = true ∧ 128 ≤ a.toNat % 32 * 64 + b.toNat % 64 := by
  have ha := a.toNat_lt
  have hb := b.toNat_lt
  have hp : pointB ((a.toNat % 32 * 64 + b.toNat % 64 : Nat) : Int) = true := by simp [pointB]; omega
  simp only [hitB, valB, hp, Bool.true_and, encB, cont_iff]
  by_cases h : a.toNat % 32 * 64 + b.toNat % 64 < 128
  · simp [h]
  · have h2 : a.toNat % 32 * 64 + b.toNat % 64 < 2048 := by omega
    simp only [h, h2, if_true, if_false, beq_iff_eq, List.cons.injEq, and_true]
    rw [u8_of (by omega), u8_of (by omega)]
    omega
theorem hit3 (a b c : UInt8) : hitB [a, b, c] = true ↔ a.toNat / 16 = 14 ∧ contB b = true ∧ contB c = true ∧ 2048 ≤ (a.toNat % 16 * 64 + b.toNat % 64) * 64 + c.toNat % 64 ∧ pointB (((a.toNat % 16 * 64 + b.toNat % 64) * 64 + c.toNat % 64 : Nat)) = true := by
  have ha := a.toNat_lt
  have hb := b.toNat_lt
  have hc := c.toNat_lt
  simp only [hitB, valB, encB, cont_iff, Bool.and_eq_true]
  by_cases h0 : (a.toNat % 16 * 64 + b.toNat % 64) * 64 + c.toNat % 64 < 128
  · simp [h0]; omega
  by_cases h1 : (a.toNat % 16 * 64 + b.toNat % 64) * 64 + c.toNat % 64 < 2048
  · simp [h0, h1]; omega
  · have h2 : (a.toNat % 16 * 64 + b.toNat % 64) * 64 + c.toNat % 64 < 65536 := by omega
    simp only [h0, h1, h2, if_true, if_false, beq_iff_eq, List.cons.injEq, and_true]
    rw [u8_of (by omega), u8_of (by omega), u8_of (by omega)]
    constructor
    · rintro ⟨hp, h⟩; exact ⟨by omega, by omega, by omega, by omega, hp⟩
    · rintro ⟨h, h', h'', _, hp⟩; exact ⟨hp, by omega, by omega, by omega⟩
theorem hit4 (a b c d : UInt8) : hitB [a, b, c, d] = true ↔ a.toNat / 8 = 30 ∧ contB b = true ∧ contB c = true ∧ contB d = true ∧ 65536 ≤ ((a.toNat % 8 * 64 + b.toNat % 64) * 64 + c.toNat % 64) * 64 + d.toNat % 64 ∧ pointB ((((a.toNat % 8 * 64 + b.toNat % 64) * 64 + c.toNat % 64) * 64 + d.toNat % 64 : Nat)) = true := by
  have ha := a.toNat_lt
  have hb := b.toNat_lt
  have hc := c.toNat_lt
  have hd := d.toNat_lt
  simp only [hitB, valB, encB, cont_iff, Bool.and_eq_true]
  by_cases h0 : ((a.toNat % 8 * 64 + b.toNat % 64) * 64 + c.toNat % 64) * 64 + d.toNat % 64 < 128
  · simp [h0]; omega
  by_cases h1 : ((a.toNat % 8 * 64 + b.toNat % 64) * 64 + c.toNat % 64) * 64 + d.toNat % 64 < 2048
  · simp [h0, h1]; omega
  by_cases h2 : ((a.toNat % 8 * 64 + b.toNat % 64) * 64 + c.toNat % 64) * 64 + d.toNat % 64 < 65536
  · simp [h0, h1, h2]; omega
  · simp only [h0, h1, h2, if_true, if_false, beq_iff_eq, List.cons.injEq, and_true]
    rw [u8_of (by omega), u8_of (by omega), u8_of (by omega), u8_of (by omega)]
    constructor
    · rintro ⟨hp, h⟩; exact ⟨by omega, by omega, by omega, by omega, by omega, hp⟩
    · rintro ⟨h, h', h'', h3, _, hp⟩; exact ⟨hp, by omega, by omega, by omega, by omega⟩
theorem rd_last {l : List UInt8} {i k : Nat} {k6 : Unit → Option (Int × Int × Int)} : ref02_Decode_L1 N l (i : Int) k6 (k + 1) ((4 + 1 : Nat) : Int) = k6 () := by
  rw [ref02_Decode_L1, joinK_eq]; rfl
theorem bnot_iff {b : Bool} {p : Prop} (h : b = true ↔ p) (k : ¬ p) : b = false := by
  cases b
  · rfl
  · exact absurd (h.1 rfl) k
theorem rudec_eq {l : List UInt8} {i : Nat} (hN : 5 ≤ N) (hi : i < l.length) (hb : l.length + 10 ≤ 2 ^ 60) : ref02_Decode N l (i : Int) = some (udecR i (decB (l.drop i))) := by
  obtain ⟨M, rfl⟩ : ∃ M, N = M + 1 + 1 + 1 + 1 + 1 := ⟨N - 5, by omega⟩
  unfold ref02_Decode
  have c1 : ¬ ((i : Int) < 0) := by omega
  have c2 : ¬ ((i : Int) ≥ (l.length : Int)) := by omega
  simp only [joinK_eq, c1, c2, decide_false, Bool.false_eq_true, if_false]
  rw [show (1 : Int) = ((1 : Nat) : Int) from rfl, rd_step (by omega) (by omega) (by omega), rd_step (by omega) (by omega) (by omega), rd_step (by omega) (by omega) (by omega), rd_step (by omega) (by omega) (by omega), rd_last]
  obtain ⟨t, ht⟩ : ∃ t, l.drop i = t := ⟨_, rfl⟩
  have hl := len_drop ht (by omega)
  rw [ht]
  match t, hl with
  | [], hl => simp at hl; omega
  | [a], hl =>
    simp only [List.length_cons, List.length_nil] at hl
    have e1 : i + 1 ≤ l.length := by omega
    have e2 : ¬ i + (1 + 1) ≤ l.length := by omega
    simp only [e1, e2, if_true, if_false, List.take]
    simp only [decB]
    by_cases h1 : a.toNat < 128
    · rw [if_pos ((hit1 a).2 h1), if_pos h1]; rfl
    · rw [bnot_iff (hit1 a) h1]
      simp [h1, udecR]
      repeat' split
      all_goals rfl
  | [a, b], hl =>
    simp only [List.length_cons, List.length_nil] at hl
    have e1 : i + 1 ≤ l.length := by omega
    have e2 : i + (1 + 1) ≤ l.length := by omega
    have e3 : ¬ i + (1 + 1 + 1) ≤ l.length := by omega
    simp only [e1, e2, e3, if_true, if_false, List.take]
    simp only [decB]
    by_cases h1 : a.toNat < 128
    · rw [if_pos ((hit1 a).2 h1), if_pos h1]; rfl
    · rw [bnot_iff (hit1 a) h1]
      simp only [Bool.false_eq_true, if_false, h1]
      by_cases h2 : a.toNat / 32 = 6
      · simp only [h2, if_true]
        by_cases k : contB b = true ∧ 128 ≤ a.toNat % 32 * 64 + b.toNat % 64
        · rw [if_pos ((hit2 a b).2 ⟨h2, k⟩), if_pos k]; rfl
        · rw [bnot_iff (hit2 a b) (fun h => k h.2), if_neg k]; rfl
      · rw [bnot_iff (hit2 a b) (fun h => h2 h.1)]
        simp only [Bool.false_eq_true, if_false, h2, ite_self, udecR]
  | [a, b, c], hl =>
    simp only [List.length_cons, List.length_nil] at hl
    have e1 : i + 1 ≤ l.length := by omega
    have e2 : i + (1 + 1) ≤ l.length := by omega
    have e3 : i + (1 + 1 + 1) ≤ l.length := by omega
    have e4 : ¬ i + (1 + 1 + 1 + 1) ≤ l.length := by omega
    simp only [e1, e2, e3, e4, if_true, if_false, List.take]
    simp only [decB]
    by_cases h1 : a.toNat < 128
    · rw [if_pos ((hit1 a).2 h1), if_pos h1]; rfl
    · rw [bnot_iff (hit1 a) h1]
      simp only [Bool.false_eq_true, if_false, h1]
      by_cases h2 : a.toNat / 32 = 6
      · have h3 : ¬ a.toNat / 16 = 14 := by omega
        simp only [h2, if_true, bnot_iff (hit3 a b c) (fun h => h3 h.1), Bool.false_eq_true, if_false]
        by_cases k : contB b = true ∧ 128 ≤ a.toNat % 32 * 64 + b.toNat % 64
        · rw [if_pos ((hit2 a b).2 ⟨h2, k⟩), if_pos k]; rfl
        · rw [bnot_iff (hit2 a b) (fun h => k h.2), if_neg k]; rfl
      · rw [bnot_iff (hit2 a b) (fun h => h2 h.1)]
        simp only [Bool.false_eq_true, if_false, h2]
        by_cases h3 : a.toNat / 16 = 14
        · simp only [h3, if_true]
          by_cases k : contB b = true ∧ contB c = true ∧ 2048 ≤ (a.toNat % 16 * 64 + b.toNat % 64) * 64 + c.toNat % 64 ∧ pointB (((a.toNat % 16 * 64 + b.toNat % 64) * 64 + c.toNat % 64 : Nat)) = true
          · rw [if_pos ((hit3 a b c).2 ⟨h3, k⟩), if_pos k]; rfl
          · rw [if_neg (fun e => k ((hit3 a b c).1 e).2), if_neg k]; rfl
        · rw [bnot_iff (hit3 a b c) (fun h => h3 h.1)]
          simp only [Bool.false_eq_true, if_false, h3, ite_self, udecR]
  | a :: b :: c :: d :: t, hl =>
    simp only [List.length_cons] at hl
    have e1 : i + 1 ≤ l.length := by omega
    have e2 : i + (1 + 1) ≤ l.length := by omega
    have e3 : i + (1 + 1 + 1) ≤ l.length := by omega
    have e4 : i + (1 + 1 + 1 + 1) ≤ l.length := by omega
    rw [show List.take 1 (a :: b :: c :: d :: t) = [a] from rfl, show List.take (1 + 1) (a :: b :: c :: d :: t) = [a, b] from rfl, show List.take (1 + 1 + 1) (a :: b :: c :: d :: t) = [a, b, c] from rfl, show List.take (1 + 1 + 1 + 1) (a :: b :: c :: d :: t) = [a, b, c, d] from rfl]
    simp only [e1, e2, e3, e4, if_true, if_false]
    simp only [decB]
    by_cases h1 : a.toNat < 128
    · rw [if_pos ((hit1 a).2 h1), if_pos h1]; rfl
    · rw [bnot_iff (hit1 a) h1]
      simp only [Bool.false_eq_true, if_false, h1]
      by_cases h2 : a.toNat / 32 = 6
      · have h3 : ¬ a.toNat / 16 = 14 := by omega
        have h4 : ¬ a.toNat / 8 = 30 := by omega
        simp only [h2, if_true, bnot_iff (hit3 a b c) (fun h => h3 h.1), bnot_iff (hit4 a b c d) (fun h => h4 h.1), Bool.false_eq_true, if_false]
        by_cases k : contB b = true ∧ 128 ≤ a.toNat % 32 * 64 + b.toNat % 64
        · rw [if_pos ((hit2 a b).2 ⟨h2, k⟩), if_pos k]; rfl
        · rw [bnot_iff (hit2 a b) (fun h => k h.2), if_neg k]; rfl
      · rw [bnot_iff (hit2 a b) (fun h => h2 h.1)]
        simp only [Bool.false_eq_true, if_false, h2]
        by_cases h3 : a.toNat / 16 = 14
        · have h4 : ¬ a.toNat / 8 = 30 := by omega
          simp only [h3, if_true, bnot_iff (hit4 a b c d) (fun h => h4 h.1), Bool.false_eq_true, if_false]
          by_cases k : contB b = true ∧ contB c = true ∧ 2048 ≤ (a.toNat % 16 * 64 + b.toNat % 64) * 64 + c.toNat % 64 ∧ pointB (((a.toNat % 16 * 64 + b.toNat % 64) * 64 + c.toNat % 64 : Nat)) = true
          · rw [if_pos ((hit3 a b c).2 ⟨h3, k⟩), if_pos k]; rfl
          · rw [if_neg (fun e => k ((hit3 a b c).1 e).2), if_neg k]; rfl
        · rw [bnot_iff (hit3 a b c) (fun h => h3 h.1)]
          simp only [Bool.false_eq_true, if_false, h3]
          by_cases h4 : a.toNat / 8 = 30
          · simp only [h4, if_true]
            by_cases k : contB b = true ∧ contB c = true ∧ contB d = true ∧ 65536 ≤ ((a.toNat % 8 * 64 + b.toNat % 64) * 64 + c.toNat % 64) * 64 + d.toNat % 64 ∧ pointB ((((a.toNat % 8 * 64 + b.toNat % 64) * 64 + c.toNat % 64) * 64 + d.toNat % 64 : Nat)) = true
            · rw [if_pos ((hit4 a b c d).2 ⟨h4, k⟩), if_pos k]; rfl
            · rw [if_neg (fun e => k ((hit4 a b c d).1 e).2), if_neg k]; rfl
          · rw [if_neg (fun e => h4 ((hit4 a b c d).1 e).1), if_neg h4]; rfl
end
end Go.VM
