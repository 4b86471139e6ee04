/- Decoding of code points: the program's and the reference's are the same. -/
import Derived.Test.YtbmilkoebhmnnaaGreatDoorEnc
import Derived.Test.YtbmilkoebhmnnaaGreatDoorOk
set_option linter.unusedVariables false
set_option linter.unusedSimpArgs false
namespace Go.VM
section
variable {N : Nat}
def contB (c : UInt8) : Bool := decide (c.toNat / 64 = 2)
/-- the code point at the head of a text, and its length -/
def decB : List UInt8 → Option (Nat × Nat)
  | [] => none
  | a :: t =>
    if a.toNat < 128 then some (a.toNat, 1)
    else if a.toNat / 32 = 6 then
      match t with
      | b :: _ => if contB b = true ∧ 128 ≤ a.toNat % 32 * 64 + b.toNat % 64 then some (a.toNat % 32 * 64 + b.toNat % 64, 2) else none
      | _ => none
    else if a.toNat / 16 = 14 then
      match t with
      | b :: c :: _ => if contB b = true ∧ contB c = true ∧ 2048 ≤ (a.toNat % 16 * 64 + b.toNat % 64) * 64 + c.toNat % 64 ∧ pointB (((a.toNat % 16 * 64 + b.toNat % 64) * 64 + c.toNat % 64 : Nat)) = true then some ((a.toNat % 16 * 64 + b.toNat % 64) * 64 + c.toNat % 64, 3) else none
      | _ => none
    else if a.toNat / 8 = 30 then
      match t with
      | b :: c :: d :: _ => if contB b = true ∧ contB c = true ∧ contB d = true ∧ 65536 ≤ ((a.toNat % 8 * 64 + b.toNat % 64) * 64 + c.toNat % 64) * 64 + d.toNat % 64 ∧ pointB ((((a.toNat % 8 * 64 + b.toNat % 64) * 64 + c.toNat % 64) * 64 + d.toNat % 64 : Nat)) = true then some (((a.toNat % 8 * 64 + b.toNat % 64) * 64 + c.toNat % 64) * 64 + d.toNat % 64, 4) else none
      | _ => none
    else none
def udecR (i : Nat) : Option (Nat × Nat) → Int × Int × Int
  | some (r, n) => ((r : Int), ((i + n : Nat) : Int), 0)
  | none => (0, 0, 7)
theorem idx_drop {α : Type} {l t : List α} {x : α} {i j : Nat} (h : l.drop i = t) (hx : t[j]? = some x) : idx l ((i + j : Nat) : Int) = some x := by
  rw [idx_nat, ← List.getElem?_drop, h, hx]
theorem len_drop {α : Type} {l t : List α} {i : Nat} (h : l.drop i = t) (hi : i ≤ l.length) : l.length = i + t.length := by
  have := congrArg List.length h
  simp at this; omega
section
variable {l t : List UInt8} {i : Nat} {k13 : Int → Option (Int × Int × Int)}
theorem d2_end (hi : i + 10 ≤ 2 ^ 60) {k m j : Nat} {r : Int} (h : m < j) (hj : j ≤ 5) : utf8text_Decode_L2 N l (i : Int) (m : Int) k13 (k + 1) r (j : Int) = k13 r := by
  rw [utf8text_Decode_L2]
  have : ¬ (j : Int) ≤ m := by omega
  simp [this]
theorem d2_step (hi : i + 10 ≤ 2 ^ 60) {k m j r : Nat} {x : UInt8} (h : j ≤ m) (hm : m ≤ 3) (ht : l.drop i = t) (hx : t[j]? = some x) (hr : r < 2 ^ 50) :
    utf8text_Decode_L2 N l (i : Int) (m : Int) k13 (k + 1) (r : Int) (j : Int) = if contB x = true then utf8text_Decode_L2 N l (i : Int) (m : Int) k13 k ((r * 64 + x.toNat % 64 : Nat) : Int) ((j + 1 : Nat) : Int) else some (0, 0, 7) := by
  rw [utf8text_Decode_L2]
  have h1 : (j : Int) ≤ m := by omega
  have h2 : wr .i64 ((i : Int) + (j : Int)) = ((i + j : Nat) : Int) := by rw [wr_i64 (by omega)]; simp
  have h3 : wr .i64 ((j : Int) + 1) = ((j + 1 : Nat) : Int) := by rw [wr_i64 (by omega)]; simp
  have h4 : x.toNat % 64 < 64 := Nat.mod_lt _ (by decide)
  simp only [h1, decide_true, if_true, h2, h3]
  rw [idx_drop ht hx, Option.bind_some, b192, b63, wr_nat (by omega), push6 hr h4]
  have h5 : ((((x.toNat / 64 * 64 : Nat) : Int)) != 128) = !contB x := by
    unfold contB
    by_cases hc : x.toNat / 64 = 2
    · rw [hc]; rfl
    · have : ¬ ((x.toNat / 64 * 64 : Nat) : Int) = 128 := by omega
      simp only [hc, decide_false, Bool.not_false, bne_iff_ne, ne_eq]; exact this
  rw [h5]
  cases contB x <;> simp
theorem tab0 : idx tab_utf8text_forms 0 = some (Utf8textForm.mk 0 127 0) := rfl
theorem tab1 : idx tab_utf8text_forms 1 = some (Utf8textForm.mk 192 31 128) := rfl
theorem tab2 : idx tab_utf8text_forms 2 = some (Utf8textForm.mk 224 15 2048) := rfl
theorem tab3 : idx tab_utf8text_forms 3 = some (Utf8textForm.mk 240 7 65536) := rfl
/-- the end of the program's reader: is the number one that needs so many bytes -/
def fin_ (i m least r : Nat) : Int × Int × Int := if least ≤ r ∧ pointB (r : Int) = true then ((r : Int), ((i + m : Nat) : Int), 0) else (0, 0, 7)
theorem pudec_eq (hN : 5 ≤ N) (hi : i < l.length) (hb : l.length + 10 ≤ 2 ^ 60) : utf8text_Decode N l (i : Int) = some (udecR i (decB (l.drop i))) := by
  obtain ⟨M, rfl⟩ : ∃ M, N = M + 5 := ⟨N - 5, by omega⟩
  unfold utf8text_Decode
  have c1 : ¬ ((i : Int) < 0) := by omega
  have c2 : ¬ ((i : Int) ≥ (l.length : Int)) := by omega
  simp only [joinK_eq, c1, c2, decide_false, Bool.false_eq_true, if_false]
  rw [grd_true (by decide)]
  obtain ⟨t, ht⟩ : ∃ t, l.drop i = t := ⟨_, rfl⟩
  have hl := len_drop ht (by omega)
  cases t with
  | nil => simp at hl; omega
  | cons a t =>
    have ha : idx l (i : Int) = some a := by
      have := idx_drop (j := 0) ht rfl
      simpa using this
    have hat := a.toNat_lt
    simp only [List.length_cons] at hl
    have hw : wr .i64 (wr .i64 ((l.length : Int) - (i : Int)) - 1) = ((t.length : Nat) : Int) := by
      rw [wr_i64 (n := (l.length : Int) - (i : Int)) (by omega), wr_i64 (by omega)]; omega
    have he : ∀ m : Nat, m ≤ 3 → wr .i64 (wr .i64 ((i : Int) + (m : Int)) + 1) = ((i + (m + 1) : Nat) : Int) := by
      intro m hm
      rw [wr_i64 (n := (i : Int) + (m : Int)) (by omega), wr_i64 (by omega)]; omega
    have fin : ∀ (m least r : Nat), m ≤ 3 → (if decide ((r : Int) < (least : Int)) = true then (some (0, 0, 7) : Option (Int × Int × Int)) else Option.bind (utf8text_point (M + 5) (r : Int)) fun y22 => if (!y22) = true then some (0, 0, 7) else some ((r : Int), wr .i64 (wr .i64 ((i : Int) + (m : Int)) + 1), 0)) = some (fin_ i (m + 1) least r) := by
      intro m least r hm
      rw [ppoint_eq, Option.bind_some, he m hm]
      unfold fin_
      by_cases h1 : least ≤ r
      · have : ¬ (r : Int) < least := by omega
        cases hp : pointB (r : Int) <;> simp [h1, this, hp]
      · have : (r : Int) < least := by omega
        simp [h1, this]
    rw [ht]
    show utf8text_Decode_L1 (M + 5) l (i : Int) _ 4 0 = _
    rw [utf8text_Decode_L1, tab0, Option.bind_some, ha, Option.bind_some, bn127, hw]
    unfold decB
    by_cases h1 : a.toNat < 128
    · have e1 : ((a.toNat / 128 * 128 : Nat) : Int) = 0 := by omega
      have e2 : ¬ ((t.length : Int) < 0) := by omega
      simp only [e1, bne_self_eq_false, Bool.false_eq_true, if_false, e2, decide_false, joinK_eq, h1, if_true]
      rw [b127, Nat.mod_eq_of_lt h1, wr_nat (by omega)]
      rw [show utf8text_Decode_L2 (M + 5) l (i : Int) 0 = utf8text_Decode_L2 (M + 5) l (i : Int) ((0 : Nat) : Int) from rfl, show (1 : Int) = ((1 : Nat) : Int) from rfl, d2_end (by omega) (by omega) (by omega)]
      have := fin 0 0 a.toNat (by omega)
      rw [show ((0 : Nat) : Int) = 0 from rfl] at this
      rw [show ((1 : Nat) : Int) = 1 from rfl, this]
      have hp : pointB (a.toNat : Int) = true := by simp [pointB]; omega
      simp [fin_, hp, udecR]
    · have e1 : (((a.toNat / 128 * 128 : Nat) : Int) != 0) = true := by
        have : ¬ ((a.toNat / 128 * 128 : Nat) : Int) = 0 := by omega
        simpa using this
      simp only [e1, if_true, h1, if_false]
      rw [show (0 : Int) + 1 = 1 from rfl, utf8text_Decode_L1, tab1, Option.bind_some, ha, Option.bind_some, bn31, hw]
      by_cases h2 : a.toNat / 32 = 6
      · rw [h2]
        simp only [show (((6 * 32 : Nat) : Int) != 192) = false from rfl, Bool.false_eq_true, if_false, if_true]
        cases t with
        | nil => simp [udecR]
        | cons b t =>
          have e2 : ¬ ((((b :: t).length : Nat) : Int) < 1) := by simp only [List.length_cons]; omega
          simp only [e2, decide_false, Bool.false_eq_true, if_false, joinK_eq]
          rw [b31, wr_nat (by omega)]
          rw [show utf8text_Decode_L2 (M + 5) l (i : Int) 1 = utf8text_Decode_L2 (M + 5) l (i : Int) ((1 : Nat) : Int) from rfl, show (1 : Int) = ((1 : Nat) : Int) from rfl]
          rw [d2_step (by omega) (Nat.le_refl _) (by omega) ht rfl (by omega)]
          cases hc : contB b with
          | false => simp [hc, udecR]
          | true =>
            simp only [if_true, true_and]
            rw [d2_end (by omega) (by omega) (by omega)]
            have := fin 1 128 (a.toNat % 32 * 64 + b.toNat % 64) (by omega)
            rw [show ((1 : Nat) : Int) = 1 from rfl] at this
            rw [show ((1 : Nat) : Int) = 1 from rfl]
            refine this.trans ?_
            have hp : pointB ((a.toNat % 32 * 64 + b.toNat % 64 : Nat) : Int) = true := by
              have : a.toNat % 32 < 32 := Nat.mod_lt _ (by decide)
              have : b.toNat % 64 < 64 := Nat.mod_lt _ (by decide)
              simp [pointB]; omega
            simp only [fin_, hp, and_true]
            split <;> simp [udecR]
      · have e1 : (((a.toNat / 32 * 32 : Nat) : Int) != 192) = true := by
          have : ¬ ((a.toNat / 32 * 32 : Nat) : Int) = 192 := by omega
          simpa using this
        simp only [e1, if_true, h2, if_false]
        rw [show (1 : Int) + 1 = 2 from rfl, utf8text_Decode_L1, tab2, Option.bind_some, ha, Option.bind_some, bn15, hw]
        by_cases h3 : a.toNat / 16 = 14
        · rw [h3]
          simp only [show (((14 * 16 : Nat) : Int) != 224) = false from rfl, Bool.false_eq_true, if_false, if_true]
          match t, ht, hl with
          | [], ht, hl => simp [udecR]
          | [b], ht, hl => simp [udecR]
          | b :: c :: t, ht, hl =>
            have e2 : ¬ ((((b :: c :: t).length : Nat) : Int) < 2) := by simp only [List.length_cons]; omega
            simp only [e2, decide_false, Bool.false_eq_true, if_false, joinK_eq]
            rw [b15, wr_nat (by omega)]
            rw [show utf8text_Decode_L2 (M + 5) l (i : Int) 2 = utf8text_Decode_L2 (M + 5) l (i : Int) ((2 : Nat) : Int) from rfl, show (1 : Int) = ((1 : Nat) : Int) from rfl]
            rw [d2_step (by omega) (by omega) (by omega) ht rfl (by omega)]
            cases hc : contB b with
            | false => simp [hc, udecR]
            | true =>
              simp only [if_true, true_and]
              rw [d2_step (by omega) (by omega) (by omega) ht rfl (by omega)]
              cases hc2 : contB c with
              | false => simp [hc2, udecR]
              | true =>
                simp only [if_true, true_and]
                rw [d2_end (by omega) (by omega) (by omega)]
                have := fin 2 2048 ((a.toNat % 16 * 64 + b.toNat % 64) * 64 + c.toNat % 64) (by omega)
                rw [show ((2 : Nat) : Int) = 2 from rfl] at this
                refine this.trans ?_
                simp only [fin_]
                split <;> simp [udecR]
        · have e1 : (((a.toNat / 16 * 16 : Nat) : Int) != 224) = true := by
            have : ¬ ((a.toNat / 16 * 16 : Nat) : Int) = 224 := by omega
            simpa using this
          simp only [e1, if_true, h3, if_false]
          rw [show (2 : Int) + 1 = 3 from rfl, utf8text_Decode_L1, tab3, Option.bind_some, ha, Option.bind_some, bn7, hw]
          by_cases h4 : a.toNat / 8 = 30
          · rw [h4]
            simp only [show (((30 * 8 : Nat) : Int) != 240) = false from rfl, Bool.false_eq_true, if_false, if_true]
            match t, ht, hl with
            | [], ht, hl => simp [udecR]
            | [b], ht, hl => simp [udecR]
            | [b, c], ht, hl => simp [udecR]
            | b :: c :: d :: t, ht, hl =>
              have e2 : ¬ ((((b :: c :: d :: t).length : Nat) : Int) < 3) := by simp only [List.length_cons]; omega
              simp only [e2, decide_false, Bool.false_eq_true, if_false, joinK_eq]
              rw [b7, wr_nat (by omega)]
              rw [show utf8text_Decode_L2 (M + 5) l (i : Int) 3 = utf8text_Decode_L2 (M + 5) l (i : Int) ((3 : Nat) : Int) from rfl, show (1 : Int) = ((1 : Nat) : Int) from rfl]
              rw [d2_step (by omega) (by omega) (by omega) ht rfl (by omega)]
              cases hc : contB b with
              | false => simp [hc, udecR]
              | true =>
                simp only [if_true, true_and]
                rw [d2_step (by omega) (by omega) (by omega) ht rfl (by omega)]
                cases hc2 : contB c with
                | false => simp [hc2, udecR]
                | true =>
                  simp only [if_true, true_and]
                  rw [d2_step (by omega) (by omega) (by omega) ht rfl (by omega)]
                  cases hc3 : contB d with
                  | false => simp [hc3, udecR]
                  | true =>
                    simp only [if_true, true_and]
                    rw [d2_end (by omega) (by omega) (by omega)]
                    have := fin 3 65536 (((a.toNat % 8 * 64 + b.toNat % 64) * 64 + c.toNat % 64) * 64 + d.toNat % 64) (by omega)
                    rw [show ((3 : Nat) : Int) = 3 from rfl] at this
                    refine this.trans ?_
                    simp only [fin_]
                    split <;> simp [udecR]
          · have e1 : (((a.toNat / 8 * 8 : Nat) : Int) != 240) = true := by
              have : ¬ ((a.toNat / 8 * 8 : Nat) : Int) = 240 := by omega
              simpa using this
            simp only [e1, if_true, h4, if_false]
            rw [utf8text_Decode_L1]
            rfl
end
end
end Go.VM
