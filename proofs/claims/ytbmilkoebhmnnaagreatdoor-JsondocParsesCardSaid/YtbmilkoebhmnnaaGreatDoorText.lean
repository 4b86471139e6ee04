/- Strings: the program's and the reference's readers are the same. -/
import Derived.Test.YtbmilkoebhmnnaaGreatDoorEsc
set_option linter.unusedVariables false
set_option linter.unusedSimpArgs false
namespace Go.VM
section
variable {N : Nat}
theorem decB_len {t : List UInt8} {r n : Nat} (h : decB t = some (r, n)) : 1 ≤ n ∧ n ≤ t.length ∧ n ≤ 4 := by
  match t, h with
  | [], h => cases h
  | a :: t, h =>
    simp only [decB] at h
    split at h
    · simp only [Option.some.injEq, Prod.mk.injEq] at h; obtain ⟨_, rfl⟩ := h; simp
    · split at h
      · match t, h with
        | [], h => cases h
        | b :: t, h =>
          simp only at h
          split at h
          · simp only [Option.some.injEq, Prod.mk.injEq] at h; obtain ⟨_, rfl⟩ := h; simp
          · cases h
      · split at h
        · match t, h with
          | [], h => cases h
          | [_], h => cases h
          | b :: c :: t, h =>
            simp only at h
            split at h
            · simp only [Option.some.injEq, Prod.mk.injEq] at h; obtain ⟨_, rfl⟩ := h; simp
            · cases h
        · split at h
          · match t, h with
            | [], h => cases h
            | [_], h => cases h
            | [_, _], h => cases h
            | b :: c :: d :: t, h =>
              simp only at h
              split at h
              · simp only [Option.some.injEq, Prod.mk.injEq] at h; obtain ⟨_, rfl⟩ := h; simp
              · cases h
          · cases h
theorem encB_len (r : Nat) : 1 ≤ (encB r).length ∧ (encB r).length ≤ 4 := by
  unfold encB
  split
  · simp
  · split
    · simp
    · split <;> simp
theorem escB_len {t : List UInt8} (h : (escB t).2.2 = 0) : 2 ≤ (escB t).2.1 ∧ (escB t).2.1 ≤ t.length ∧ (escB t).1.length ≤ 4 ∧ (escB t).1.length ≤ (escB t).2.1 := by
  cases hu : unitB t with
  | none =>
    rw [escB_none hu] at h ⊢
    match t, h with
    | [], h => cases h
    | [_], h => cases h
    | _ :: c :: r, h =>
      simp only [letterB] at h ⊢
      cases hs : simpN c.toNat with
      | none => rw [hs] at h; cases h
      | some b => simp
  | some hi =>
    obtain ⟨h1, h2, _⟩ := unitB_lt hu
    rw [escB_some hu] at h ⊢
    by_cases c1 : 55296 ≤ hi ∧ hi ≤ 56319
    · simp only [c1, and_self, if_true] at h ⊢
      cases hu2 : unitB (t.drop 6) with
      | none => rw [hu2] at h; cases h
      | some lo =>
        obtain ⟨_, h3, _⟩ := unitB_lt hu2
        rw [hu2] at h
        simp only at h ⊢
        by_cases c2 : 56320 ≤ lo ∧ lo ≤ 57343
        · simp only [c2, and_self, if_true] at h ⊢
          have := encB_len (surB hi lo)
          rw [List.length_drop] at h3
          exact ⟨by omega, by omega, by omega, by omega⟩
        · rw [if_neg c2] at h; cases h
    · rw [if_neg c1] at h ⊢
      by_cases c2 : 56320 ≤ hi ∧ hi ≤ 57343
      · rw [if_pos c2] at h; cases h
      · rw [if_neg c2]
        have := encB_len hi
        exact ⟨by simp, by simpa using h2, by simpa using this.2, by simp only []; omega⟩
/-- a string behind its quote: the text, the offset behind it, or the error -/
def textS : Nat → List UInt8 → Nat → List UInt8 → List UInt8 × Nat × Int
  | 0, _, _, _ => ([], 0, 130)
  | _ + 1, [], _, _ => ([], 0, 130)
  | k + 1, c :: t, i, out =>
    if c.toNat = 34 then (out, i + 1, 0)
    else if c.toNat = 92 then
      if (escB (c :: t)).2.2 = 0 then textS k ((c :: t).drop (escB (c :: t)).2.1) (i + (escB (c :: t)).2.1) (out ++ (escB (c :: t)).1)
      else ([], 0, (escB (c :: t)).2.2)
    else if c.toNat < 32 then ([], 0, 130)
    else
      match decB (c :: t) with
      | some (_, n) => textS k ((c :: t).drop n) (i + n) (out ++ (c :: t).take n)
      | none => ([], 0, 7)
def outT (r : List UInt8 × Nat × Int) : List UInt8 × Int × Int := if r.2.2 = 0 then (r.1, (r.2.1 : Int), 0) else ([], 0, r.2.2)
theorem textS_le : ∀ (k : Nat) (t : List UInt8) (i : Nat) (out : List UInt8), (textS k t i out).2.2 = 0 → i < (textS k t i out).2.1 ∧ (textS k t i out).2.1 ≤ i + t.length ∧ (textS k t i out).1.length ≤ out.length + t.length
  | 0, t, i, out, h => by rw [textS] at h; cases h
  | k + 1, [], i, out, h => by rw [textS] at h; cases h
  | k + 1, c :: t, i, out, h => by
    rw [textS] at h ⊢
    split at h
    · rename_i c1
      simp only [c1, if_true, List.length_cons]; omega
    · rename_i c1
      split at h
      · rename_i c2
        split at h
        · rename_i c3
          have := textS_le k _ _ _ h
          obtain ⟨e1, e2, e3, e4⟩ := escB_len c3
          rw [if_neg c1, if_pos c2, if_pos c3]
          simp only [List.length_drop, List.length_append] at this
          omega
        · rename_i c3; exact absurd h c3
      · rename_i c2
        split at h
        · cases h
        · rename_i c3
          cases hd : decB (c :: t) with
          | none => rw [hd] at h; cases h
          | some p =>
            obtain ⟨r, n⟩ := p
            rw [hd] at h
            rw [if_neg c1, if_neg c2, if_neg c3]
            have := textS_le k _ _ _ h
            obtain ⟨e1, e2, e3⟩ := decB_len hd
            simp only [List.length_drop, List.length_append, List.length_take] at this ⊢
            omega
theorem beq_of {n : Nat} {k : Nat} : ((n : Int) == (k : Int)) = decide (n = k) := by
  by_cases h : n = k
  · simp [h]
  · have : ¬ (n : Int) = (k : Int) := by omega
    simp [h]; omega
theorem bq34 (c : UInt8) : (bord c == 34) = decide (c.toNat = 34) := beq_of (k := 34)
theorem bq92 (c : UInt8) : (bord c == 92) = decide (c.toNat = 92) := beq_of (k := 92)
theorem bl32 (c : UInt8) : decide (bord c < 32) = decide (c.toNat < 32) := by
  have := c.toNat_lt
  simp only [bord]; congr 1; simp only [eq_iff_iff]; omega
theorem udecR_some {i r n : Nat} : udecR i (some (r, n)) = ((r : Int), ((i + n : Nat) : Int), 0) := rfl
theorem head_drop {l t : List UInt8} {c : UInt8} {i : Nat} (ht : l.drop i = c :: t) : idx l (i : Int) = some c := by
  have := idx_drop (j := 0) ht rfl
  simpa using this
section
variable {l : List UInt8}
theorem rtext_loop (hb : l.length ≤ 2 ^ 50) (hN : 9 ≤ N) (k2 : Unit → Option (List UInt8 × Int × Int)) (hk : k2 () = some ([], 0, 130)) : ∀ (k : Nat) (t : List UInt8) (i : Nat) (out : List UInt8), l.drop i = t → i ≤ l.length → t.length < k → out.length ≤ i →
    ref13_text_L1 N l k2 k out (i : Int) = some (outT (textS k t i out))
  | 0, t, i, out, ht, hi, h, ho => by omega
  | k + 1, [], i, out, ht, hi, h, ho => by
    have hl := len_drop ht hi
    simp only [List.length_nil] at hl
    have c : ¬ (i : Int) < (l.length : Int) := by omega
    rw [ref13_text_L1, textS]
    simp only [c, decide_false, Bool.false_eq_true, if_false, hk]; rfl
  | k + 1, c :: t, i, out, ht, hi, h, ho => by
    have hl := len_drop ht hi
    simp only [List.length_cons] at hl h
    have c0 : (i : Int) < (l.length : Int) := by omega
    have w1 : wr .i64 ((i : Int) + 1) = ((i + 1 : Nat) : Int) := by rw [wr_i64 (by omega)]; simp
    rw [ref13_text_L1, textS]
    rw [if_pos (decide_eq_true c0), head_drop ht, Option.bind_some, bq34, bq92, bl32, w1]
    by_cases c1 : c.toNat = 34
    · rw [if_pos (decide_eq_true c1), if_pos c1]; rfl
    · rw [if_neg (by simpa using c1), if_neg c1]
      by_cases c2 : c.toNat = 92
      · rw [if_pos (decide_eq_true c2), if_pos c2, rescape_eq ht hi hb hN, Option.bind_some]
        by_cases c3 : (escB (c :: t)).2.2 = 0
        · obtain ⟨e1, e2, e3, e4⟩ := escB_len c3
          have ho2 : outR i (escB (c :: t)) = ((escB (c :: t)).1, ((i + (escB (c :: t)).2.1 : Nat) : Int), 0) := by unfold outR; rw [if_pos c3]
          rw [ho2, if_neg (by simp), grd_true (by unfold fitsS; simp only []; omega), if_pos c3]
          simp only [List.length_cons] at e2
          exact rtext_loop hb hN k2 hk k _ _ _ (by rw [← List.drop_drop, ht]) (by omega) (by simp only [List.length_drop, List.length_cons]; omega) (by simp only [List.length_append]; omega)
        · have ho2 : outR i (escB (c :: t)) = ([], 0, (escB (c :: t)).2.2) := by unfold outR; rw [if_neg c3]
          rw [ho2, if_pos (by simpa using c3), if_neg c3]
          unfold outT; rw [if_neg c3]
      · rw [if_neg (by simpa using c2), if_neg c2]
        by_cases c3 : c.toNat < 32
        · rw [if_pos (decide_eq_true c3), if_pos c3]; rfl
        · rw [if_neg (by simpa using c3), if_neg c3, rudec_eq (by omega) (by omega) (by omega), Option.bind_some, ht]
          cases hd : decB (c :: t) with
          | none => rfl
          | some p =>
            obtain ⟨r, n⟩ := p
            obtain ⟨e1, e2, e3⟩ := decB_len hd
            simp only [List.length_cons] at e2
            rw [udecR_some, if_neg (by simp), sub_nat l i (i + n) (by omega) (by omega), Option.bind_some, Nat.add_sub_cancel_left, ht]
            rw [grd_true (by unfold fitsS; rw [List.length_take, List.length_cons]; omega)]
            exact rtext_loop hb hN k2 hk k _ _ _ (by rw [← List.drop_drop, ht]) (by omega) (by simp only [List.length_drop, List.length_cons]; omega) (by rw [List.length_append, List.length_take]; omega)
theorem rtxt_eq (hb : l.length ≤ 2 ^ 50) (hN : l.length + 9 ≤ N) {i : Nat} (hi : i < l.length) : ref13_text N l (i : Int) = some (outT (textS N (l.drop (i + 1)) (i + 1) [])) := by
  unfold ref13_text
  rw [joinK_eq, wr_i64 (by omega)]
  exact rtext_loop hb (by omega) _ rfl N _ (i + 1) [] rfl (by omega) (by rw [List.length_drop]; omega) (by simp)
/-- the program's reader: the text, the error, and where it stands if there is none -/
theorem ptext_loop (hb : l.length ≤ 2 ^ 40) (hN : 9 ≤ N) (k2 : Bool × List UInt8 × List UInt8 × Int → Option (List UInt8 × Int × TokenReader)) (hk : ∀ q, ∃ q', k2 q = some ([], 130, q')) : ∀ (k : Nat) (t : List UInt8) (i : Nat) (ad : Bool) (out : List UInt8), l.drop i = t → i ≤ l.length → t.length < k → out.length ≤ i →
    ∃ q, token_reader_text_L1 N k2 k ad out l (i : Int) = some ((outT (textS k t i out)).1, (outT (textS k t i out)).2.2, q) ∧ ((textS k t i out).2.2 = 0 → q = ⟨l, ((textS k t i out).2.1 : Int)⟩)
  | 0, t, i, ad, out, ht, hi, h, ho => by omega
  | k + 1, [], i, ad, out, ht, hi, h, ho => by
    have hl := len_drop ht hi
    simp only [List.length_nil] at hl
    have c : ¬ (i : Int) < (l.length : Int) := by omega
    rw [token_reader_text_L1, textS]
    obtain ⟨q, hq⟩ := hk (ad, out, l, (i : Int))
    rw [if_neg (by simpa using c), hq]
    exact ⟨q, rfl, fun h => by cases h⟩
  | k + 1, c :: t, i, ad, out, ht, hi, h, ho => by
    have hl := len_drop ht hi
    simp only [List.length_cons] at hl h
    have c0 : (i : Int) < (l.length : Int) := by omega
    have w1 : wr .i64 ((i : Int) + 1) = ((i + 1 : Nat) : Int) := by rw [wr_i64 (by omega)]; simp
    rw [token_reader_text_L1, textS]
    rw [if_pos (decide_eq_true c0), head_drop ht, Option.bind_some, bq34, bq92, bl32, w1]
    have ws : ∀ x : List UInt8, x.length ≤ 4 → strings_Builder_WriteString N (StringsBuilder.mk ad out) x = some ((x.length : Int), (), StringsBuilder.mk true (out ++ x)) := by
      intro x hx
      unfold strings_Builder_WriteString strings_Builder_copyCheck
      cases ad <;> simp only [Bool.false_eq_true, if_false, if_true, Option.bind_some] <;> rw [grd_true (by unfold fitsA; omega)]
    by_cases c1 : c.toNat = 34
    · rw [if_pos (decide_eq_true c1), if_pos c1]
      exact ⟨_, rfl, fun _ => rfl⟩
    · rw [if_neg (by simpa using c1), if_neg c1]
      by_cases c2 : c.toNat = 92
      · rw [if_pos (decide_eq_true c2), if_pos c2]
        obtain ⟨q, hq, hq0⟩ := pescape_eq (N := N) ht hi (by omega) hN
        rw [hq, Option.bind_some]
        by_cases c3 : (escB (c :: t)).2.2 = 0
        · obtain ⟨e1, e2, e3, e4⟩ := escB_len c3
          rw [if_neg (by simpa using c3), ws _ e3, Option.bind_some, if_pos c3]
          rw [hq0 c3]
          simp only [List.length_cons] at e2
          exact ptext_loop hb hN k2 hk k _ _ true _ (by rw [← List.drop_drop, ht]) (by omega) (by simp only [List.length_drop, List.length_cons]; omega) (by simp only [List.length_append]; omega)
        · rw [if_pos (by simpa using c3), if_neg c3]
          refine ⟨q, ?_, fun h => absurd h c3⟩
          unfold outT; rw [if_neg c3]
      · rw [if_neg (by simpa using c2), if_neg c2]
        by_cases c3 : c.toNat < 32
        · rw [if_pos (decide_eq_true c3), if_pos c3]
          exact ⟨_, rfl, fun h => by cases h⟩
        · rw [if_neg (by simpa using c3), if_neg c3]
          unfold token_reader_char
          simp only [joinK_eq]
          rw [pudec_eq (by omega) (by omega) (by omega), Option.bind_some, ht]
          cases hd : decB (c :: t) with
          | none => exact ⟨_, rfl, fun h => by cases h⟩
          | some p =>
            obtain ⟨r, n⟩ := p
            obtain ⟨e1, e2, e3⟩ := decB_len hd
            simp only [List.length_cons] at e2
            rw [udecR_some, if_neg (by simp), sub_nat l i (i + n) (by omega) (by omega), Option.bind_some, Nat.add_sub_cancel_left, ht, Option.bind_some]
            rw [if_neg (by simp), ws _ (by rw [List.length_take]; omega), Option.bind_some]
            exact ptext_loop hb hN k2 hk k _ _ true _ (by rw [← List.drop_drop, ht]) (by omega) (by simp only [List.length_drop, List.length_cons]; omega) (by rw [List.length_append, List.length_take]; omega)
theorem ptxt_eq (hb : l.length ≤ 2 ^ 40) (hN : l.length + 9 ≤ N) {i : Nat} (hi : i < l.length) : ∃ q, token_reader_text N ⟨l, (i : Int)⟩ = some ((outT (textS N (l.drop (i + 1)) (i + 1) [])).1, (outT (textS N (l.drop (i + 1)) (i + 1) [])).2.2, q) ∧ ((textS N (l.drop (i + 1)) (i + 1) []).2.2 = 0 → q = ⟨l, ((textS N (l.drop (i + 1)) (i + 1) []).2.1 : Int)⟩) := by
  unfold token_reader_text
  rw [joinK_eq, wr_i64 (by simp only []; omega)]
  exact ptext_loop hb (by omega) _ (fun q => ⟨_, rfl⟩) N _ (i + 1) false [] rfl (by omega) (by rw [List.length_drop]; omega) (by simp)
end
end
end Go.VM
