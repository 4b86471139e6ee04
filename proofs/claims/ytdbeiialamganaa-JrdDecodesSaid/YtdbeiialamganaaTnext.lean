/- The reference's reader of tokens answers, within bounds. -/
import Derived.Test.YtdbeiialamganaaTtot
set_option linter.unusedVariables false
set_option linter.unusedSimpArgs false
namespace Go.VM
section
variable {N : Nat}
theorem hexD_ok (a : Int) : Ok (ref01_IsHex N a) (fun _ => True) := by
  unfold ref01_IsHex
  rw [digit_eq, Option.bind_some]
  refine Ok.ite (fun _ => Ok.ret trivial) (fun _ => ?_)
  refine Ok.ite (fun _ => Ok.ite (fun _ => Ok.ret trivial) (fun _ => ?_)) (fun _ => ?_) <;> exact Ok.ite (fun _ => Ok.ret trivial) (fun _ => Ok.ret trivial)
theorem parse1_ok (k2 : Unit → Option (Int × Int)) (h : Ok (k2 ()) (fun _ => True)) : ∀ l : List UInt8, Ok (ref04_parse_L1 N 16 k2 l) (fun _ => True)
  | [] => by rw [ref04_parse_L1]; exact h
  | x :: l => by
    rw [ref04_parse_L1]
    refine Ok.meet (fun _ : Bool => True) (fun j _ => Ok.ite (fun _ => Ok.ret trivial) (fun _ => parse1_ok k2 h l)) (fun k7 h7 => ?_)
    refine Ok.ite (fun hc => by simp at hc) (fun _ => Ok.ite (fun _ => Ok.bind (hexD_ok _) fun y _ => h7 _ trivial) (fun _ => h7 _ trivial))
theorem parse2_ok (k17 : Int → Option (Int × Int)) (h : ∀ n, Ok (k17 n) (fun _ => True)) (m : Int) : ∀ (l : List UInt8) (n : Int), Ok (ref04_parse_L2 N 16 m k17 l n) (fun _ => True)
  | [], n => by rw [ref04_parse_L2]; exact h n
  | x :: l, n => by
    rw [ref04_parse_L2]
    refine Ok.meet (fun _ : Int => True) (fun j _ => ?_) (fun k22 h22 => Ok.ite (fun _ => h22 _ trivial) (fun _ => h22 _ trivial))
    refine Ok.meet (fun _ : Bool => True) (fun b _ => Ok.ite (fun _ => Ok.ret trivial) (fun _ => parse2_ok k17 h m l _)) (fun k26 h26 => ?_)
    exact Ok.grd (by decide) (Ok.ite (fun _ => h26 _ trivial) (fun _ => Ok.ite (fun _ => h26 _ trivial) (fun _ => h26 _ trivial)))
theorem hex_ok (l : List UInt8) (m : Int) (hb : l.length ≤ 1000) : Ok (ref04_Hex N l m) (fun _ => True) := by
  unfold ref04_Hex ref04_parse
  refine Ok.bind (Q := fun _ => True) (Ok.ite (fun _ => Ok.ret trivial) (fun _ => Ok.join (Ok.grd (by unfold fitsS; omega) (parse1_ok _ (Ok.join (Ok.grd (by unfold fitsS; omega) (parse2_ok _ (fun n => Ok.ret trivial) m l 0))) l)))) fun y _ => Ok.ret trivial
theorem unit_ok (l : List UInt8) (i : Int) (h0 : 0 ≤ i) (h1 : i ≤ 2000000) (hb : l.length ≤ 1000000) : Ok (ref13_unit N l i) (fun r => r.2 = true → i + 6 ≤ l.length) := by
  unfold ref13_unit
  refine Ok.meet (fun j : Bool => j = false → i + 6 ≤ l.length) (fun j hj => ?_) (fun k2 h2 => ?_)
  · refine Ok.ite (fun _ => Ok.ret (by simp)) (fun hf => ?_)
    have := hj hf
    rw [wr_i64 (n := i + 2) (by omega), wr_i64 (n := i + 6) (by omega)]
    exact Ok.bind (Ok.sub (by omega) (by omega) (by omega)) fun x hx => Ok.bind (hex_ok x _ (by have := hx.2; omega)) fun y _ => Ok.ret (fun _ => this)
  · rw [wr_i64 (n := i + 6) (by omega), wr_i64 (n := i + 1) (by omega)]
    refine Ok.ite (fun _ => h2 _ (by simp)) (fun hc => ?_)
    simp only [decide_eq_false_iff_not] at hc
    refine Ok.bind (Ok.idx h0 (by omega)) fun x _ => Ok.ite (fun _ => h2 _ (fun _ => by omega)) (fun _ => ?_)
    exact Ok.bind (Ok.idx (by omega) (by omega)) fun x _ => h2 _ (fun _ => by omega)
theorem encode_ok (n : Int) : Ok (ref02_Encode N n) (fun r => r.1.length ≤ 4) := by
  unfold ref02_Encode
  refine Ok.bind (Q := fun _ => True) ?_ fun y _ => ?_
  · unfold ref02_point
    refine Ok.ite (fun _ => Ok.ite (fun _ => Ok.ite (fun _ => Ok.ret trivial) (fun _ => Ok.ret trivial)) (fun _ => Ok.ret trivial)) (fun _ => Ok.ret trivial)
  · refine Ok.ite (fun _ => Ok.ite (fun _ => Ok.ret (by simp)) (fun _ => Ok.ite (fun _ => Ok.letL (Ok.ret (by simp))) (fun _ => Ok.ite (fun _ => Ok.letL (Ok.ret (by simp))) (fun _ => Ok.letL (Ok.ret (by simp)))))) (fun _ => Ok.ret (by simp))
theorem code_len : ∀ j : Nat, j < 8 → (decodeAt [34, 92, 47, 98, 102, 110, 114, 116] j).2 = 1 := by
  intro j h
  match j, h with
  | 0, _ => rfl
  | 1, _ => rfl
  | 2, _ => rfl
  | 3, _ => rfl
  | 4, _ => rfl
  | 5, _ => rfl
  | 6, _ => rfl
  | 7, _ => rfl
theorem escape_loop (l : List UInt8) (i : Int) (h0 : 0 ≤ i) (h1 : i + 1 < l.length) (hb : l.length ≤ 1000000) (P : List UInt8 × Int × Int → Prop) (hP : ∀ x : List UInt8, x.length ≤ 4 → P (x, i + 2, 0)) (k2 : Unit → Option (List UInt8 × Int × Int)) (hk : Ok (k2 ()) P) :
    ∀ (k j : Nat), j ≤ 8 → 8 < k + j → Ok (ref13_escape_L1 N l i k2 k j) P
  | 0, j, hj, h => by omega
  | k + 1, j, hj, h => by
    rw [ref13_escape_L1]
    refine Ok.ite (fun hc => ?_) (fun _ => hk)
    simp only [decide_eq_true_eq] at hc
    rw [code_len j hc, wr_i64 (n := i + 1) (by omega), wr_i64 (n := (j : Int) + 1) (by omega), wr_i64 (n := i + 2) (by omega)]
    refine Ok.bind (Ok.idx (by omega) (by simp; omega)) fun x _ => Ok.bind (Ok.idx (by omega) h1) fun y _ => ?_
    refine Ok.ite (fun _ => ?_) (fun _ => escape_loop l i h0 h1 hb P hP k2 hk k (j + 1) (by omega) (by omega))
    exact Ok.bind (Ok.sub (by omega) (by omega) (by simp; omega)) fun z hz => Ok.ret (hP z (by have := hz.2; omega))
theorem escape_ok (l : List UInt8) (i : Int) (h0 : 0 ≤ i) (h1 : i < l.length) (hb : l.length ≤ 1000000) (hN : 10 ≤ N) : Ok (ref13_escape N l i) (fun r => r.2.2 = 0 → r.1.length ≤ 4 ∧ i < r.2.1 ∧ r.2.1 ≤ l.length) := by
  unfold ref13_escape
  refine Ok.meet (fun _ : Unit => True) (fun _ _ => ?_) (fun k2 h2 => ?_)
  · refine Ok.bind (unit_ok l i h0 (by omega) hb) fun y9 h9 => Ok.ite (fun ht => ?_) (fun _ => Ok.ret (by simp))
    have h6 := h9 ht
    rw [wr_i64 (n := i + 6) (by omega), wr_i64 (n := i + 12) (by omega)]
    refine Ok.meet (fun _ : Bool => True) (fun j _ => Ok.ite (fun _ => Ok.bind (encode_ok _) fun y h => Ok.ret (fun _ => ⟨h, by simp only []; omega, by simp only []; omega⟩)) (fun _ => ?_)) (fun k12 h12 => Ok.ite (fun _ => h12 _ trivial) (fun _ => h12 _ trivial))
    refine Ok.bind (unit_ok l (i + 6) (by omega) (by omega) hb) fun y17 h17 => ?_
    refine Ok.meet (fun j : Bool => j = false → y17.2 = true) (fun j hj => Ok.ite (fun _ => Ok.ret (by simp)) (fun hf => ?_)) (fun k20 h20 => ?_)
    · have := h17 (hj hf)
      exact Ok.bind (encode_ok _) fun y h => Ok.ret (fun _ => ⟨h, by simp only []; omega, by simp only []; omega⟩)
    · refine Ok.ite (fun _ => h20 _ (by simp)) (fun _ => Ok.ite (fun h => Ok.ite (fun _ => h20 _ (by simp)) (fun _ => h20 _ (fun _ => h))) (fun _ => h20 _ (by simp)))
  · rw [wr_i64 (n := i + 1) (by omega)]
    refine Ok.ite (fun hc => ?_) (fun _ => h2 _ trivial)
    simp only [decide_eq_true_eq] at hc
    exact escape_loop l i h0 hc hb _ (fun x hx => fun _ => ⟨hx, by simp only []; omega, by simp only []; omega⟩) k2 (h2 _ trivial) N 0 (by omega) (by omega)
theorem value_loop (l : List UInt8) (k4 : Int → Option Int) (h : ∀ n, Ok (k4 n) (fun _ => True)) : ∀ (k : Nat) (i n : Int), 0 ≤ i → i + k ≤ l.length → Ok (ref02_value_L1 N l k4 k i n) (fun _ => True)
  | 0, i, n, _, _ => by rw [ref02_value_L1]; exact h n
  | k + 1, i, n, h0, h1 => by
    rw [ref02_value_L1]
    exact Ok.bind (Ok.idx h0 (by omega)) fun x _ => value_loop l k4 h k (i + 1) _ (by omega) (by omega)
theorem value_ok (l : List UInt8) (h0 : 0 < l.length) (h1 : l.length ≤ 4) : Ok (ref02_value N l) (fun _ => True) := by
  unfold ref02_value
  refine Ok.ite (fun _ => Ok.bind (Ok.idx (by omega) (by omega)) fun x _ => Ok.ret trivial) (fun _ => ?_)
  refine Ok.bind (Ok.idx (by omega) (by omega)) fun x _ => ?_
  rw [wr_i64 (n := 7 - (l.length : Int)) (by omega)]
  exact Ok.grd (by omega) (Ok.join (Ok.grd (by omega) (value_loop l _ (fun n => Ok.ret trivial) _ _ _ (by omega) (by omega))))
theorem dec_loop (l : List UInt8) (i : Int) (h0 : 0 ≤ i) (hi : i < l.length) (hb : l.length ≤ 1000000) (k6 : Unit → Option (Int × Int × Int)) (hk : Ok (k6 ()) (fun r => r.2.2 = 0 → i < r.2.1 ∧ r.2.1 ≤ i + 4 ∧ r.2.1 ≤ l.length)) : ∀ (k : Nat) (j : Int), 1 ≤ j → j ≤ 5 → 5 < k + j →
    Ok (ref02_Decode_L1 N l i k6 k j) (fun r => r.2.2 = 0 → i < r.2.1 ∧ r.2.1 ≤ i + 4 ∧ r.2.1 ≤ l.length)
  | 0, j, _, _, h => by omega
  | k + 1, j, h1, h5, h => by
    rw [ref02_Decode_L1]
    rw [wr_i64 (n := i + j) (by omega), wr_i64 (n := j + 1) (by omega)]
    refine Ok.meet (fun b : Bool => b = true → j ≤ 4 ∧ i + j ≤ l.length) (fun b hb' => ?_) (fun k11 h11 => ?_)
    · refine Ok.ite (fun ht => ?_) (fun _ => hk)
      obtain ⟨e1, e2⟩ := hb' ht
      refine Ok.bind (Ok.sub h0 (by omega) e2) fun x hx => ?_
      have hl := hx.2
      refine Ok.bind (value_ok x (by omega) (by omega)) fun y _ => Ok.bind (encode_ok y) fun z _ => ?_
      refine Ok.meet (fun _ : Bool => True) (fun b _ => Ok.ite (fun _ => Ok.ret (fun _ => ⟨by simp only []; omega, by simp only []; omega, by simp only []; omega⟩)) (fun _ => dec_loop l i h0 hi hb k6 hk k (j + 1) (by omega) (by omega) (by omega))) (fun k20 h20 => Ok.ite (fun _ => h20 _ trivial) (fun _ => h20 _ trivial))
    · refine Ok.ite (fun hc => h11 _ (fun ht => ?_)) (fun _ => h11 _ (by simp))
      simp only [decide_eq_true_eq] at hc ht
      omega
theorem decode_ok (l : List UInt8) (i : Int) (h0 : 0 ≤ i) (h1 : i < l.length) (hb : l.length ≤ 1000000) (hN : 10 ≤ N) : Ok (ref02_Decode N l i) (fun r => r.2.2 = 0 → i < r.2.1 ∧ r.2.1 ≤ i + 4 ∧ r.2.1 ≤ l.length) := by
  unfold ref02_Decode
  refine Ok.join (Ok.ite (fun hc => ?_) (fun _ => Ok.ite (fun hc => ?_) (fun _ => ?_)))
  · simp only [decide_eq_true_eq] at hc; omega
  · simp only [decide_eq_true_eq] at hc; omega
  · exact Ok.join (dec_loop l i h0 h1 hb _ (Ok.ret (by simp)) N 1 (by omega) (by omega) (by omega))
theorem text_loop (l : List UInt8) (hb : l.length ≤ 1000000) (hN : 10 ≤ N) (i0 : Int) (k2 : Unit → Option (List UInt8 × Int × Int)) (hk : Ok (k2 ()) (fun r => r.2.2 = 0 → i0 < r.2.1 ∧ r.2.1 ≤ l.length ∧ r.1.length ≤ 4 * l.length)) : ∀ (k : Nat) (s : List UInt8) (i : Int), 0 ≤ i → i0 < i → i ≤ l.length → (l.length : Int) < k + i → (s.length : Int) ≤ 4 * i →
    Ok (ref13_text_L1 N l k2 k s i) (fun r => r.2.2 = 0 → i0 < r.2.1 ∧ r.2.1 ≤ l.length ∧ r.1.length ≤ 4 * l.length)
  | 0, s, i, _, _, _, h, _ => by omega
  | k + 1, s, i, h0, hi, h1, h, hs => by
    rw [ref13_text_L1]
    refine Ok.ite (fun hc => ?_) (fun _ => hk)
    simp only [decide_eq_true_eq] at hc
    refine Ok.bind (Ok.idx h0 hc) fun x _ => ?_
    rw [wr_i64 (n := i + 1) (by omega)]
    refine Ok.ite (fun _ => Ok.ret (fun _ => ⟨by simp only []; omega, by simp only []; omega, by simp only []; omega⟩)) (fun _ => Ok.ite (fun _ => ?_) (fun _ => Ok.ite (fun _ => Ok.ret (by simp)) (fun _ => ?_)))
    · refine Ok.bind (escape_ok l i h0 hc hb hN) fun y hy => Ok.ite (fun hf => Ok.ret (fun e => by simp at hf; exact absurd e hf)) (fun hf => ?_)
      obtain ⟨a1, a2, a3⟩ := hy (by simpa using hf)
      exact Ok.grd (by unfold fitsS; omega) (text_loop l hb hN i0 k2 hk k _ _ (by omega) (by omega) a3 (by omega) (by simp; omega))
    · refine Ok.bind (decode_ok l i h0 hc hb hN) fun y hy => Ok.ite (fun hf => Ok.ret (fun e => by simp at hf; exact absurd e hf)) (fun hf => ?_)
      obtain ⟨a1, a2, a3⟩ := hy (by simpa using hf)
      refine Ok.bind (Ok.sub h0 (by omega) a3) fun z hz => ?_
      have hl := hz.2
      exact Ok.grd (by unfold fitsS; omega) (text_loop l hb hN i0 k2 hk k _ _ (by omega) (by omega) a3 (by omega) (by simp; omega))
theorem text_ok (l : List UInt8) (i : Int) (h0 : 0 ≤ i) (h1 : i < l.length) (hb : l.length ≤ 1000000) (hN : l.length + 10 ≤ N) : Ok (ref13_text N l i) (fun r => r.2.2 = 0 → i < r.2.1 ∧ r.2.1 ≤ l.length ∧ r.1.length ≤ 4 * l.length) := by
  unfold ref13_text
  rw [wr_i64 (n := i + 1) (by omega)]
  exact Ok.join (text_loop l hb (by omega) i _ (Ok.ret (by simp)) N [] (i + 1) (by omega) (by omega) (by omega) (by omega) (by simp; omega))
theorem alpha_ok (a : Int) : Ok (ref01_IsAlpha N a) (fun _ => True) := by
  unfold ref01_IsAlpha
  refine Ok.ite (fun _ => Ok.ite (fun _ => Ok.ret trivial) (fun _ => ?_)) (fun _ => ?_) <;> exact Ok.ite (fun _ => Ok.ret trivial) (fun _ => Ok.ret trivial)
theorem next_loop2 (l : List UInt8) (hb : l.length ≤ 1000000) (P : ApiToken × Int × Int → Prop) (j : Int) (hj : 0 ≤ j) (k34 : Int → Option (ApiToken × Int × Int)) (hk : ∀ n, 0 ≤ n → j + n ≤ l.length → Ok (k34 n) P) : ∀ (k : Nat) (n : Int), 0 ≤ n → j + n ≤ l.length → (l.length : Int) < k + j + n → Ok (ref13_Next_L2 N l j k34 k n) P
  | 0, n, _, _, h => by omega
  | k + 1, n, h0, h1, h => by
    rw [ref13_Next_L2, wr_i64 (n := n + 1) (by omega), wr_i64 (n := j + n) (by omega)]
    refine Ok.meet (fun b : Bool => b = true → j + n < l.length) (fun b hb' => Ok.ite (fun ht => next_loop2 l hb P j hj k34 hk k (n + 1) (by omega) (by have := hb' ht; omega) (by omega)) (fun _ => hk n h0 h1)) (fun k39 h39 => ?_)
    refine Ok.ite (fun hc => ?_) (fun _ => h39 _ (by simp))
    simp only [decide_eq_true_eq] at hc
    exact Ok.bind (Ok.idx (by omega) hc) fun x _ => Ok.bind (alpha_ok _) fun y _ => h39 _ (fun _ => hc)
theorem next_loop1 (l : List UInt8) (hb : l.length ≤ 1000000) (P : ApiToken × Int × Int → Prop) (i0 : Int) (k6 : Int → Option (ApiToken × Int × Int)) (hk : ∀ i, i0 ≤ i → i ≤ l.length → Ok (k6 i) P) : ∀ (k : Nat) (i : Int), 0 ≤ i → i0 ≤ i → i ≤ l.length → (l.length : Int) < k + i → Ok (ref13_Next_L1 N l k6 k i) P
  | 0, i, _, _, _, h => by omega
  | k + 1, i, h0, hi, h1, h => by
    rw [ref13_Next_L1, wr_i64 (n := i + 1) (by omega)]
    refine Ok.meet (fun b : Bool => b = true → i < l.length) (fun b hb' => Ok.ite (fun ht => next_loop1 l hb P i0 k6 hk k (i + 1) (by omega) (by omega) (by have := hb' ht; omega) (by omega)) (fun _ => hk i hi h1)) (fun k11 h11 => ?_)
    refine Ok.ite (fun hc => ?_) (fun _ => h11 _ (by simp))
    simp only [decide_eq_true_eq] at hc
    refine Ok.bind (Ok.idx h0 hc) fun x _ => ?_
    unfold ref13_white
    rw [in_eq _ _ (by simp)]
    exact h11 _ (fun _ => hc)
/-- what a token is -/
structure TokOK (l : List UInt8) (i : Int) (r : ApiToken × Int × Int) : Prop where
  good : r.2.2 = 0 → i ≤ r.2.1 ∧ r.2.1 ≤ l.length ∧ r.1.text.length ≤ 4 * l.length ∧ (r.1.kind ≠ 1 → i < r.2.1)
  bad : r.2.2 ≠ 0 → r.1 = ApiToken.mk 0 [] 0
theorem next_ok (l : List UInt8) (i : Int) (h0 : 0 ≤ i) (h1 : i ≤ l.length) (hb : l.length ≤ 1000000) (hN : l.length + 10 ≤ N) : Ok (ref13_Next N l i) (TokOK l i) := by
  unfold ref13_Next
  refine Ok.join (Ok.ite (fun hc => ?_) (fun _ => Ok.ite (fun hc => ?_) (fun _ => ?_)))
  · simp only [decide_eq_true_eq] at hc; omega
  · simp only [decide_eq_true_eq] at hc; omega
  · have err : ∀ e : Int, TokOK l i (ApiToken.mk 0 [] 0, 0, e) → True := fun _ _ => trivial
    refine Ok.meet (fun j : Int => i ≤ j ∧ j ≤ l.length) (fun j hj => ?_) (fun k6 h6 => next_loop1 l hb _ i k6 (fun j a b => h6 j ⟨a, b⟩) N i h0 (Int.le_refl _) h1 (by omega))
    refine Ok.ite (fun _ => Ok.ret ⟨fun _ => ⟨by simp only []; omega, by simp only []; omega, by simp, by simp⟩, by simp⟩) (fun hne => ?_)
    have hlt : j < l.length := by
      have : j ≠ l.length := by simpa using hne
      omega
    rw [wr_i64 (n := j + 1) (by omega)]
    refine Ok.bind (Ok.idx (by omega) hlt) fun x _ => ?_
    rw [in_eq _ _ (by simp), Option.bind_some]
    refine Ok.ite (fun _ => ?_) (fun _ => Ok.ite (fun _ => ?_) (fun _ => ?_))
    · exact Ok.bind (Ok.sub (by omega) (by omega) (by omega)) fun y hy => Ok.ret ⟨fun _ => ⟨by simp only []; omega, by simp only []; omega, by have := hy.2; simp only []; omega, fun _ => by simp only []; omega⟩, by simp⟩
    · refine Ok.bind (text_ok l j (by omega) hlt hb hN) fun y hy => Ok.ite (fun hf => Ok.ret ⟨fun e => by simp at hf; exact absurd e hf, fun _ => rfl⟩) (fun hf => ?_)
      obtain ⟨a1, a2, a3⟩ := hy (by simpa using hf)
      exact Ok.ret ⟨fun _ => ⟨by simp only []; omega, a2, a3, fun _ => by simp only []; omega⟩, by simp⟩
    · refine Ok.meet (fun _ : Bool => True) (fun b _ => Ok.ite (fun _ => ?_) (fun _ => ?_)) (fun k24 h24 => Ok.ite (fun _ => h24 _ trivial) (fun _ => by rw [digit_eq, Option.bind_some]; exact h24 _ trivial))
      · refine Ok.bind (Ok.sub (by omega) (by omega) (Int.le_refl _)) fun y hy => ?_
        have hl := hy.2
        refine Ok.bind (numeral_ok y (by omega) (by omega)) fun n hn => Ok.ite (fun _ => Ok.ret ⟨by simp, fun _ => rfl⟩) (fun hf => ?_)
        have hn0 : n ≠ 0 := by simpa using hf
        rw [wr_i64 (n := j + n) (by omega)]
        exact Ok.bind (Ok.sub (by omega) (by omega) (by omega)) fun z hz => Ok.ret ⟨fun _ => ⟨by simp only []; omega, by simp only []; omega, by have := hz.2; simp only []; omega, fun _ => by simp only []; omega⟩, by simp⟩
      · refine Ok.meet (fun n : Int => 0 ≤ n ∧ j + n ≤ l.length) (fun n hn => ?_) (fun k34 h34 => next_loop2 l hb _ j (by omega) k34 (fun n a b => h34 n ⟨a, b⟩) N 0 (by omega) (by omega) (by omega))
        rw [wr_i64 (n := j + n) (by omega)]
        refine Ok.bind (Ok.sub (by omega) (by omega) (by omega)) fun z hz => ?_
        have hl := hz.2
        have pos : ∀ w : List UInt8, 0 < w.length → (z == w) = true → 0 < n := by
          intro w hw e
          have : z = w := by simpa using e
          subst this; omega
        refine Ok.meet (fun b : Bool => b = true → 0 < n) (fun b hb' => Ok.ite (fun ht => ?_) (fun _ => Ok.ret ⟨by simp, fun _ => rfl⟩)) (fun k47 h47 => ?_)
        · have := hb' ht
          exact Ok.ret ⟨fun _ => ⟨by simp only []; omega, by simp only []; omega, by simp only []; omega, fun _ => by simp only []; omega⟩, by simp⟩
        · exact Ok.ite (fun h => h47 _ (fun _ => pos _ (by simp) h)) (fun _ => Ok.ite (fun h => h47 _ (fun _ => pos _ (by simp) h)) (fun _ => h47 _ (fun h => pos _ (by simp) h)))
end
end Go.VM
