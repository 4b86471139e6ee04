/- The reference's tokens: its functions answer, within bounds. -/
import Derived.Test.YtdbeiialamganaaDefs
import Derived.Test.YtdbeiialamganaaOk
set_option linter.unusedVariables false
set_option linter.unusedSimpArgs false
namespace Go.VM
section
variable {N : Nat}
theorem in_loop (a : Int) (k2 : Unit → Option Bool) (h : k2 () = some false) : ∀ l : List UInt8, ref01_In_L1 N a k2 l = some (l.any fun c => bord c == a)
  | [] => by rw [ref01_In_L1]; simpa using h
  | x :: l => by
    rw [ref01_In_L1, in_loop a k2 h l, List.any_cons]
    cases bord x == a <;> rfl
theorem in_eq (a : Int) (l : List UInt8) (h : l.length ≤ 1000) : ref01_In N a l = some (l.any fun c => bord c == a) := by
  unfold ref01_In
  rw [joinK_eq, grdS (by omega)]
  exact in_loop a _ rfl l
theorem digit_eq (a : Int) : ref01_IsDigit N a = some (decide (a ≥ 48) && decide (a ≤ 57)) := by
  unfold ref01_IsDigit
  by_cases h : a ≥ 48 <;> simp [h]
def digB (c : UInt8) : Bool := decide (bord c ≥ 48) && decide (bord c ≤ 57)
def runN (l : List UInt8) : Nat := (l.takeWhile digB).length
theorem runN_le (l : List UInt8) : runN l ≤ l.length := (List.takeWhile_sublist _).length_le
theorem run_loop (l : List UInt8) (k2 : Int → Option Int) (hb : l.length ≤ 1000000) : ∀ (suf pre : List UInt8) (k : Nat), l = pre ++ suf → suf.length < k → ref13_run_L1 N l k2 k (pre.length : Int) = k2 ((pre.length + runN suf : Nat) : Int)
  | [], pre, k + 1, h, _ => by
    rw [ref13_run_L1, joinK_eq]
    have : decide ((pre.length : Int) < (l.length : Int)) = false := by rw [h]; simp
    rw [this]; simp [runN]
  | x :: suf, pre, k + 1, h, hk => by
    simp only [List.length_cons] at hk
    have hl : pre.length < l.length := by rw [h]; simp
    rw [ref13_run_L1, joinK_eq, lt_at h, if_pos rfl, idx_at h, Option.bind_some, digit_eq, Option.bind_some]
    cases hd : digB x
    · have : (decide (bord x ≥ 48) && decide (bord x ≤ 57)) = false := hd
      rw [this]; simp [runN, hd]
    · have : (decide (bord x ≥ 48) && decide (bord x ≤ 57)) = true := hd
      rw [this]
      simp only [if_true]
      rw [wr_i64 (by omega), len_snoc pre x, run_loop l k2 hb suf (pre ++ [x]) k (by rw [h]; simp) (by omega)]
      simp only [runN, List.takeWhile_cons, hd, if_true, List.length_cons, List.length_append, List.length_nil]
      congr 2; omega
theorem run_eq (l : List UInt8) (hN : l.length < N) (hb : l.length ≤ 1000000) : ref13_run N l = some (runN l : Int) := by
  unfold ref13_run
  rw [joinK_eq]
  have := run_loop (N := N) l (fun j => some j) hb l [] N rfl hN
  simpa using this
theorem tail_ok (l : List UInt8) (i : Int) (h : 0 ≤ i) : Ok (ref13_tail N l i) (fun x => x = l.drop i.toNat) := by
  unfold ref13_tail
  refine Ok.ite (fun hc => Ok.ret ?_) (fun hc => Ok.bind (Ok.sub h (by simp at hc; omega) (Int.le_refl _)) fun x hx => Ok.ret ?_)
  · simp only [decide_eq_true_eq] at hc
    rw [List.drop_of_length_le (by omega)]
  · rw [hx.1, List.take_of_length_le (by simp)]
theorem run_ok (l : List UInt8) (hN : l.length < N) (hb : l.length ≤ 1000000) : Ok (ref13_run N l) (fun n => n = (runN l : Int) ∧ 0 ≤ n ∧ n ≤ l.length) := by
  refine ⟨_, run_eq l hN hb, rfl, by omega, ?_⟩
  have := runN_le l; omega
theorem numeral_ok (l : List UInt8) (hN : l.length < N) (hb : l.length ≤ 1000000) : Ok (ref13_numeral N l) (fun n => 0 ≤ n ∧ n ≤ l.length) := by
  unfold ref13_numeral
  have dl : ∀ i : Nat, (l.drop i).length ≤ l.length := fun i => by simp
  refine Ok.meet (fun j1 : Int => 0 ≤ j1 ∧ j1 ≤ 1 ∧ j1 ≤ l.length) (fun j1 h1 => ?_) (fun k2 h2 => ?_)
  · refine Ok.meet (fun j10 : Bool => j10 = false → j1 < l.length) (fun j10 h10 => ?_) (fun k11 h11 => ?_)
    · refine Ok.ite (fun _ => Ok.ret (by omega)) (fun hf => ?_)
      have hj := h10 hf
      refine Ok.meet (fun j17 : Int => 0 ≤ j17 ∧ j17 ≤ l.length) (fun j17 h17 => ?_) (fun k18 h18 => ?_)
      · refine Ok.meet (fun j25 : Int => 0 ≤ j25 ∧ j25 ≤ l.length) (fun j25 h25 => ?_) (fun k26 h26 => ?_)
        · refine Ok.meet (fun j38 : Int => 0 ≤ j38 ∧ j38 ≤ l.length) (fun j38 h38 => Ok.ret h38) (fun k39 h39 => ?_)
          refine Ok.meet (fun j42 : Bool => j42 = true → j25 < l.length) (fun j42 h42 => ?_) (fun k43 h43 => ?_)
          · refine Ok.ite (fun ht => ?_) (fun _ => h39 _ h25)
            have hlt := h42 ht
            refine Ok.meet (fun j49 : Int => 0 ≤ j49 ∧ j49 ≤ l.length) (fun j49 h49 => ?_) (fun k50 h50 => ?_)
            · refine Ok.bind (tail_ok l j49 h49.1) fun y60 h60 => ?_
              have hl : y60.length = l.length - j49.toNat := by rw [h60]; simp
              refine Ok.bind (run_ok y60 (by omega) (by omega)) fun y62 h62 => ?_
              refine Ok.ite (fun _ => h39 _ ?_) (fun _ => h39 _ h25)
              rw [wr_i64 (by omega)]; omega
            · refine Ok.meet (fun j53 : Bool => j53 = true → j25 + 1 < l.length) (fun j53 h53 => ?_) (fun k54 h54 => ?_)
              · rw [wr_i64 (n := j25 + 1) (by omega), wr_i64 (n := j25 + 1 + 1) (by omega)]
                exact Ok.ite (fun ht => h50 _ (by have := h53 ht; omega)) (fun _ => h50 _ (by omega))
              · rw [wr_i64 (n := j25 + 1) (by omega)]
                refine Ok.ite (fun hc => ?_) (fun _ => h54 _ (by simp))
                simp only [decide_eq_true_eq] at hc
                refine Ok.bind (Ok.idx (by omega) hc) fun x57 _ => ?_
                rw [in_eq _ _ (by simp), Option.bind_some]
                exact h54 _ (fun _ => hc)
          · refine Ok.ite (fun hc => ?_) (fun _ => h43 _ (by simp))
            simp only [decide_eq_true_eq] at hc
            refine Ok.bind (Ok.idx h25.1 hc) fun x46 _ => ?_
            rw [in_eq _ _ (by simp), Option.bind_some]
            exact h43 _ (fun _ => hc)
        · rw [wr_i64 (n := j17 + 1) (by omega)]
          refine Ok.bind (tail_ok l (j17 + 1) (by omega)) fun y29 h29 => ?_
          have hl : y29.length = l.length - (j17 + 1).toNat := by rw [h29]; simp
          refine Ok.bind (run_ok y29 (by omega) (by omega)) fun y31 h31 => ?_
          refine Ok.meet (fun j33 : Bool => j33 = true → j17 < l.length) (fun j33 h33 => ?_) (fun k34 h34 => ?_)
          · rw [wr_i64 (n := 1 + y31) (by omega), wr_i64 (n := j17 + (1 + y31)) (by omega)]
            refine Ok.ite (fun ht => h26 _ ?_) (fun _ => h26 _ h17)
            have := h33 ht; omega
          · refine Ok.ite (fun hc => ?_) (fun _ => h34 _ (by simp))
            simp only [decide_eq_true_eq] at hc
            refine Ok.bind (Ok.idx h17.1 hc) fun x37 _ => ?_
            exact Ok.ite (fun _ => h34 _ (fun _ => hc)) (fun _ => h34 _ (by simp))
      · refine Ok.bind (Ok.idx h1.1 hj) fun x21 _ => ?_
        refine Ok.ite (fun _ => ?_) (fun _ => ?_)
        · rw [wr_i64 (n := j1 + 1) (by omega)]; exact h18 _ (by omega)
        · refine Ok.bind (Ok.sub h1.1 h1.2.2 (Int.le_refl _)) fun x22 h22 => ?_
          have hl := h22.2
          refine Ok.bind (run_ok x22 (by omega) (by omega)) fun y23 h23 => ?_
          rw [wr_i64 (n := j1 + y23) (by omega)]; exact h18 _ (by omega)
    · refine Ok.ite (fun _ => h11 _ (by simp)) (fun hc => ?_)
      have hj : j1 < l.length := by
        have : j1 ≠ l.length := by simpa using hc
        omega
      refine Ok.bind (Ok.idx h1.1 hj) fun x14 _ => ?_
      rw [digit_eq, Option.bind_some]
      exact h11 _ (fun _ => hj)
  · refine Ok.meet (fun j5 : Bool => j5 = true → 0 < l.length) (fun j5 h5 => ?_) (fun k6 h6 => ?_)
    · refine Ok.ite (fun ht => h2 _ ?_) (fun _ => h2 _ (by omega))
      have := h5 ht
      rw [wr_i64 (by omega)]; omega
    · refine Ok.ite (fun hc => ?_) (fun _ => h6 _ (by simp))
      simp only [decide_eq_true_eq] at hc
      exact Ok.bind (Ok.idx (by omega) hc) fun x9 _ => h6 _ (fun _ => by omega)
/-- no code in one of several bytes -/
theorem index_loop (set : List UInt8) (hs : set.length ≤ 1000) (k2 : Unit → Option Int) (n : Int) (h : k2 () = some n) : ∀ (l : List UInt8) (i : Int), 0 ≤ i → i + l.length = n → Ok (ref01_Index_L1 N set k2 l i) (fun r => 0 ≤ r ∧ r ≤ n)
  | [], i, hi, hn => by rw [ref01_Index_L1, h]; exact Ok.ret (by simp at hn; omega)
  | x :: l, i, hi, hn => by
    simp only [List.length_cons] at hn
    rw [ref01_Index_L1, in_eq _ _ hs, Option.bind_some]
    exact Ok.ite (fun _ => Ok.ret (by omega)) (fun _ => index_loop set hs k2 n h l (i + 1) (by omega) (by omega))
theorem index_ok (l set : List UInt8) (hs : set.length ≤ 1000) (hb : l.length ≤ 1000000) : Ok (ref01_Index N l set) (fun r => 0 ≤ r ∧ r ≤ l.length) := by
  unfold ref01_Index
  refine Ok.join (Ok.grd (by unfold fitsS; omega) ?_)
  exact index_loop set hs _ _ rfl l 0 (by omega) (by omega)
theorem exp_loop (k19 : Int → Option Int) (hk : ∀ n, 0 ≤ n → n ≤ 1073741824 → Ok (k19 n) (fun r => -1073741824 ≤ r ∧ r ≤ 1073741824)) : ∀ (l : List UInt8) (n : Int), 0 ≤ n → n ≤ 1073741824 → Ok (ref13_exponent_L1 N k19 l n) (fun r => -1073741824 ≤ r ∧ r ≤ 1073741824)
  | [], n, h0, h1 => by rw [ref13_exponent_L1]; exact hk n h0 h1
  | x :: l, n, h0, h1 => by
    rw [ref13_exponent_L1]
    have hw : 0 ≤ wr .u8 (bord x - 48) ∧ wr .u8 (bord x - 48) ≤ 255 := by
      simp only [wr, IntKind.wrap, IntKind.bits, IntKind.signed]; simp; omega
    rw [wr_i64 (n := n * 10) (by omega), wr_i64 (n := wr .u8 (bord x - 48)) (by omega), wr_i64 (n := n * 10 + wr .u8 (bord x - 48)) (by omega)]
    refine exp_loop k19 hk l _ ?_ ?_
    · split <;> omega
    · split <;> omega
theorem exponent_ok (l : List UInt8) (hb : l.length ≤ 1000000) : Ok (ref13_exponent N l) (fun r => -1073741824 ≤ r ∧ r ≤ 1073741824) := by
  unfold ref13_exponent
  have pos : ¬ (l == []) = true → (0 : Int) < l.length := fun h => by
    have : l ≠ [] := by simpa using h
    have := List.length_pos_iff.2 this; omega
  refine Ok.meet (fun _ : Bool => True) (fun j1 _ => ?_) (fun k2 h2 => ?_)
  · refine Ok.meet (fun j6 : List UInt8 => j6.length ≤ l.length) (fun j6 h6 => ?_) (fun k7 h7 => ?_)
    · refine Ok.join (Ok.grd (by unfold fitsS; omega) (exp_loop _ (fun n h0 h1 => ?_) _ _ (by omega) (by omega)))
      refine Ok.ite (fun _ => Ok.ret ?_) (fun _ => Ok.ret ⟨by omega, by omega⟩)
      rw [wr_i64 (by omega)]; omega
    · refine Ok.meet (fun j10 : Bool => j10 = true → (0 : Int) < l.length) (fun j10 h10 => ?_) (fun k11 h11 => ?_)
      · refine Ok.ite (fun ht => ?_) (fun _ => h7 _ (Nat.le_refl _))
        have := h10 ht
        exact Ok.bind (Ok.sub (by omega) (by omega) (Int.le_refl _)) fun x hx => h7 _ (by have := hx.2; omega)
      · refine Ok.ite (fun _ => h11 _ (by simp)) (fun hf => ?_)
        have := pos (by simp [hf])
        refine Ok.bind (Ok.idx (by omega) this) fun x _ => ?_
        rw [in_eq _ _ (by simp), Option.bind_some]
        exact h11 _ (fun _ => this)
  · refine Ok.ite (fun _ => h2 _ trivial) (fun hf => ?_)
    exact Ok.bind (Ok.idx (by omega) (pos (by simp [hf]))) fun x _ => h2 _ trivial
theorem format_loop : ∀ (d k n : Nat) (acc : List UInt8), n < 10 ^ (d + 1) → d < k → n < 18446744073709551616 → acc.length + d ≤ 1000 → Ok (ref04_Format_L1 N k (n : Int) acc) (fun r => r.length ≤ acc.length + d + 1)
  | d, 0, n, acc, h, hk, hn, ha => by omega
  | d, k + 1, n, acc, h, hk, hn, ha => by
    have hd : wr .u64 ((n : Int).tdiv 10) = ((n / 10 : Nat) : Int) := by
      rw [Int.tdiv_eq_ediv_of_nonneg (by omega)]
      simp only [wr, IntKind.wrap, IntKind.bits, IntKind.signed]; simp; omega
    rw [ref04_Format_L1, hd]
    refine Ok.grd (by unfold fitsS; simp <;> omega) (Ok.ite (fun _ => Ok.ret (by simp <;> omega)) (fun hc => ?_))
    have hc' : n / 10 ≠ 0 := by
      have : ((n / 10 : Nat) : Int) ≠ 0 := by simpa using hc
      omega
    cases d with
    | zero => simp at h; omega
    | succ d =>
      refine (format_loop d k (n / 10) _ ?_ (by omega) (by omega) (by simp; omega)).mono fun r hr => by simp at hr; omega
      rw [Nat.pow_succ] at h
      omega
theorem format_ok (n : Nat) (h1 : n < 1000000000000) (hN : 20 ≤ N) : Ok (ref04_Format N n) (fun r => r.length ≤ 13) := by
  unfold ref04_Format
  exact (format_loop 11 N n [] (by simpa using h1) (by omega) (by omega) (by simp)).mono fun r hr => by simp at hr; omega

/-- leading and trailing noughts -/
theorem num_loop1 (k29 : List UInt8 → Option (List UInt8 × Int)) (B : Nat) (P : List UInt8 × Int → Prop) (hk : ∀ m : List UInt8, m.length ≤ B → Ok (k29 m) P) : ∀ (k : Nat) (m : List UInt8), m.length < k → m.length ≤ B → Ok (ref13_Number_L1 N k29 k m) P
  | 0, m, h, _ => by omega
  | k + 1, m, h, hb => by
    rw [ref13_Number_L1]
    refine Ok.meet (fun j : Bool => j = true → 0 < m.length) (fun j hj => ?_) (fun k34 h34 => ?_)
    · refine Ok.ite (fun ht => ?_) (fun _ => hk m hb)
      have := hj ht
      exact Ok.bind (Ok.sub (by omega) (by omega) (Int.le_refl _)) fun x hx => num_loop1 k29 B P hk k x (by have := hx.2; omega) (by have := hx.2; omega)
    · refine Ok.ite (fun hc => ?_) (fun _ => h34 _ (by simp))
      simp only [decide_eq_true_eq] at hc
      exact Ok.bind (Ok.idx (by omega) (by omega)) fun x _ => h34 _ (fun _ => by omega)
/-- a text that holds more than noughts -/
theorem num_loop2 (k40 : Int × List UInt8 → Option (List UInt8 × Int)) (P : List UInt8 × Int → Prop) (L : Nat) (hL : L ≤ 1000000) (hk : ∀ (x : Int) (m : List UInt8), -2000000000 ≤ x → x ≤ 2000000000 → m.length ≤ L → Ok (k40 (x, m)) P) : ∀ (k : Nat) (x : Int) (m : List UInt8), m.length < k → m.length ≤ L → -2000000000 ≤ x → x + m.length ≤ 2000000000 → (∃ c, m.head? = some c ∧ c ≠ 48) → Ok (ref13_Number_L2 N k40 k x m) P
  | 0, x, m, h, _, _, _, _ => by omega
  | k + 1, x, m, h, hm, h0, h1, hc => by
    obtain ⟨c, hc, hne⟩ := hc
    have hpos : 0 < m.length := by
      cases m with
      | nil => simp at hc
      | cons => simp
    rw [ref13_Number_L2, wr_i64 (n := (m.length : Int) - 1) (by omega)]
    refine Ok.bind (Ok.idx (by omega) (by omega)) fun y hy => ?_
    refine Ok.ite (fun ht => ?_) (fun _ => hk x m (by omega) (by omega) hm)
    refine Ok.bind (Ok.sub (by omega) (by omega) (by omega)) fun z hz => ?_
    rw [wr_i64 (n := x + 1) (by omega)]
    have hl := hz.2
    -- the last one is a nought, so it is not the first one
    have h2 : 1 < m.length := by
      rcases Nat.lt_or_ge 1 m.length with h | h
      · exact h
      · exfalso
        match m, hpos, h, hc, hy with
        | [d], _, _, hc, hy =>
          simp at hc hy
          subst hc; subst hy
          have : bord d = 48 := by simpa using ht
          exact hne (by
            have h3 : d.toNat = 48 := by unfold bord at this; omega
            exact UInt8.toNat_inj.1 (by rw [h3]; rfl))
    refine num_loop2 k40 P L hL hk k (x + 1) z (by omega) (by omega) (by omega) (by omega) ⟨c, ?_, hne⟩
    rw [hz.1]
    cases m with
    | nil => simp at hpos
    | cons a m =>
      simp at hc; subst hc
      have e : ((((a :: m).length : Nat) : Int) - 1).toNat - (0 : Int).toNat = m.length := by simp
      rw [e]
      cases m with
      | nil => simp at h2
      | cons b m => simp
/-- what is left of a numeral begins with no nought -/
theorem num_loop1' (k29 : List UInt8 → Option (List UInt8 × Int)) (B : Nat) (P : List UInt8 × Int → Prop) (hk : ∀ m : List UInt8, m.length ≤ B → (m = [] ∨ ∃ c, m.head? = some c ∧ c ≠ 48) → Ok (k29 m) P) : ∀ (k : Nat) (m : List UInt8), m.length < k → m.length ≤ B → Ok (ref13_Number_L1 N k29 k m) P
  | 0, m, h, _ => by omega
  | k + 1, m, h, hb => by
    rw [ref13_Number_L1, joinK_eq]
    cases m with
    | nil =>
      have : decide ((([] : List UInt8).length : Int) > 0) = false := by simp
      rw [this]; simpa using hk [] (by simp) (.inl rfl)
    | cons a m =>
      simp only [List.length_cons] at h hb
      have h1 : decide (((a :: m).length : Int) > 0) = true := by simp <;> omega
      have h2 : idx (a :: m) 0 = some a := by simp [idx]
      rw [h1, if_pos rfl, h2, Option.bind_some]
      refine Ok.ite (fun ht => ?_) (fun hf => hk _ (by simpa using hb) (.inr ⟨a, rfl, fun e => ?_⟩))
      · exact Ok.bind (Ok.sub (by omega) (by simp; omega) (Int.le_refl _)) fun x hx => num_loop1' k29 B P hk k x (by have := hx.2; simp at this; omega) (by have := hx.2; simp at this; omega)
      · subst e; simp [bord] at hf
theorem number_ok (l : List UInt8) (hN : l.length + 30 < N) (hb : l.length ≤ 100000) : Ok (ref13_Number N l) (fun r => r.1.length ≤ 2 * l.length + 100) := by
  unfold ref13_Number
  refine Ok.meet (fun j1 : Bool => j1 = false → 0 < l.length) (fun j1 h1 => ?_) (fun k2 h2 => ?_)
  · refine Ok.ite (fun _ => Ok.ret (by simp)) (fun hf => ?_)
    have hpos := h1 hf
    refine Ok.meet (fun j : List UInt8 × List UInt8 => j.1.length ≤ l.length ∧ j.2.length ≤ 1) (fun j hj => ?_) (fun k8 h8 => ?_)
    · refine Ok.bind (index_ok j.1 _ (by simp) (by omega)) fun y13 h13 => ?_
      rw [wr_i64 (n := y13 + 1) (by omega)]
      refine Ok.bind (tail_ok j.1 (y13 + 1) (by omega)) fun y15 h15 => ?_
      have hl15 : y15.length ≤ j.1.length := by rw [h15]; simp
      refine Ok.bind (exponent_ok y15 (by omega)) fun y17 h17 => ?_
      refine Ok.bind (Ok.sub (by omega) h13.1 h13.2) fun x19 h19 => ?_
      have hl19 := h19.2
      refine Ok.meet (fun j20 : Int × List UInt8 => -1100000000 ≤ j20.1 ∧ j20.1 ≤ 1100000000 ∧ j20.2.length ≤ l.length) (fun j20 hj20 => ?_) (fun k21 h21 => ?_)
      · refine Ok.meet (fun m : List UInt8 => m.length ≤ l.length ∧ (m = [] ∨ ∃ c, m.head? = some c ∧ c ≠ 48)) (fun m hm => ?_) (fun k29 h29 => ?_)
        · refine Ok.ite (fun _ => Ok.ret (by simp)) (fun hne => ?_)
          refine Ok.meet (fun p : Int × List UInt8 => p.2.length ≤ l.length) (fun p hp => ?_) (fun k40 h40 => ?_)
          · refine Ok.meet (fun b : Bool => b = false → -400 ≤ p.1 ∧ p.1 ≤ 400) (fun b hb' => ?_) (fun k47 h47 => ?_)
            · refine Ok.ite (fun _ => Ok.ret (by simp)) (fun hf => ?_)
              have hx := hb' hf
              refine Ok.ite (fun hlt => ?_) (fun _ => Ok.ite (fun hgt => ?_) (fun _ => Ok.grd (by unfold fitsS; omega) (Ok.ret (by simp <;> omega))))
              · simp only [decide_eq_true_eq] at hlt
                obtain ⟨n, hn⟩ : ∃ n : Nat, 0 - p.1 = n := ⟨(0 - p.1).toNat, by omega⟩
                have e : wr .u64 (wr .i64 (0 - p.1)) = (n : Int) := by
                  rw [wr_i64 (by omega), hn]
                  simp only [wr, IntKind.wrap, IntKind.bits, IntKind.signed]; simp; omega
                rw [e]
                refine Ok.grd (by unfold fitsS; omega) (Ok.grd (by unfold fitsS; simp <;> omega) (Ok.bind (format_ok n (by omega) (by omega)) fun y hy => Ok.grd (by unfold fitsS; simp <;> omega) (Ok.ret (by simp <;> omega))))
              · simp only [decide_eq_true_eq] at hgt
                obtain ⟨n, hn⟩ : ∃ n : Nat, p.1 = n := ⟨p.1.toNat, by omega⟩
                have e : wr .u64 p.1 = (n : Int) := by
                  rw [hn]
                  simp only [wr, IntKind.wrap, IntKind.bits, IntKind.signed]; simp; omega
                rw [e]
                refine Ok.grd (by unfold fitsS; omega) (Ok.grd (by unfold fitsS; simp <;> omega) (Ok.bind (format_ok n (by omega) (by omega)) fun y hy => Ok.grd (by unfold fitsS; simp <;> omega) (Ok.ret (by simp <;> omega))))
            · refine Ok.ite (fun _ => h47 _ (by simp)) (fun _ => Ok.ite (fun _ => h47 _ (by simp)) (fun h4 => h47 _ (fun h5 => ?_)))
              simp only [decide_eq_false_iff_not] at h4 h5
              omega
          · rcases hm.2 with hm2 | hm2
            · rw [hm2] at hne; simp at hne
            · exact num_loop2 k40 _ l.length (by omega) (fun x m' _ _ h => h40 _ h) N j20.1 m (by omega) hm.1 (by omega) (by omega) hm2
        · exact num_loop1' k29 l.length _ (fun m hm hc => h29 _ ⟨hm, hc⟩) N j20.2 (by omega) hj20.2.2
      · refine Ok.bind (index_ok x19 _ (by simp) (by omega)) fun y24 h24 => ?_
        refine Ok.ite (fun hc => ?_) (fun _ => h21 _ ⟨by omega, by omega, by simp only []; omega⟩)
        simp only [decide_eq_true_eq] at hc
        refine Ok.bind (Ok.sub (by omega) h24.1 h24.2) fun x26 h26 => ?_
        rw [wr_i64 (n := y24 + 1) (by omega), wr_i64 (n := (x19.length : Int) - y24) (by omega), wr_i64 (n := (x19.length : Int) - y24 - 1) (by omega), wr_i64 (n := y17 - ((x19.length : Int) - y24 - 1)) (by omega)]
        refine Ok.bind (Ok.sub (by omega) (by omega) (Int.le_refl _)) fun x27 h27 => ?_
        have a1 := h26.2; have a2 := h27.2
        exact Ok.grd (by unfold fitsS; omega) (h21 _ ⟨by simp only []; omega, by simp only []; omega, by simp; omega⟩)
    · refine Ok.bind (Ok.idx (by omega) (by omega)) fun x11 _ => ?_
      refine Ok.ite (fun _ => ?_) (fun _ => h8 _ ⟨Nat.le_refl _, by simp⟩)
      exact Ok.bind (Ok.sub (by omega) (by omega) (Int.le_refl _)) fun x12 h12 => h8 _ ⟨by have := h12.2; simp only []; omega, by simp⟩
  · refine Ok.ite (fun _ => h2 _ (by simp)) (fun hf => ?_)
    have hpos : 0 < l.length := by
      have : l ≠ [] := by simpa using hf
      exact List.length_pos_iff.2 this
    exact Ok.bind (numeral_ok l (by omega) (by omega)) fun y _ => h2 _ (fun _ => hpos)
end
end Go.VM
