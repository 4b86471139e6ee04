/- Numerals: the program's and the reference's readers are the same. -/
import Derived.Test.YtbmilkoebhmnnaaGreatDoorText
set_option linter.unusedVariables false
set_option linter.unusedSimpArgs false
namespace Go.VM
section
variable {N : Nat}
theorem take_while {α : Type} (p : α → Bool) (t : List α) : t.take (t.takeWhile p).length = t.takeWhile p :=
  (List.prefix_iff_eq_take.1 (List.takeWhile_prefix p)).symm
theorem while_le {α : Type} (p : α → Bool) (t : List α) : (t.takeWhile p).length ≤ t.length := (List.takeWhile_sublist p).length_le
def digC (c : UInt8) : Bool := decide (48 ≤ c.toNat) && decide (c.toNat ≤ 57)
def alphaN (n : Nat) : Bool := (decide (65 ≤ n) && decide (n ≤ 90)) || (decide (97 ≤ n) && decide (n ≤ 122))
def alphaB (c : UInt8) : Bool := alphaN c.toNat
def wsN (n : Nat) : Bool := decide (n = 32) || decide (n = 9) || decide (n = 10) || decide (n = 13)
def wsB (c : UInt8) : Bool := wsN c.toNat
theorem pdig_eq (c : UInt8) : ascii_IsDigit N (bord c) = some (digC c) :=
  bytes_eq (f := fun n => ascii_IsDigit N (n : Int)) (g := fun n => some (decide (48 ≤ n) && decide (n ≤ 57))) (by kernel_rfl) c
theorem rdig_eq (c : UInt8) : ref01_IsDigit N (bord c) = some (digC c) :=
  bytes_eq (f := fun n => ref01_IsDigit N (n : Int)) (g := fun n => some (decide (48 ≤ n) && decide (n ≤ 57))) (by kernel_rfl) c
theorem palpha_eq (c : UInt8) : ascii_IsAlpha N (bord c) = some (alphaB c) :=
  bytes_eq (f := fun n => ascii_IsAlpha N (n : Int)) (g := fun n => some (alphaN n)) (by kernel_rfl) c
theorem ralpha_eq (c : UInt8) : ref01_IsAlpha N (bord c) = some (alphaB c) :=
  bytes_eq (f := fun n => ref01_IsAlpha N (n : Int)) (g := fun n => some (alphaN n)) (by kernel_rfl) c
theorem pws_eq (c : UInt8) : token_space N (bord c) = some (wsB c) :=
  bytes_eq (f := fun n => token_space N (n : Int)) (g := fun n => some (wsN n)) (by kernel_rfl) c
theorem inC_loop (c : UInt8) (k2 : Unit → Option Bool) (h : k2 () = some false) : ∀ l : List UInt8, ref01_In_L1 N (bord c) k2 l = some (l.contains c)
  | [] => by rw [ref01_In_L1]; simpa using h
  | x :: l => by
    rw [ref01_In_L1, inC_loop c k2 h l, List.contains_cons]
    by_cases e : x = c
    · subst e; simp
    · have e1 : ¬ c = x := fun h => e h.symm
      have : (bord x == bord c) = false := by
        have : ¬ x.toNat = c.toNat := fun h => e (UInt8.toNat_inj.1 h)
        simp only [bord, beq_eq_false_iff_ne, ne_eq]; omega
      simp [this, e1]
theorem inC_eq (c : UInt8) (l : List UInt8) (h : l.length ≤ 1000) : ref01_In N (bord c) l = some (l.contains c) := by
  unfold ref01_In
  rw [joinK_eq, grdS (by omega)]
  exact inC_loop c _ rfl l
theorem rws_eq (c : UInt8) : ref13_white N (bord c) = some (wsB c) := by
  unfold ref13_white
  rw [inC_eq _ _ (by decide), Option.bind_some]
  have := bytes_eq (f := fun n => some (([32, 9, 10, 13] : List UInt8).contains (UInt8.ofNat n))) (g := fun n => some (wsN n)) (by kernel_rfl) c
  simp only [UInt8.ofNat_toNat] at this
  exact this
theorem index_ge : ∀ (l : List UInt8) (c : UInt8), decide (Go.Lib.indexByte l c ≥ 0) = l.contains c
  | [], c => rfl
  | x :: l, c => by
    have ih := index_ge l c
    have h := Go.Lib.indexByte_ge l c
    rw [Go.Lib.indexByte, List.contains_cons]
    by_cases e : x = c
    · subst e; simp
    · have e1 : (c == x) = false := by simpa using fun h : c = x => e h.symm
      have e2 : (x == c) = false := by simpa using e
      rw [e1, e2, Bool.false_or, ← ih]
      simp only [Bool.false_eq_true, if_false]
      by_cases k : Go.Lib.indexByte l c = -1
      · simp [k]
      · have k' : (Go.Lib.indexByte l c == -1) = false := by simpa using k
        rw [k']; simp only [Bool.false_eq_true, if_false]
        congr 1; simp only [eq_iff_iff]; omega
theorem sindex_eq (l : List UInt8) (c : UInt8) : strings_IndexByte N l (bord c) = some (Go.Lib.indexByte l c) := by
  unfold strings_IndexByte internal_stringslite_IndexByte; rw [bchr_bord]; rfl
section
variable {l : List UInt8}
theorem pwd_loop (hb : l.length ≤ 2 ^ 50) (s : Int) (k2 : Int → Option (List UInt8 × TokenReader)) : ∀ (t : List UInt8) (i : Nat), l.drop i = t → i ≤ l.length → token_reader_while__ascii_IsDigit_L1 N ⟨l, s⟩ k2 t.length (i : Int) = k2 ((i + (t.takeWhile digC).length : Nat) : Int)
  | [], i, ht, hi => by rw [List.length_nil, token_reader_while__ascii_IsDigit_L1]; rfl
  | c :: t, i, ht, hi => by
    have hl := len_drop ht hi
    simp only [List.length_cons] at hl
    rw [List.length_cons, token_reader_while__ascii_IsDigit_L1]
    rw [head_drop ht, Option.bind_some, pdig_eq, Option.bind_some, List.takeWhile_cons]
    cases digC c
    · simp
    · rw [if_pos rfl, if_pos rfl, show (i : Int) + 1 = ((i + 1 : Nat) : Int) by simp, pwd_loop hb s k2 t (i + 1) (by rw [← List.drop_drop, ht]; rfl) (by omega)]
      rw [List.length_cons]; congr 2; omega
theorem pwa_loop (hb : l.length ≤ 2 ^ 50) (s : Int) (k2 : Int → Option (List UInt8 × TokenReader)) : ∀ (t : List UInt8) (i : Nat), l.drop i = t → i ≤ l.length → token_reader_while__ascii_IsAlpha_L1 N ⟨l, s⟩ k2 t.length (i : Int) = k2 ((i + (t.takeWhile alphaB).length : Nat) : Int)
  | [], i, ht, hi => by rw [List.length_nil, token_reader_while__ascii_IsAlpha_L1]; rfl
  | c :: t, i, ht, hi => by
    have hl := len_drop ht hi
    simp only [List.length_cons] at hl
    rw [List.length_cons, token_reader_while__ascii_IsAlpha_L1]
    rw [head_drop ht, Option.bind_some, palpha_eq, Option.bind_some, List.takeWhile_cons]
    cases alphaB c
    · simp
    · rw [if_pos rfl, if_pos rfl, show (i : Int) + 1 = ((i + 1 : Nat) : Int) by simp, pwa_loop hb s k2 t (i + 1) (by rw [← List.drop_drop, ht]; rfl) (by omega)]
      rw [List.length_cons]; congr 2; omega
theorem pws_loop (hb : l.length ≤ 2 ^ 50) (s : Int) (k2 : Int → Option (List UInt8 × TokenReader)) : ∀ (t : List UInt8) (i : Nat), l.drop i = t → i ≤ l.length → token_reader_while__token_space_L1 N ⟨l, s⟩ k2 t.length (i : Int) = k2 ((i + (t.takeWhile wsB).length : Nat) : Int)
  | [], i, ht, hi => by rw [List.length_nil, token_reader_while__token_space_L1]; rfl
  | c :: t, i, ht, hi => by
    have hl := len_drop ht hi
    simp only [List.length_cons] at hl
    rw [List.length_cons, token_reader_while__token_space_L1]
    rw [head_drop ht, Option.bind_some, pws_eq, Option.bind_some, List.takeWhile_cons]
    cases wsB c
    · simp
    · rw [if_pos rfl, if_pos rfl, show (i : Int) + 1 = ((i + 1 : Nat) : Int) by simp, pws_loop hb s k2 t (i + 1) (by rw [← List.drop_drop, ht]; rfl) (by omega)]
      rw [List.length_cons]; congr 2; omega
variable {t : List UInt8} {i : Nat}
theorem sub_while (p : UInt8 → Bool) (ht : l.drop i = t) (hi : i ≤ l.length) : sub l (i : Int) ((i + (t.takeWhile p).length : Nat) : Int) = some (t.takeWhile p) := by
  have hl := len_drop ht hi
  have := while_le p t
  rw [sub_nat l i _ (by omega) (by omega), Nat.add_sub_cancel_left, ht, take_while]
theorem pwd_eq (ht : l.drop i = t) (hi : i ≤ l.length) (hb : l.length ≤ 2 ^ 50) : token_reader_while__ascii_IsDigit N ⟨l, (i : Int)⟩ = some (t.takeWhile digC, ⟨l, ((i + (t.takeWhile digC).length : Nat) : Int)⟩) := by
  have hl := len_drop ht hi
  unfold token_reader_while__ascii_IsDigit
  rw [joinK_eq, grd_true (by simp only []; omega)]
  rw [show ((l.length : Int) - (i : Int)).toNat = t.length by omega, pwd_loop hb _ _ t i ht hi]
  simp only []
  rw [sub_while digC ht hi, Option.bind_some]
theorem pwa_eq (ht : l.drop i = t) (hi : i ≤ l.length) (hb : l.length ≤ 2 ^ 50) : token_reader_while__ascii_IsAlpha N ⟨l, (i : Int)⟩ = some (t.takeWhile alphaB, ⟨l, ((i + (t.takeWhile alphaB).length : Nat) : Int)⟩) := by
  have hl := len_drop ht hi
  unfold token_reader_while__ascii_IsAlpha
  rw [joinK_eq, grd_true (by simp only []; omega)]
  rw [show ((l.length : Int) - (i : Int)).toNat = t.length by omega, pwa_loop hb _ _ t i ht hi]
  simp only []
  rw [sub_while alphaB ht hi, Option.bind_some]
theorem pwss_eq (ht : l.drop i = t) (hi : i ≤ l.length) (hb : l.length ≤ 2 ^ 50) : token_reader_while__token_space N ⟨l, (i : Int)⟩ = some (t.takeWhile wsB, ⟨l, ((i + (t.takeWhile wsB).length : Nat) : Int)⟩) := by
  have hl := len_drop ht hi
  unfold token_reader_while__token_space
  rw [joinK_eq, grd_true (by simp only []; omega)]
  rw [show ((l.length : Int) - (i : Int)).toNat = t.length by omega, pws_loop hb _ _ t i ht hi]
  simp only []
  rw [sub_while wsB ht hi, Option.bind_some]
/-- is the head one of some bytes -/
def headB (set t : List UInt8) : Bool := match t with | c :: _ => set.contains c | [] => false
theorem ptake_eq (set : List UInt8) (ht : l.drop i = t) (hi : i ≤ l.length) (hb : l.length ≤ 2 ^ 50) : token_reader_take N ⟨l, (i : Int)⟩ set = some (headB set t, ⟨l, ((i + (if headB set t = true then 1 else 0) : Nat) : Int)⟩) := by
  have hl := len_drop ht hi
  unfold token_reader_take
  rw [joinK_eq]
  match t, ht, hl with
  | [], ht, hl =>
    simp only [List.length_nil] at hl
    have c : ¬ (i : Int) < (l.length : Int) := by omega
    rw [if_neg (by simpa using c)]; rfl
  | c :: t, ht, hl =>
    simp only [List.length_cons] at hl
    have c0 : (i : Int) < (l.length : Int) := by omega
    rw [if_pos (decide_eq_true c0)]
    simp only []
    rw [head_drop ht, Option.bind_some, sindex_eq, Option.bind_some, index_ge, wr_i64 (by omega)]
    have key : ∀ b : Bool, (if b = true then some (true, (⟨l, (i : Int) + 1⟩ : TokenReader)) else some (false, (⟨l, (i : Int)⟩ : TokenReader))) = some (b, (⟨l, ((i + (if b = true then 1 else 0) : Nat) : Int)⟩ : TokenReader)) := by
      intro b; cases b <;> simp
    exact key _
def runC (t : List UInt8) : Nat := (t.takeWhile digC).length
theorem runC_le (t : List UInt8) : runC t ≤ t.length := while_le _ _
theorem empty_run (t : List UInt8) : (t.takeWhile digC == []) = decide (runC t = 0) := by
  unfold runC
  cases t.takeWhile digC <;> simp
/-- the parts of a numeral: sign, whole digits, fraction, exponent -/
def signN (t : List UInt8) : Nat := if headB [45] t = true then 1 else 0
def intN (t : List UInt8) : Nat := if headB [48] t = true then 1 else runC t
def fracN (t : List UInt8) : Nat := if headB [46] t = true ∧ 0 < runC (t.drop 1) then 1 + runC (t.drop 1) else 0
def esgN (t : List UInt8) : Nat := if headB [43, 45] (t.drop 1) = true then 1 else 0
def expN (t : List UInt8) : Nat := if headB [101, 69] t = true ∧ 0 < runC (t.drop (1 + esgN t)) then 1 + esgN t + runC (t.drop (1 + esgN t)) else 0
def numN (t : List UInt8) : Nat :=
  if intN (t.drop (signN t)) = 0 then 0
  else signN t + intN (t.drop (signN t)) + fracN (t.drop (signN t + intN (t.drop (signN t)))) +
    expN (t.drop (signN t + intN (t.drop (signN t)) + fracN (t.drop (signN t + intN (t.drop (signN t))))))
theorem headB_pos {set t : List UInt8} (h : headB set t = true) : 0 < t.length := by
  cases t with
  | nil => cases h
  | cons => simp
theorem signN_le (t : List UInt8) : signN t ≤ t.length := by
  unfold signN; split
  · rename_i h; exact headB_pos h
  · omega
theorem intN_le (t : List UInt8) : intN t ≤ t.length := by
  unfold intN; split
  · rename_i h; exact headB_pos h
  · exact runC_le t
theorem fracN_le (t : List UInt8) : fracN t ≤ t.length := by
  unfold fracN; split
  · rename_i h
    have := headB_pos h.1
    have := runC_le (t.drop 1)
    rw [List.length_drop] at this; omega
  · omega
theorem expN_le (t : List UInt8) : expN t ≤ t.length := by
  unfold expN; split
  · rename_i h
    have h1 := headB_pos h.1
    have := runC_le (t.drop (1 + esgN t))
    rw [List.length_drop] at this
    have h2 := h.2
    omega
  · omega
theorem numN_le (t : List UInt8) : numN t ≤ t.length := by
  unfold numN
  split
  · omega
  · have h1 := signN_le t
    have h2 := intN_le (t.drop (signN t))
    have h3 := fracN_le (t.drop (signN t + intN (t.drop (signN t))))
    have h4 := expN_le (t.drop (signN t + intN (t.drop (signN t)) + fracN (t.drop (signN t + intN (t.drop (signN t))))))
    simp only [List.length_drop] at h2 h3 h4
    omega
theorem pdigits_eq {f : Int} (ht : l.drop i = t) (hi : i ≤ l.length) (hb : l.length ≤ 2 ^ 50) : token_reader_digits N ⟨l, (i : Int)⟩ f = some ⟨l, if 0 < runC t then ((i + runC t : Nat) : Int) else f⟩ := by
  unfold token_reader_digits
  rw [pwd_eq ht hi hb, Option.bind_some]
  simp only [empty_run]
  by_cases h : runC t = 0
  · rw [if_pos (decide_eq_true h), if_neg (by omega)]
  · rw [if_neg (by simpa using h), if_pos (by omega)]; rfl
theorem drop_add {a : Nat} (ht : l.drop i = t) (n : Nat) (h : a = i + n) : l.drop a = t.drop n := by rw [h, ← List.drop_drop, ht]
/-- the program's reader of numerals -/
theorem pnumber_eq (ht : l.drop i = t) (hi : i ≤ l.length) (hb : l.length ≤ 2 ^ 50) :
    if numN t = 0 then ∃ q, token_reader_number N ⟨l, (i : Int)⟩ = some ([], false, q) else token_reader_number N ⟨l, (i : Int)⟩ = some (t.take (numN t), true, ⟨l, ((i + numN t : Nat) : Int)⟩) := by
  have hl := len_drop ht hi
  have h1 := signN_le t
  have h2 := intN_le (t.drop (signN t))
  have h3 := fracN_le (t.drop (signN t + intN (t.drop (signN t))))
  have h4 := expN_le (t.drop (signN t + intN (t.drop (signN t)) + fracN (t.drop (signN t + intN (t.drop (signN t))))))
  simp only [List.length_drop] at h2 h3 h4
  unfold token_reader_number
  rw [ptake_eq [45] ht hi hb, Option.bind_some]
  change if numN t = 0 then ∃ q, joinK _ _ = some ([], false, q) else joinK _ _ = _
  rw [show (if headB [45] t = true then 1 else 0) = signN t from rfl]
  have hta := drop_add ht (signN t) rfl
  rw [ptake_eq [48] hta (by omega) hb]
  simp only [Option.bind_some]
  -- behind the whole digits
  have rest : ∀ a : Nat, a = i + (signN t + intN (t.drop (signN t))) → intN (t.drop (signN t)) ≠ 0 →
      (joinK (fun j11 : TokenReader => joinK (fun j19 : TokenReader => Option.bind (sub j19.s (i : Int) j19.at_) fun x29 => some (x29, true, j19)) fun k20 =>
        Option.bind (token_reader_take N j11 ([101, 69] : List UInt8)) fun y23 => if y23.1 = true then Option.bind (token_reader_take N y23.2 ([43, 45] : List UInt8)) fun y25 => Option.bind (token_reader_digits N y25.2 j11.at_) fun y27 => k20 y27 else k20 y23.2) fun k12 =>
      Option.bind (token_reader_take N ⟨l, (a : Int)⟩ ([46] : List UInt8)) fun y15 => if y15.1 = true then Option.bind (token_reader_digits N y15.2 (a : Int)) fun y17 => k12 y17 else k12 y15.2) = some (t.take (numN t), true, (⟨l, ((i + numN t : Nat) : Int)⟩ : TokenReader)) := by
    intro a ha hne
    have htb := drop_add ht (signN t + intN (t.drop (signN t))) ha
    have hnum : numN t = signN t + intN (t.drop (signN t)) + fracN (t.drop (signN t + intN (t.drop (signN t)))) + expN (t.drop (signN t + intN (t.drop (signN t)) + fracN (t.drop (signN t + intN (t.drop (signN t)))))) := by
      unfold numN; rw [if_neg hne]
    -- behind the fraction
    have last : ∀ b : Nat, b = i + (signN t + intN (t.drop (signN t)) + fracN (t.drop (signN t + intN (t.drop (signN t))))) →
        (joinK (fun j19 : TokenReader => Option.bind (sub j19.s (i : Int) j19.at_) fun x29 => some (x29, true, j19)) fun k20 =>
          Option.bind (token_reader_take N ⟨l, (b : Int)⟩ ([101, 69] : List UInt8)) fun y23 => if y23.1 = true then Option.bind (token_reader_take N y23.2 ([43, 45] : List UInt8)) fun y25 => Option.bind (token_reader_digits N y25.2 (b : Int)) fun y27 => k20 y27 else k20 y23.2) = some (t.take (numN t), true, (⟨l, ((i + numN t : Nat) : Int)⟩ : TokenReader)) := by
      intro b hb'
      have htc := drop_add ht _ hb'
      have fin : ∀ e : Nat, e = i + numN t → (Option.bind (sub l (i : Int) (e : Int)) fun x29 => some (x29, true, (⟨l, (e : Int)⟩ : TokenReader))) = some (t.take (numN t), true, (⟨l, ((i + numN t : Nat) : Int)⟩ : TokenReader)) := by
        rintro e rfl
        have := numN_le t
        rw [sub_nat l i _ (by omega) (by omega), Option.bind_some, Nat.add_sub_cancel_left, ht]
      rw [joinK_eq, ptake_eq [101, 69] htc (by omega) hb, Option.bind_some]
      generalize hc : t.drop (signN t + intN (t.drop (signN t)) + fracN (t.drop (signN t + intN (t.drop (signN t))))) = c at *
      by_cases he : headB [101, 69] c = true
      · have hpos := headB_pos he
        have hcl : c.length = t.length - (signN t + intN (t.drop (signN t)) + fracN (t.drop (signN t + intN (t.drop (signN t))))) := by rw [← hc, List.length_drop]
        simp only [he, if_true]
        rw [ptake_eq [43, 45] (drop_add htc 1 rfl) (by omega) hb, Option.bind_some]
        rw [show (if headB [43, 45] (c.drop 1) = true then 1 else 0) = esgN c from rfl]
        have hes : esgN c ≤ c.length - 1 := by
          unfold esgN; split
          · rename_i h; have := headB_pos h; rw [List.length_drop] at this; omega
          · omega
        rw [pdigits_eq (drop_add htc (1 + esgN c) (by omega)) (by omega) hb, Option.bind_some]
        by_cases hr : 0 < runC (c.drop (1 + esgN c))
        · rw [if_pos hr]
          refine fin _ ?_
          rw [hnum, show expN c = 1 + esgN c + runC (c.drop (1 + esgN c)) by unfold expN; rw [if_pos ⟨he, hr⟩]]
          omega
        · rw [if_neg hr]
          refine fin _ ?_
          rw [hnum, show expN c = 0 by unfold expN; rw [if_neg (fun h => hr h.2)]]
          omega
      · rw [Bool.not_eq_true] at he
        simp only [he, Bool.false_eq_true, if_false]
        refine fin _ ?_
        rw [hnum, show expN c = 0 by unfold expN; rw [if_neg (by rw [he]; simp)]]
        omega
    rw [joinK_eq, ptake_eq [46] htb (by omega) hb, Option.bind_some]
    generalize hc : t.drop (signN t + intN (t.drop (signN t))) = c at *
    by_cases he : headB [46] c = true
    · have hpos := headB_pos he
      have hcl : c.length = t.length - (signN t + intN (t.drop (signN t))) := by rw [← hc, List.length_drop]
      simp only [he, if_true]
      rw [pdigits_eq (drop_add htb 1 rfl) (by omega) hb, Option.bind_some]
      by_cases hr : 0 < runC (c.drop 1)
      · rw [if_pos hr]
        refine last _ ?_
        rw [show fracN c = 1 + runC (c.drop 1) by unfold fracN; rw [if_pos ⟨he, hr⟩]]
        omega
      · rw [if_neg hr]
        refine last _ ?_
        rw [show fracN c = 0 by unfold fracN; rw [if_neg (fun h => hr h.2)]]
        omega
    · rw [Bool.not_eq_true] at he
      simp only [he, Bool.false_eq_true, if_false]
      refine last _ ?_
      rw [show fracN c = 0 by unfold fracN; rw [if_neg (by rw [he]; simp)]]
      omega
  have hnz : numN t = 0 ↔ intN (t.drop (signN t)) = 0 := by
    unfold numN
    constructor
    · intro h; by_cases k : intN (t.drop (signN t)) = 0
      · exact k
      · rw [if_neg k] at h; omega
    · intro h; rw [if_pos h]
  by_cases h0 : headB [48] (t.drop (signN t)) = true
  · have hin : intN (t.drop (signN t)) = 1 := by unfold intN; rw [if_pos h0]
    rw [if_neg (by rw [hnz, hin]; decide)]
    simp only [h0, if_true]
    rw [joinK_eq]
    simp only [Bool.false_eq_true, if_false]
    exact rest _ (by rw [hin]; omega) (by rw [hin]; decide)
  · have hin : intN (t.drop (signN t)) = runC (t.drop (signN t)) := by unfold intN; rw [if_neg h0]
    rw [Bool.not_eq_true] at h0
    simp only [h0, Bool.false_eq_true, if_false, Nat.add_zero]
    rw [pwd_eq hta (by omega) hb]
    simp only [Option.bind_some, joinK_eq, empty_run]
    by_cases hr : runC (t.drop (signN t)) = 0
    · rw [if_pos (by rw [hnz, hin]; exact hr)]
      simp only [hr, decide_true, if_true]
      exact ⟨_, rfl⟩
    · rw [if_neg (by rw [hnz, hin]; exact hr)]
      simp only [hr, decide_false, Bool.false_eq_true, if_false]
      have := rest (i + signN t + runC (t.drop (signN t))) (by rw [hin]; omega) (by rw [hin]; exact hr)
      simp only [joinK_eq] at this
      exact this
end
end
end Go.VM
