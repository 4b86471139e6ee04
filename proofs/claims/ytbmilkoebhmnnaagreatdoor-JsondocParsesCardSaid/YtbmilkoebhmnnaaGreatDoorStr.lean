/- Functions of the library on texts: cutting, trimming, small letters. -/
import Derived.Test.YtbmilkoebhmnnaaGreatDoorNum2
set_option linter.unusedVariables false
set_option linter.unusedSimpArgs false
namespace Go.VM
section
variable {N : Nat}
theorem index_eq : ∀ (l : List UInt8) (c : UInt8), Go.Lib.indexByte l c = if l.contains c = true then (((l.takeWhile (· != c)).length : Nat) : Int) else -1
  | [], c => rfl
  | x :: l, c => by
    have ih := index_eq l c
    rw [Go.Lib.indexByte, List.contains_cons]
    by_cases e : x = c
    · subst e; simp
    · have e1 : (c == x) = false := by simpa using fun h : c = x => e h.symm
      have e2 : (x == c) = false := by simpa using e
      have e3 : (x != c) = true := by simpa using e
      rw [e1, e2, Bool.false_or, List.takeWhile_cons, e3]
      simp only [Bool.false_eq_true, if_false, if_true, List.length_cons]
      by_cases k : l.contains c = true
      · rw [if_pos k] at ih
        rw [if_pos k, ih]
        have : (((((l.takeWhile (· != c)).length : Nat) : Int)) == -1) = false := by
          simp only [beq_eq_false_iff_ne, ne_eq]; omega
        rw [this]; simp
      · rw [if_neg k] at ih
        rw [if_neg k, ih]; rfl
theorem while_drop {α : Type} (p : α → Bool) (l : List α) : l.drop (l.takeWhile p).length = l.dropWhile p := by
  have := List.takeWhile_append_dropWhile (p := p) (l := l)
  conv => lhs; rw [← this]
  rw [List.drop_append, List.drop_of_length_le (by rw [this]; exact Nat.le_refl _), this]
  simp
/-- a text cut at the first of a byte -/
def cutS (c : UInt8) (l : List UInt8) : List UInt8 × List UInt8 × Bool := if l.contains c = true then (l.takeWhile (· != c), (l.dropWhile (· != c)).drop 1, true) else (l, [], false)
theorem has_lt {c : UInt8} : ∀ {l : List UInt8}, l.contains c = true → (l.takeWhile (· != c)).length < l.length
  | [], h => by cases h
  | x :: l, h => by
    rw [List.takeWhile_cons]
    by_cases e : x = c
    · subst e; simp
    · have e3 : (x != c) = true := by simpa using e
      rw [List.contains_cons] at h
      have e1 : (c == x) = false := by simpa using fun h : c = x => e h.symm
      rw [e1, Bool.false_or] at h
      rw [e3]
      have := has_lt h
      simp only [if_true, List.length_cons]; omega
theorem cut_eq (c : UInt8) (l : List UInt8) (hb : l.length ≤ 2 ^ 60) : strings_Cut N l [c] = some (cutS c l) := by
  unfold strings_Cut internal_stringslite_Cut internal_stringslite_Index cutS
  have hk : ∀ k : Bool → Option Int, (if ((([c] : List UInt8).length : Int) == 0) = true then k true else k ([c] == l)) = k ([c] == l) := fun k => rfl
  have hI : (joinK (fun j1 : Bool => if j1 = true then some (0 : Int) else if ((([c] : List UInt8).length : Int) == 1) = true then Option.bind (idx [c] 0) fun x5 => Option.bind (internal_stringslite_IndexByte N l (bord x5)) fun y6 => some y6 else if decide ((([c] : List UInt8).length : Int) ≥ (l.length : Int)) = true then some (-1) else none) fun k2 => if ((([c] : List UInt8).length : Int) == 0) = true then k2 true else k2 ([c] == l)) = some (Go.Lib.indexByte l c) := by
    refine (join_to (a := [c] == l) fun k => rfl).trans ?_
    by_cases h : ([c] == l) = true
    · have : l = [c] := by have := beq_iff_eq.1 h; exact this.symm
      subst this
      simp [Go.Lib.indexByte]
    · rw [if_neg h, if_pos (by rfl), show idx [c] 0 = some c from rfl, Option.bind_some]
      unfold internal_stringslite_IndexByte
      rw [bchr_bord]; rfl
  rw [hI, Option.bind_some, index_eq]
  by_cases h : l.contains c = true
  · have hlt := has_lt h
    simp only [h, if_true]
    generalize hn : (l.takeWhile (· != c)).length = n at *
    have w : wr .i64 ((n : Int) + (([c] : List UInt8).length : Int)) = ((n + 1 : Nat) : Int) := by rw [wr_i64 (by simp <;> omega)]; simp
    rw [if_pos (by simp), show (0 : Int) = ((0 : Nat) : Int) from rfl, sub_nat l 0 n (by omega) (by omega), Option.bind_some, w, sub_nat l (n + 1) l.length (by omega) (by omega), Option.bind_some, Option.bind_some]
    rw [List.drop_zero, Nat.sub_zero, ← hn, take_while, List.take_of_length_le (by simp), ← List.drop_drop, while_drop]
  · rw [if_neg h, if_neg h, if_neg (by decide), Option.bind_some]
theorem beq_bord (x c : UInt8) : (bord x == bord c) = (x == c) := by
  by_cases h : x = c
  · subst h; simp
  · have : ¬ x.toNat = c.toNat := fun e => h (UInt8.toNat_inj.1 e)
    have h2 : (x == c) = false := by simpa using h
    rw [h2]; simp only [bord, beq_eq_false_iff_ne, ne_eq]; omega
theorem sub_tail {α : Type} (x : α) (l : List α) : sub (x :: l) 1 (((x :: l).length : Nat) : Int) = some l := by
  have := sub_nat (x :: l) 1 (x :: l).length (by simp) (Nat.le_refl _)
  rw [show (1 : Int) = ((1 : Nat) : Int) from rfl, this]
  simp
theorem trimL_loop (c : UInt8) (k2 : List UInt8 → Option (List UInt8)) : ∀ (l : List UInt8) (k : Nat), l.length < k → strings_trimLeftByte_L1 N (bord c) k2 k l = k2 (l.dropWhile (· == c))
  | [], k + 1, _ => by rw [strings_trimLeftByte_L1, joinK_eq]; rfl
  | x :: l, k + 1, h => by
    simp only [List.length_cons] at h
    rw [strings_trimLeftByte_L1, joinK_eq, if_pos (by simp <;> omega), show idx (x :: l) 0 = some x from rfl, Option.bind_some, beq_bord, List.dropWhile_cons]
    try dsimp only
    cases x == c
    · rfl
    · rw [if_pos rfl, sub_tail, Option.bind_some, trimL_loop c k2 l k (by omega)]; rfl
theorem trimL_eq (c : UInt8) (l : List UInt8) (hc : c.toNat < 128) (hN : l.length < N) : strings_TrimLeft N l [c] = some (l.dropWhile (· == c)) := by
  unfold strings_TrimLeft
  refine (join_to (a := l == []) fun k => ?_).trans ?_
  · cases l == [] <;> rfl
  try dsimp only
  by_cases h : l = []
  · subst h; rfl
  · rw [if_neg (by simpa using h)]
    have : (bord c < 128) := by simp only [bord]; omega
    refine (join_to (a := true) fun k => ?_).trans ?_
    · rw [if_pos (by rfl), show idx [c] 0 = some c from rfl, Option.bind_some, decide_eq_true this]
    try dsimp only
    rw [if_pos rfl, show idx [c] 0 = some c from rfl, Option.bind_some]
    unfold strings_trimLeftByte
    rw [joinK_eq, trimL_loop c _ l N hN]; rfl
/-- the text without some bytes at its end -/
def trimE (p : UInt8 → Bool) (l : List UInt8) : List UInt8 := (l.reverse.dropWhile p).reverse
theorem trimE_snoc (p : UInt8 → Bool) (l : List UInt8) (x : UInt8) : trimE p (l ++ [x]) = if p x = true then trimE p l else l ++ [x] := by
  unfold trimE
  rw [List.reverse_append, List.reverse_cons, List.reverse_nil, List.nil_append, List.singleton_append, List.dropWhile_cons]
  split <;> simp
theorem trimE_le (p : UInt8 → Bool) (l : List UInt8) : (trimE p l).length ≤ l.length := by
  unfold trimE
  have := (List.dropWhile_sublist p (l := l.reverse)).length_le
  simpa using this
theorem sub_init {α : Type} (l : List α) (x : α) (hb : l.length ≤ 2 ^ 60) : sub (l ++ [x]) 0 (wr .i64 ((((l ++ [x]).length : Nat) : Int) - 1)) = some l := by
  rw [wr_i64 (by simp <;> omega), show (((l ++ [x]).length : Nat) : Int) - 1 = (l.length : Int) by simp, show (0 : Int) = ((0 : Nat) : Int) from rfl, sub_nat _ 0 l.length (by omega) (by simp)]
  simp
theorem idx_last {α : Type} (l : List α) (x : α) (hb : l.length ≤ 2 ^ 60) : idx (l ++ [x]) (wr .i64 ((((l ++ [x]).length : Nat) : Int) - 1)) = some x := by
  rw [wr_i64 (by simp <;> omega), show (((l ++ [x]).length : Nat) : Int) - 1 = (l.length : Int) by simp, idx_nat]
  simp
theorem trimR_loop (c : UInt8) (k2 : List UInt8 → Option (List UInt8)) : ∀ (n : Nat) (l : List UInt8), l.length = n → n ≤ 2 ^ 60 → ∀ k : Nat, n < k → strings_trimRightByte_L1 N (bord c) k2 k l = k2 (trimE (· == c) l)
  | 0, l, hl, hb, k + 1, _ => by
    have : l = [] := List.length_eq_zero_iff.1 hl
    subst this
    rw [strings_trimRightByte_L1, joinK_eq]; rfl
  | n + 1, l, hl, hb, k + 1, h => by
    obtain ⟨l', x, rfl⟩ : ∃ l' x, l = l' ++ [x] := by
      have hne : l ≠ [] := fun e => by subst e; simp at hl
      exact ⟨l.dropLast, l.getLast hne, (List.dropLast_concat_getLast hne).symm⟩
    have hl' : l'.length = n := by simpa using hl
    rw [strings_trimRightByte_L1, joinK_eq, if_pos (by simp <;> omega), idx_last l' x (by omega), Option.bind_some, beq_bord, trimE_snoc]
    try dsimp only
    cases x == c
    · rfl
    · rw [if_pos rfl, if_pos rfl, sub_init l' x (by omega), Option.bind_some, trimR_loop c k2 n l' hl' (by omega) k (by omega)]
theorem trimR_eq (c : UInt8) (l : List UInt8) (hc : c.toNat < 128) (hb : l.length ≤ 2 ^ 60) (hN : l.length < N) : strings_TrimRight N l [c] = some (trimE (· == c) l) := by
  unfold strings_TrimRight
  refine (join_to (a := l == []) fun k => ?_).trans ?_
  · cases l == [] <;> rfl
  try dsimp only
  by_cases h : l = []
  · subst h; rfl
  · rw [if_neg (by simpa using h)]
    have : (bord c < 128) := by simp only [bord]; omega
    refine (join_to (a := true) fun k => ?_).trans ?_
    · rw [if_pos (by rfl), show idx [c] 0 = some c from rfl, Option.bind_some, decide_eq_true this]
    try dsimp only
    rw [if_pos rfl, show idx [c] 0 = some c from rfl, Option.bind_some]
    unfold strings_trimRightByte
    rw [joinK_eq, trimR_loop c _ _ l rfl hb N hN]; rfl
/-- a table of the bytes of a set -/
def IsSet (as : List Bool) (set : List UInt8) : Prop := as.length = 256 ∧ ∀ c : UInt8, as[c.toNat]? = some (set.contains c)
theorem set_loop (k2 : List Bool → Option (List Bool × Bool)) (done : List UInt8) : ∀ (l : List UInt8) (done : List UInt8) (bn : List Bool), (∀ c ∈ l, c.toNat < 128) → IsSet bn done → ∃ as, strings_makeASCIISet_L1 N k2 l bn = k2 as ∧ IsSet as (done ++ l)
  | [], done, bn, hl, hs => ⟨bn, by rw [strings_makeASCIISet_L1], by simpa using hs⟩
  | x :: l, done, bn, hl, hs => by
    have hx := hl x (by simp)
    have c1 : ¬ bord x ≥ 128 := by simp only [bord]; omega
    obtain ⟨as, h1, h2⟩ := set_loop k2 done l (done ++ [x]) (bn.set x.toNat true) (fun c hc => hl c (by simp [hc])) ⟨by simp [hs.1], fun c => by
      rw [List.getElem?_set]
      by_cases e : x.toNat = c.toNat
      · have : x = c := UInt8.toNat_inj.1 e
        subst this
        rw [if_pos rfl, if_pos (by rw [hs.1]; exact x.toNat_lt)]
        simp
      · rw [if_neg e, hs.2 c]
        have : ¬ c = x := fun h => e (by rw [h])
        simp [this]⟩
    refine ⟨as, ?_, by simpa using h2⟩
    rw [strings_makeASCIISet_L1, if_neg (by simpa using c1), grd_true (by simp only [bord]; omega), grd_true (by rw [hs.1]; simp only [bord, Int.toNat_natCast]; omega)]
    exact h1
theorem mkset_eq (set : List UInt8) (hl : ∀ c ∈ set, c.toNat < 128) (hb : set.length ≤ 1000) : ∃ as, strings_makeASCIISet N set = some (as, true) ∧ IsSet as set := by
  unfold strings_makeASCIISet
  rw [joinK_eq, grd_true (by unfold fitsS; omega)]
  obtain ⟨as, h1, h2⟩ := set_loop (N := N) (fun j1 => grd (j1.length = 256) (some (j1, true))) [] set [] (repB 256) hl ⟨repB_len, fun c => by
    have := c.toNat_lt
    rw [repB, List.getElem?_replicate, if_pos (by omega)]; rfl⟩
  exact ⟨as, by rw [h1, grd_true h2.1], h2⟩
theorem contains_eq {as : List Bool} {set : List UInt8} (h : IsSet as set) (c : UInt8) : strings_asciiSet_contains N as (bord c) = some (set.contains c, as) := by
  have := c.toNat_lt
  unfold strings_asciiSet_contains
  rw [grd_true (by simp only [bord]; omega), bord_nat, idx_nat, h.2 c]; rfl
theorem trimS_loop (k2 : List UInt8 × List Bool → Option (List UInt8 × List Bool)) {as : List Bool} {set : List UInt8} (hs : IsSet as set) : ∀ (l : List UInt8) (k : Nat), l.length < k → strings_trimLeftASCII_L1 N k2 k l as = k2 (l.dropWhile set.contains, as)
  | [], k + 1, _ => by rw [strings_trimLeftASCII_L1]; rfl
  | x :: l, k + 1, h => by
    simp only [List.length_cons] at h
    rw [strings_trimLeftASCII_L1, if_pos (by simp <;> omega), show idx (x :: l) 0 = some x from rfl, Option.bind_some, contains_eq hs, Option.bind_some, List.dropWhile_cons]
    try dsimp only
    cases set.contains x
    · rfl
    · rw [if_pos rfl, sub_tail, Option.bind_some, trimS_loop k2 hs l k (by omega)]; rfl
theorem trimLS_eq (l set : List UInt8) (h2 : 2 ≤ set.length) (hs : set.length ≤ 1000) (hl : ∀ c ∈ set, c.toNat < 128) (hN : l.length < N) : strings_TrimLeft N l set = some (l.dropWhile set.contains) := by
  unfold strings_TrimLeft
  have hne : set ≠ [] := fun e => by subst e; simp at h2
  refine (join_to (a := l == []) fun k => ?_).trans ?_
  · have : (set == []) = false := by simpa using hne
    rw [this]
    cases l == [] <;> rfl
  try dsimp only
  by_cases h : l = []
  · subst h; rfl
  · rw [if_neg (by simpa using h)]
    refine (join_to (a := false) fun k => ?_).trans ?_
    · rw [if_neg (by simp <;> omega)]
    try dsimp only
    obtain ⟨as, e1, e2⟩ := mkset_eq (N := N) set hl hs
    rw [if_neg (by decide), e1, Option.bind_some, grd_true repB_len, grd_true e2.1, if_pos rfl]
    unfold strings_trimLeftASCII
    rw [joinK_eq, trimS_loop _ e2 l N hN]; rfl
theorem pre1_eq (c : UInt8) (l : List UInt8) : strings_HasPrefix N l [c] = some (headB [c] l) := by
  unfold strings_HasPrefix internal_stringslite_HasPrefix
  cases l with
  | nil => rfl
  | cons x l =>
    rw [if_pos (by simp <;> omega), show sub (x :: l) 0 ((([c] : List UInt8).length : Nat) : Int) = some [x] by
      rw [show (0 : Int) = ((0 : Nat) : Int) from rfl, sub_nat _ 0 _ (by omega) (by simp)]; rfl, Option.bind_some, Option.bind_some]
    unfold headB
    by_cases h : x = c
    · subst h; simp
    · have h' : ¬ c = x := fun e => h e.symm
      simp [h]
/-- small letters -/
def lowN (n : Nat) : Nat := if 65 ≤ n ∧ n ≤ 90 then n + 32 else n
def lowB (c : UInt8) : UInt8 := UInt8.ofNat (lowN c.toNat)
theorem low_loop (l : List UInt8) (hb : l.length ≤ 2 ^ 60) (k2 : List Int → Option (List UInt8)) : ∀ (t pre : List UInt8), l = pre ++ t → ascii_Lower_L1 N l k2 t (pre.length : Int) (List.map bord (pre.map lowB) ++ List.map bord t) = k2 (List.map bord (l.map lowB))
  | [], pre, h => by rw [ascii_Lower_L1, h]; simp
  | c :: t, pre, h => by
    have hlen : pre.length < l.length := by rw [h]; simp
    have hc := c.toNat_lt
    rw [ascii_Lower_L1]
    refine (join_to (a := List.map bord (pre.map lowB) ++ (bord (lowB c) :: List.map bord t)) fun k7 => ?_).trans ?_
    · rw [grd_true (by omega), List.map_cons]
      have hi : idx (List.map bord (pre.map lowB) ++ bord c :: List.map bord t) (pre.length : Int) = some (bord c) := by
        have := idx_mid (List.map bord (pre.map lowB)) (List.map bord t) (bord c)
        simpa using this
      rw [hi, Option.bind_some]
      refine (join_to (a := decide (65 ≤ c.toNat ∧ c.toNat ≤ 90)) fun k12 => ?_).trans ?_
      · by_cases h1 : 65 ≤ c.toNat
        · have : (65 : Int) ≤ bord c := by simp only [bord]; omega
          rw [if_pos (decide_eq_true this)]
          congr 1
          simp only [bord, h1, true_and]
          congr 1; simp only [eq_iff_iff]; omega
        · have : ¬ (65 : Int) ≤ bord c := by simp only [bord]; omega
          rw [if_neg (by simpa using this), decide_eq_false (fun h => h1 h.1)]
      try dsimp only
      by_cases h1 : 65 ≤ c.toNat ∧ c.toNat ≤ 90
      · rw [if_pos (decide_eq_true h1), grd_true (by simp <;> omega)]
        have e : lowB c = UInt8.ofNat (c.toNat + 32) := by unfold lowB lowN; rw [if_pos h1]
        have e2 : bord (lowB c) = wr .u8 (bord c + 32) := by
          rw [e, wr_u8 (by simp only [bord]; omega)]
          simp only [bord]
          rw [toNat_ofNat (by omega)]; simp
        rw [← e2]
        congr 1
        simp
      · rw [if_neg (by simpa using h1)]
        have e : lowB c = c := by unfold lowB lowN; rw [if_neg h1]; simp
        rw [e]
    · try dsimp only
      have := low_loop l hb k2 t (pre ++ [c]) (by rw [h]; simp)
      rw [← len_snoc] at this
      rw [← this]
      simp
theorem lower_eq (l : List UInt8) (hb : l.length ≤ 2 ^ 60) : ascii_Lower N l = some (l.map lowB) := by
  unfold ascii_Lower
  rw [joinK_eq, grd_true (by unfold fitsS; omega)]
  have := low_loop (N := N) l hb (fun j1 => grd (l.length ≤ j1.length ∧ fitsS l.length) (some (List.map bchr (List.take l.length j1)))) l [] rfl
  simp only [List.map_nil, List.nil_append, List.length_nil] at this
  rw [show (0 : Int) = ((0 : Nat) : Int) from rfl, this, grd_true (by unfold fitsS; simp; omega), List.take_of_length_le (by simp)]
  congr 1
  induction l with
  | nil => rfl
  | cons c l ih => simp [bchr_bord]
end
end Go.VM
