/- Quoting: the program's and the reference's writers of strings are the same. -/
import Derived.Test.YtmdjjhakfoenpaaDoorNext
set_option linter.unusedVariables false
set_option linter.unusedSimpArgs false
namespace Go.VM
section
variable {N : Nat}
/-- how many code points a text has, none if it is no text -/
def countS : Nat → List UInt8 → Option Nat
  | 0, _ => none
  | _ + 1, [] => some 0
  | k + 1, c :: t =>
    match decB (c :: t) with
    | some (_, n) => (countS k ((c :: t).drop n)).map (· + 1)
    | none => none
theorem countS_le : ∀ (k : Nat) (t : List UInt8) (m : Nat), countS k t = some m → m ≤ t.length
  | 0, t, m, h => by cases h
  | k + 1, [], m, h => by simp only [countS, Option.some.injEq] at h; omega
  | k + 1, c :: t, m, h => by
    rw [countS] at h
    cases hd : decB (c :: t) with
    | none => rw [hd] at h; cases h
    | some p =>
      obtain ⟨r, n⟩ := p
      obtain ⟨e1, e2, _⟩ := decB_len hd
      rw [hd] at h
      simp only [Option.map_eq_some_iff] at h
      obtain ⟨m', h, rfl⟩ := h
      have := countS_le k _ _ h
      rw [List.length_drop] at this
      omega
def countR (n : Nat) : Option Nat → Int
  | some m => ((n + m : Nat) : Int)
  | none => -1
section
variable {l : List UInt8}
theorem pcount_loop (hb : l.length ≤ 2 ^ 50) (hN : 5 ≤ N) : ∀ (k : Nat) (t : List UInt8) (i n : Nat), l.drop i = t → i ≤ l.length → t.length < k → n ≤ i → utf8text_Count_L1 N l (fun j => some j) k (n : Int) (i : Int) = some (countR n (countS k t))
  | 0, t, i, n, ht, hi, hk, hn => by omega
  | k + 1, [], i, n, ht, hi, hk, hn => by
    have hl := len_drop ht hi
    simp only [List.length_nil] at hl
    have c : ¬ (i : Int) < (l.length : Int) := by omega
    rw [utf8text_Count_L1, if_neg (by simpa using c)]; rfl
  | k + 1, c :: t, i, n, ht, hi, hk, hn => by
    have hl := len_drop ht hi
    simp only [List.length_cons] at hl hk
    have c0 : (i : Int) < (l.length : Int) := by omega
    rw [utf8text_Count_L1, if_pos (decide_eq_true c0), pudec_eq hN (by omega) (by omega), Option.bind_some, ht, countS]
    cases hd : decB (c :: t) with
    | none => rfl
    | some p =>
      obtain ⟨r, m⟩ := p
      obtain ⟨e1, e2, _⟩ := decB_len hd
      simp only [List.length_cons] at e2
      rw [udecR_some, if_neg (by simp), wr_i64 (by omega), show (n : Int) + 1 = ((n + 1 : Nat) : Int) by simp]
      rw [pcount_loop hb hN k _ (i + m) (n + 1) (by rw [← List.drop_drop, ht]) (by omega) (by rw [List.length_drop, List.length_cons]; omega) (by omega)]
      simp only []
      cases countS k ((c :: t).drop m) with
      | none => rfl
      | some q => simp only [countR, Option.map_some]; congr 1; omega
theorem rcount_loop (hb : l.length ≤ 2 ^ 50) (hN : 5 ≤ N) : ∀ (k : Nat) (t : List UInt8) (i n : Nat), l.drop i = t → i ≤ l.length → t.length < k → n ≤ i → ref02_Count_L1 N l (fun j => some j) k (n : Int) (i : Int) = some (countR n (countS k t))
  | 0, t, i, n, ht, hi, hk, hn => by omega
  | k + 1, [], i, n, ht, hi, hk, hn => by
    have hl := len_drop ht hi
    simp only [List.length_nil] at hl
    have c : ¬ (i : Int) < (l.length : Int) := by omega
    rw [ref02_Count_L1, if_neg (by simpa using c)]; rfl
  | k + 1, c :: t, i, n, ht, hi, hk, hn => by
    have hl := len_drop ht hi
    simp only [List.length_cons] at hl hk
    have c0 : (i : Int) < (l.length : Int) := by omega
    rw [ref02_Count_L1, if_pos (decide_eq_true c0), rudec_eq hN (by omega) (by omega), Option.bind_some, ht, countS]
    cases hd : decB (c :: t) with
    | none => rfl
    | some p =>
      obtain ⟨r, m⟩ := p
      obtain ⟨e1, e2, _⟩ := decB_len hd
      simp only [List.length_cons] at e2
      rw [udecR_some, if_neg (by simp), wr_i64 (by omega), show (n : Int) + 1 = ((n + 1 : Nat) : Int) by simp]
      rw [rcount_loop hb hN k _ (i + m) (n + 1) (by rw [← List.drop_drop, ht]) (by omega) (by rw [List.length_drop, List.length_cons]; omega) (by omega)]
      simp only []
      cases countS k ((c :: t).drop m) with
      | none => rfl
      | some q => simp only [countR, Option.map_some]; congr 1; omega
theorem pvalid_eq (hb : l.length ≤ 2 ^ 50) (hN : l.length + 5 ≤ N) : utf8text_Valid N l = some (countS N l).isSome := by
  unfold utf8text_Valid utf8text_Count
  rw [joinK_eq]
  have := pcount_loop (N := N) hb (by omega) N l 0 0 (by simp) (by omega) (by omega) (by omega)
  rw [show (0 : Int) = ((0 : Nat) : Int) from rfl, this, Option.bind_some]
  cases countS N l with
  | none => rfl
  | some q => simp [countR]
theorem rvalid_eq (hb : l.length ≤ 2 ^ 50) (hN : l.length + 5 ≤ N) : ref02_Valid N l = some (countS N l).isSome := by
  unfold ref02_Valid ref02_Count
  rw [joinK_eq]
  have := rcount_loop (N := N) hb (by omega) N l 0 0 (by simp) (by omega) (by omega) (by omega)
  rw [show (0 : Int) = ((0 : Nat) : Int) from rfl, this, Option.bind_some]
  cases countS N l with
  | none => rfl
  | some q => simp [countR]
end
def hexT : List UInt8 := [48, 49, 50, 51, 52, 53, 54, 55, 56, 57, 97, 98, 99, 100, 101, 102]
/-- how a byte is written -/
def qN (n : Nat) : List UInt8 :=
  if n = 34 then [92, 34] else if n = 92 then [92, 92] else if n = 8 then [92, 98] else if n = 12 then [92, 102] else if n = 10 then [92, 110] else if n = 13 then [92, 114] else if n = 9 then [92, 116]
  else if n < 32 then [92, 117, 48, 48, hexT.getD (n / 16) 0, hexT.getD (n % 16) 0] else [UInt8.ofNat n]
def qB (c : UInt8) : List UInt8 := qN c.toNat
theorem qB_len (c : UInt8) : 1 ≤ (qB c).length ∧ (qB c).length ≤ 6 := by
  unfold qB qN
  repeat' split
  all_goals simp
/-- what the program's step writes -/
def gP (n : Nat) : Option (List Int) :=
  if decide (Go.Lib.indexByte ([34, 92, 8, 12, 10, 13, 9] : List UInt8) (UInt8.ofNat n) ≥ 0) = true then (idx ([34, 92, 98, 102, 110, 114, 116] : List UInt8) (Go.Lib.indexByte ([34, 92, 8, 12, 10, 13, 9] : List UInt8) (UInt8.ofNat n))).map fun x => [92, bord x]
  else if decide ((n : Int) < 32) = true then (idx hexT (shrI .u8 (n : Int) 4)).bind fun x => (idx hexT (bandI .u8 (n : Int) 15)).map fun y => [92, 117, 48, 48, bord x, bord y]
  else some [(n : Int)]
theorem gP_eq (c : UInt8) : gP c.toNat = some ((qB c).map bord) := bytes_eq (f := gP) (g := fun n => some ((qN n).map bord)) (by kernel_rfl) c
theorem pquote_step (k4 : List Int → Option (List UInt8 × Int)) (c : UInt8) (xs : List UInt8) (s : List Int) (hs : s.length ≤ 2 ^ 40) : token_Quote_L1 N k4 (c :: xs) s = token_Quote_L1 N k4 xs (s ++ (qB c).map bord) := by
  have key := gP_eq c
  unfold gP at key
  simp only [UInt8.ofNat_toNat] at key
  rw [token_Quote_L1]
  simp only [joinK_eq]
  rw [sindex_eq, Option.bind_some]
  by_cases h1 : Go.Lib.indexByte ([34, 92, 8, 12, 10, 13, 9] : List UInt8) c ≥ 0
  · rw [if_pos (decide_eq_true h1)] at key ⊢
    rw [Option.map_eq_some_iff] at key
    obtain ⟨x, hx, he⟩ := key
    rw [hx, Option.bind_some, grd_true (by unfold fitsA; omega), ← he]
  · rw [if_neg (by simpa using h1)] at key ⊢
    by_cases h2 : bord c < 32
    · rw [← bord_nat, if_pos (decide_eq_true h2)] at key
      rw [if_pos (decide_eq_true h2)]
      rw [Option.bind_eq_some_iff] at key
      obtain ⟨x, hx, key⟩ := key
      rw [Option.map_eq_some_iff] at key
      obtain ⟨y, hy, he⟩ := key
      rw [show ([48, 49, 50, 51, 52, 53, 54, 55, 56, 57, 97, 98, 99, 100, 101, 102] : List UInt8) = hexT from rfl, hx, Option.bind_some, hy, Option.bind_some, grd_true (by unfold fitsA; omega), ← he]
    · rw [← bord_nat, if_neg (by simpa using h2)] at key
      rw [if_neg (by simpa using h2)]
      simp only [Option.some.injEq] at key
      rw [grd_true (by unfold fitsA; omega), ← key]
/-- what the reference's step writes -/
def gR (n : Nat) : Option (List Int) :=
  if ((n : Int) == 34 || (n : Int) == 92) = true then some [92, (n : Int)] else if ((n : Int) == 8) = true then some [92, 98] else if ((n : Int) == 12) = true then some [92, 102] else if ((n : Int) == 10) = true then some [92, 110]
  else if ((n : Int) == 13) = true then some [92, 114] else if ((n : Int) == 9) = true then some [92, 116]
  else if decide ((n : Int) < 32) = true then (idx hexT (wr .u8 ((n : Int).tdiv 16))).bind fun x => (idx hexT ((n : Int).tmod 16)).map fun y => [92, 117, 48, 48, bord x, bord y]
  else some [(n : Int)]
theorem gR_eq (c : UInt8) : gR c.toNat = some ((qB c).map bord) := bytes_eq (f := gR) (g := fun n => some ((qN n).map bord)) (by kernel_rfl) c
theorem rquote_step (k4 : List Int → Option (List UInt8 × Int)) (c : UInt8) (xs : List UInt8) (s : List Int) (hs : s.length ≤ 2 ^ 40) : ref13_Quote_L1 N k4 (c :: xs) s = ref13_Quote_L1 N k4 xs (s ++ (qB c).map bord) := by
  have key := gR_eq c
  unfold gR at key
  rw [ref13_Quote_L1]
  refine (join_to (a := s ++ (qB c).map bord) fun k => ?_).trans rfl
  refine (join_to (a := (bord c == 34) || (bord c == 92)) fun k13 => ?_).trans ?_
  · cases bord c == 34 <;> rfl
  try dsimp only
  rw [bord_nat]
  have f : ∀ {w : List Int}, some w = some ((qB c).map bord) → ∀ m : Nat, m ≤ 10 → grd (fitsA (s.length + m) 1) (k (s ++ w)) = k (s ++ (qB c).map bord) := by
    intro w hw m hm
    rw [grd_true (by unfold fitsA; omega), Option.some.inj hw]
  by_cases h1 : ((c.toNat : Int) == 34 || (c.toNat : Int) == 92) = true
  · rw [if_pos h1] at key ⊢; exact f key 2 (by omega)
  rw [if_neg h1] at key ⊢
  by_cases h2 : ((c.toNat : Int) == 8) = true
  · rw [if_pos h2] at key ⊢; exact f key 2 (by omega)
  rw [if_neg h2] at key ⊢
  by_cases h3 : ((c.toNat : Int) == 12) = true
  · rw [if_pos h3] at key ⊢; exact f key 2 (by omega)
  rw [if_neg h3] at key ⊢
  by_cases h4 : ((c.toNat : Int) == 10) = true
  · rw [if_pos h4] at key ⊢; exact f key 2 (by omega)
  rw [if_neg h4] at key ⊢
  by_cases h5 : ((c.toNat : Int) == 13) = true
  · rw [if_pos h5] at key ⊢; exact f key 2 (by omega)
  rw [if_neg h5] at key ⊢
  by_cases h6 : ((c.toNat : Int) == 9) = true
  · rw [if_pos h6] at key ⊢; exact f key 2 (by omega)
  rw [if_neg h6] at key ⊢
  by_cases h7 : decide ((c.toNat : Int) < 32) = true
  · rw [if_pos h7] at key ⊢
    rw [Option.bind_eq_some_iff] at key
    obtain ⟨x, hx, key⟩ := key
    rw [Option.map_eq_some_iff] at key
    obtain ⟨y, hy, he⟩ := key
    rw [show ([48, 49, 50, 51, 52, 53, 54, 55, 56, 57, 97, 98, 99, 100, 101, 102] : List UInt8) = hexT from rfl, hx, Option.bind_some, hy, Option.bind_some]
    exact f (congrArg some he) 6 (by omega)
  · rw [if_neg h7] at key ⊢; exact f key 1 (by omega)
theorem pquote_loop (k4 : List Int → Option (List UInt8 × Int)) : ∀ (l : List UInt8) (s : List Int), s.length + 6 * l.length ≤ 2 ^ 40 → token_Quote_L1 N k4 l s = k4 (s ++ (l.flatMap qB).map bord)
  | [], s, h => by rw [token_Quote_L1]; simp
  | c :: l, s, h => by
    have hq := qB_len c
    simp only [List.length_cons] at h
    rw [pquote_step k4 c l s (by omega), pquote_loop k4 l _ (by rw [List.length_append, List.length_map]; omega)]
    rw [List.flatMap_cons, List.map_append, List.append_assoc]
theorem rquote_loop (k4 : List Int → Option (List UInt8 × Int)) : ∀ (l : List UInt8) (s : List Int), s.length + 6 * l.length ≤ 2 ^ 40 → ref13_Quote_L1 N k4 l s = k4 (s ++ (l.flatMap qB).map bord)
  | [], s, h => by rw [ref13_Quote_L1]; simp
  | c :: l, s, h => by
    have hq := qB_len c
    simp only [List.length_cons] at h
    rw [rquote_step k4 c l s (by omega), rquote_loop k4 l _ (by rw [List.length_append, List.length_map]; omega)]
    rw [List.flatMap_cons, List.map_append, List.append_assoc]
theorem bchr_bords : ∀ l : List UInt8, List.map bchr (List.map bord l) = l
  | [] => rfl
  | c :: l => by rw [List.map_cons, List.map_cons, bchr_bord, bchr_bords l]
theorem q_len : ∀ l : List UInt8, (l.flatMap qB).length ≤ 6 * l.length
  | [] => by simp
  | c :: l => by
    have := q_len l
    have := qB_len c
    rw [List.flatMap_cons, List.length_append, List.length_cons]; omega
/-- the text of a string -/
def quoteS (l : List UInt8) : List UInt8 := 34 :: (l.flatMap qB ++ [34])
def quoteR (N : Nat) (l : List UInt8) : List UInt8 × Int := if l.length > 1048576 then ([], 5) else if (countS N l).isSome = true then (quoteS l, 0) else ([], 7)
theorem quote_end (l : List UInt8) (h : l.length ≤ 1048576) : (grd (fitsA (([34] ++ (l.flatMap qB).map bord : List Int).length + 1) 1) (some ((List.map bchr (([34] ++ (l.flatMap qB).map bord) ++ [34])), (0 : Int)))) = some (quoteS l, 0) := by
  have := q_len l
  rw [grd_true (by unfold fitsA; simp only [List.length_append, List.length_map, List.length_cons, List.length_nil]; omega)]
  rw [List.map_append, List.map_append, bchr_bords]; rfl
theorem pquote_eq (l : List UInt8) (hN : l.length + 5 ≤ N ∨ 1048576 < l.length) : token_Quote N l = some (quoteR N l) := by
  unfold token_Quote quoteR
  by_cases h : l.length > 1048576
  · have : (l.length : Int) > 1048576 := by omega
    rw [if_pos (decide_eq_true this), if_pos h]
  · have h' : ¬ (l.length : Int) > 1048576 := by omega
    rw [if_neg (by simpa using h'), if_neg h, pvalid_eq (by omega) (by omega), Option.bind_some]
    by_cases hv : (countS N l).isSome = true
    · rw [if_pos hv, if_pos hv, joinK_eq, grd_true (by unfold fitsS; omega), pquote_loop _ l [34] (by simp; omega)]
      exact quote_end l (by omega)
    · rw [if_neg hv, if_neg hv]
theorem rquote_eq (l : List UInt8) (hN : l.length + 5 ≤ N ∨ 1048576 < l.length) : ref13_Quote N l = some (quoteR N l) := by
  unfold ref13_Quote quoteR
  by_cases h : l.length > 1048576
  · have : (l.length : Int) > 1048576 := by omega
    rw [if_pos (decide_eq_true this), if_pos h]
  · have h' : ¬ (l.length : Int) > 1048576 := by omega
    rw [if_neg (by simpa using h'), if_neg h, rvalid_eq (by omega) (by omega), Option.bind_some]
    by_cases hv : (countS N l).isSome = true
    · rw [if_pos hv, if_pos hv, joinK_eq, grd_true (by unfold fitsS; omega), rquote_loop _ l [34] (by simp; omega)]
      exact quote_end l (by omega)
    · rw [if_neg hv, if_neg hv]
end
end Go.VM
