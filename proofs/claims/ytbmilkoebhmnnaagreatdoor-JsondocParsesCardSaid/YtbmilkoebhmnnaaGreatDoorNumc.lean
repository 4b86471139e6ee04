/- Canonical numbers: the reference's, and when there is none. -/
import Derived.Test.YtbmilkoebhmnnaaGreatDoorNumb
set_option linter.unusedVariables false
set_option linter.unusedSimpArgs false
namespace Go.VM
section
variable {N : Nat}
theorem rz_loop (k29 : List UInt8 → Option (List UInt8 × Int)) : ∀ (l : List UInt8) (k : Nat), l.length < k → ref13_Number_L1 N k29 k l = k29 (l.dropWhile (· == 48))
  | [], k + 1, _ => by rw [ref13_Number_L1, joinK_eq]; rfl
  | x :: l, k + 1, h => by
    simp only [List.length_cons] at h
    rw [ref13_Number_L1, joinK_eq, if_pos (by simp <;> omega), show idx (x :: l) 0 = some x from rfl, Option.bind_some, List.dropWhile_cons]
    try dsimp only
    rw [show (bord x == 48) = (x == 48) from beq_bord x 48]
    cases x == 48
    · rfl
    · rw [if_pos rfl, sub_tail, Option.bind_some, rz_loop k29 l k (by omega)]; rfl
theorem rt_loop (k40 : Int × List UInt8 → Option (List UInt8 × Int)) : ∀ (n : Nat) (l : List UInt8) (x : Int), l.length = n → n ≤ 2 ^ 50 → (∃ c r, l = c :: r ∧ (c == 48) = false) → -(2 ^ 60) ≤ x → x + n ≤ 2 ^ 60 → ∀ k : Nat, n < k → ref13_Number_L2 N k40 k x l = k40 (x + l.length - (trimE (· == 48) l).length, trimE (· == 48) l)
  | 0, l, x, hl, hb, ⟨c, r, e, hc⟩, h1, h3, k, hk => by rw [e] at hl; simp at hl
  | n + 1, l, x, hl, hb, hh, h1, h3, 0, hk => by omega
  | n + 1, l, x, hl, hb, hh, h1, h3, k + 1, hk => by
    obtain ⟨l', y, rfl⟩ : ∃ l' y, l = l' ++ [y] := by
      have hne : l ≠ [] := fun e => by subst e; simp at hl
      exact ⟨l.dropLast, l.getLast hne, (List.dropLast_concat_getLast hne).symm⟩
    have hl' : l'.length = n := by simpa using hl
    rw [ref13_Number_L2, idx_last l' y (by omega), Option.bind_some, trimE_snoc, show (bord y == 48) = (y == 48) from beq_bord y 48]
    by_cases hy : (y == 48) = true
    · rw [if_pos hy, if_pos hy, sub_init l' y (by omega), Option.bind_some, wr_i64 (by omega)]
      have hh' : ∃ c r, l' = c :: r ∧ (c == 48) = false := by
        obtain ⟨c, r, e, hc⟩ := hh
        cases l' with
        | nil =>
          simp only [List.nil_append, List.cons.injEq] at e
          rw [e.1, hc] at hy; cases hy
        | cons a l' =>
          simp only [List.cons_append, List.cons.injEq] at e
          exact ⟨a, l', rfl, by rw [e.1]; exact hc⟩
      rw [rt_loop k40 n l' (x + 1) hl' (by omega) hh' (by omega) (by omega) k (by omega)]
      congr 2
      simp only [List.length_append, List.length_cons, List.length_nil]; omega
    · rw [if_neg hy, if_neg hy]
      congr 2; omega
theorem rindex_loop (set : List UInt8) (hs : set.length ≤ 1000) (k2 : Unit → Option Int) (n : Int) (h : k2 () = some n) : ∀ (l : List UInt8) (i : Nat), ((i + l.length : Nat) : Int) = n → ref01_Index_L1 N set k2 l (i : Int) = some ((i + (l.takeWhile fun c => !set.contains c).length : Nat) : Int)
  | [], i, hn => by rw [ref01_Index_L1, h, ← hn]; simp
  | c :: l, i, hn => by
    rw [ref01_Index_L1, inC_eq _ _ hs, Option.bind_some, List.takeWhile_cons]
    cases hc : set.contains c
    · simp only [List.length_cons] at hn
      rw [if_neg (by decide), show (i : Int) + 1 = ((i + 1 : Nat) : Int) by simp, rindex_loop set hs k2 n h l (i + 1) (by rw [← hn]; congr 1; omega)]
      simp only [Bool.not_false, if_true, List.length_cons]; congr 2; omega
    · simp
theorem rindex_eq (l set : List UInt8) (hs : set.length ≤ 1000) (hb : l.length ≤ 2 ^ 60) : ref01_Index N l set = some (((l.takeWhile fun c => !set.contains c).length : Nat) : Int) := by
  unfold ref01_Index
  rw [joinK_eq, grd_true (by unfold fitsS; omega), show (0 : Int) = ((0 : Nat) : Int) from rfl, rindex_loop set hs _ _ rfl l 0 (by simp)]
  simp
theorem while_app {p : UInt8 → Bool} : ∀ {a b : List UInt8}, (∀ c ∈ a, p c = true) → (b = [] ∨ ∃ c r, b = c :: r ∧ p c = false) → (a ++ b).takeWhile p = a
  | [], b, _, hb => by
    rcases hb with rfl | ⟨c, r, rfl, hc⟩
    · rfl
    · rw [List.nil_append, List.takeWhile_cons, hc]; rfl
  | x :: a, b, ha, hb => by
    rw [List.cons_append, List.takeWhile_cons, ha x (by simp), if_pos rfl, while_app (fun c hc => ha c (by simp [hc])) hb]
section
variable {s sg W F FR P EX : List UInt8}
theorem mem_dig {l : List UInt8} (h : l.all digC = true) : ∀ c ∈ l, digC c = true := by simpa using h
theorem dig_two {c : UInt8} (h : digC c = true) : ([101, 69] : List UInt8).contains c = false := by
  have := bytes_eq (f := fun n => if (decide (48 ≤ n) && decide (n ≤ 57)) = true then ([101, 69] : List UInt8).contains (UInt8.ofNat n) else false) (g := fun _ => false) (by kernel_rfl) c
  simp only [UInt8.ofNat_toNat, show (decide (48 ≤ c.toNat) && decide (c.toNat ≤ 57)) = true from h, if_true] at this
  exact this
theorem dig_dot {c : UInt8} (h : digC c = true) : ([46] : List UInt8).contains c = false := by
  rw [one_of]
  have := dig_rng h
  have : ¬ c.toNat = (46 : UInt8).toNat := by show ¬ c.toNat = 46; omega
  simpa using this
theorem rnum_eq (h : NumP s sg W F FR P EX) (hn : numN s = s.length) (hb : s.length ≤ 2 ^ 48) (hN : s.length + 30 < N) : ref13_Number N s = some (canonS sg (W ++ F) (expV (2 ^ 30) P - F.length)) := by
  obtain ⟨l1, l2, l3⟩ := h.len
  have hne : s ≠ [] := by
    rw [h.eq]
    intro e
    have := List.append_eq_nil_iff.1 e
    have := List.append_eq_nil_iff.1 this.2
    exact h.Wn this.1
  unfold ref13_Number
  refine (join_to (a := false) fun k2 => ?_).trans ?_
  · rw [if_neg (by simpa using hne), rnumeral_eq s (by omega) (by omega), Option.bind_some, hn]; simp
  try dsimp only
  rw [if_neg (by decide)]
  have hhead : ∀ k8 : List UInt8 × List UInt8 → Option (List UInt8 × Int), (Option.bind (idx s 0) fun x11 => if (bord x11 == 45) = true then Option.bind (sub s 1 (s.length : Int)) fun x12 => k8 (x12, [45]) else k8 (s, [])) = k8 (W ++ (FR ++ EX), sg) := by
    intro k7
    rcases h.sg with e | e
    · have hs : s = W ++ (FR ++ EX) := by rw [h.eq, e]; rfl
      cases hW : W with
      | nil => exact absurd hW h.Wn
      | cons c W' =>
        have hc : digC c = true := by
          have := h.Wd
          rw [hW, List.all_cons, Bool.and_eq_true] at this
          exact this.1
        have hs2 : s = c :: (W' ++ (FR ++ EX)) := by rw [hs, hW]; rfl
        rw [hs2, show idx (c :: (W' ++ (FR ++ EX))) 0 = some c from rfl, Option.bind_some, bq45, one_of]
        have := dig_rng hc
        have : ¬ c.toNat = (45 : UInt8).toNat := by show ¬ c.toNat = 45; omega
        rw [if_neg (by simpa using this), e]; rfl
    · have hs2 : s = 45 :: (W ++ (FR ++ EX)) := by rw [h.eq, e]; rfl
      rw [hs2, show idx (45 :: (W ++ (FR ++ EX))) 0 = some 45 from rfl, Option.bind_some, if_pos (by rfl), sub_tail, Option.bind_some, e]
  refine (join_to (a := (W ++ (FR ++ EX), sg)) fun k8 => hhead k8).trans ?_
  try dsimp only
  have hWF : (W ++ (FR ++ EX)).takeWhile (fun c => !([101, 69] : List UInt8).contains c) = W ++ FR := by
    rw [← List.append_assoc]
    refine while_app (fun c hc => ?_) ?_
    · rcases List.mem_append.1 hc with hc | hc
      · rw [dig_two (mem_dig h.Wd c hc)]; rfl
      · rcases h.fr with ⟨e1, e2⟩ | e
        · rw [e1] at hc; cases hc
        · rw [e] at hc
          rcases List.mem_cons.1 hc with rfl | hc
          · rfl
          · rw [dig_two (mem_dig h.Fd c hc)]; rfl
    · rcases h.ex with ⟨e1, e2⟩ | e | e
      · exact .inl e1
      · exact .inr ⟨_, _, e, rfl⟩
      · exact .inr ⟨_, _, e, rfl⟩
  have hlen : (W ++ (FR ++ EX)).length = (W ++ FR).length + EX.length := by simp only [List.length_append]; omega
  rw [rindex_eq _ _ (by decide) (by simp; omega), Option.bind_some, hWF, wr_i64 (by simp; omega), show (((W ++ FR).length : Nat) : Int) + 1 = (((W ++ FR).length + 1 : Nat) : Int) by simp, rtail_eq, Option.bind_some]
  have hP : (W ++ (FR ++ EX)).drop ((W ++ FR).length + 1) = P := by
    rw [← List.append_assoc, List.drop_append, List.drop_of_length_le (by omega), List.nil_append, Nat.add_sub_cancel_left]
    rcases h.ex with ⟨e1, e2⟩ | e | e
    · rw [e1, e2]; rfl
    · rw [e]; rfl
    · rw [e]; rfl
  rw [hP, rexp_eq h.pw (by omega), Option.bind_some]
  have hsub : sub (W ++ (FR ++ EX)) 0 (((W ++ FR).length : Nat) : Int) = some (W ++ FR) := by
    rw [show (0 : Int) = ((0 : Nat) : Int) from rfl, sub_nat _ 0 _ (by omega) (by omega), ← List.append_assoc]
    simp only [List.drop_zero, Nat.sub_zero, List.take_left]
  rw [hsub, Option.bind_some]
  have hev : -(2 ^ 30 : Int) ≤ expV (2 ^ 30) P ∧ expV (2 ^ 30) P ≤ (2 ^ 30 : Int) := by
    unfold expV
    have : min (val10 0 (P.dropWhile ([43, 45] : List UInt8).contains)) (2 ^ 30) ≤ 2 ^ 30 := Nat.min_le_right _ _
    split <;> omega
  generalize expV (2 ^ 30) P = x at *
  have hdot : (W ++ FR).takeWhile (fun c => !([46] : List UInt8).contains c) = W := by
    refine while_app (fun c hc => ?_) ?_
    · rw [dig_dot (mem_dig h.Wd c hc)]; rfl
    · rcases h.fr with ⟨e1, e2⟩ | e
      · exact .inl e1
      · exact .inr ⟨_, _, e, rfl⟩
  refine (join_to (a := (x - (F.length : Int), W ++ F)) fun k21 => ?_).trans ?_
  · rw [rindex_eq _ _ (by decide) (by simp; omega), Option.bind_some, hdot]
    rcases h.fr with ⟨e1, e2⟩ | e
    · rw [e1, e2, List.append_nil, if_neg (by simp)]; simp
    · have hfl : FR.length = F.length + 1 := by rw [e]; simp
      have w1 : wr .i64 ((W.length : Int) + 1) = ((W.length + 1 : Nat) : Int) := by rw [wr_i64 (by omega)]; simp
      have s1 : sub (W ++ FR) 0 (W.length : Int) = some W := by
        rw [show (0 : Int) = ((0 : Nat) : Int) from rfl, sub_nat _ 0 _ (by omega) (by simp)]; simp only [List.drop_zero, Nat.sub_zero, List.take_left]
      have s2 : sub (W ++ FR) ((W.length + 1 : Nat) : Int) (((W ++ FR).length : Nat) : Int) = some F := by
        rw [sub_nat _ _ _ (by simp; omega) (Nat.le_refl _), List.take_of_length_le (by simp <;> omega), List.drop_append, List.drop_of_length_le (by omega), List.nil_append, Nat.add_sub_cancel_left, e]; rfl
      rw [if_pos (by simp; omega), s1, Option.bind_some, w1, s2, Option.bind_some, grd_true (by unfold fitsS; omega)]
      have w2 : wr .i64 (x - wr .i64 (wr .i64 ((((W ++ FR).length : Nat) : Int) - (W.length : Int)) - 1)) = x - (F.length : Int) := by
        rw [List.length_append, wr_i64 (n := ((W.length + FR.length : Nat) : Int) - (W.length : Int)) (by omega), wr_i64 (n := ((W.length + FR.length : Nat) : Int) - (W.length : Int) - 1) (by omega), wr_i64 (by omega)]
        omega
      rw [w2]
  try dsimp only
  have hml := (List.dropWhile_sublist (fun x : UInt8 => x == 48) (l := W ++ F)).length_le
  rw [List.length_append] at hml
  refine (join_to (a := (W ++ F).dropWhile (· == 48)) fun k29 => rz_loop k29 (W ++ F) N (by simp; omega)).trans ?_
  try dsimp only
  have hhd : (W ++ F).dropWhile (fun x : UInt8 => x == 48) = [] ∨ ∃ c r, (W ++ F).dropWhile (fun x : UInt8 => x == 48) = c :: r ∧ (c == 48) = false := by
    generalize W ++ F = l
    induction l with
    | nil => exact .inl rfl
    | cons c l ih =>
      rw [List.dropWhile_cons]
      cases hc : (c == 48)
      · exact .inr ⟨c, l, rfl, hc⟩
      · exact ih
  have htl := trimE_le (fun x : UInt8 => x == 48) ((W ++ F).dropWhile (fun x : UInt8 => x == 48))
  unfold canonS
  dsimp only
  generalize hm1 : (W ++ F).dropWhile (fun x : UInt8 => x == 48) = m1 at *
  by_cases hz : m1 = []
  · subst hz; rfl
  have hhd' : ∃ c r, m1 = c :: r ∧ (c == 48) = false := by
    rcases hhd with e | e
    · exact absurd e hz
    · exact e
  have hsz : trimE (fun x : UInt8 => x == 48) m1 ≠ [] := by
    obtain ⟨c, r, rfl, hc⟩ := hhd'
    have key : ∀ (n : Nat) (r : List UInt8), r.length = n → trimE (fun x : UInt8 => x == 48) (c :: r) ≠ [] := by
      intro n
      induction n with
      | zero =>
        intro r hr
        have : r = [] := List.length_eq_zero_iff.1 hr
        subst this
        unfold trimE; simp [hc]
      | succ n ih =>
        intro r hr
        obtain ⟨r', y, rfl⟩ : ∃ l' y, r = l' ++ [y] := by
          have hne : r ≠ [] := fun e => by subst e; simp at hr
          exact ⟨r.dropLast, r.getLast hne, (List.dropLast_concat_getLast hne).symm⟩
        rw [← List.cons_append, trimE_snoc]
        split
        · exact ih r' (by simpa using hr)
        · simp
    exact key _ r rfl
  rw [if_neg (by simpa using hz), if_neg hsz]
  refine (join_to (a := (x - (F.length : Int) + (m1.length : Int) - ((trimE (fun x : UInt8 => x == 48) m1).length : Int), trimE (fun x : UInt8 => x == 48) m1)) fun k40 => rt_loop k40 m1.length m1 _ rfl (by omega) hhd' (by omega) (by omega) N (by omega)).trans ?_
  try dsimp only
  generalize hsh : trimE (fun x : UInt8 => x == 48) m1 = sh at *
  generalize hy : x - (F.length : Int) + (m1.length : Int) - (sh.length : Int) = y at *
  have hsg : sg.length ≤ 1 := by rcases h.sg with e | e <;> rw [e] <;> simp
  refine (join_to (a := decide (sh.length > 40 ∨ y < -400 ∨ y > 400)) fun k26 => ?_).trans ?_
  · by_cases c1 : (sh.length : Int) > 40
    · rw [if_pos (decide_eq_true c1), decide_eq_true (.inl (by omega))]
    · rw [if_neg (by simpa using c1)]
      by_cases c2 : y > 400
      · rw [if_pos (decide_eq_true c2), decide_eq_true (.inr (.inr c2))]
      · rw [if_neg (by simpa using c2)]
        congr 1
        simp only [eq_iff_iff, decide_eq_decide]; omega
  try dsimp only
  by_cases hc : sh.length > 40 ∨ y < -400 ∨ y > 400
  · rw [if_pos (decide_eq_true hc), if_pos hc]
  rw [if_neg (by simpa using hc), if_neg hc]
  have hc' : ¬ (sh.length > 40) ∧ ¬ y < -400 ∧ ¬ y > 400 := ⟨fun h => hc (.inl h), fun h => hc (.inr (.inl h)), fun h => hc (.inr (.inr h))⟩
  have hf := fmtS_len
  unfold expT
  by_cases c1 : y < 0
  · rw [if_pos (decide_eq_true c1), if_pos c1, grd_true (by unfold fitsS; omega), grd_true (by unfold fitsS; simp; omega), wr_i64 (by omega), u64_pos (by omega) (by omega), rformat_eq _ (by omega) (by omega), Option.bind_some]
    have := hf (0 - y).toNat
    have := hf (-y).toNat
    rw [grd_true (by unfold fitsS; simp; omega), show (0 - y).toNat = (-y).toNat by omega]
    simp
  · rw [if_neg (by simpa using c1), if_neg c1]
    by_cases c2 : y > 0
    · have := hf y.toNat
      rw [if_pos (decide_eq_true c2), if_pos c2, grd_true (by unfold fitsS; omega), grd_true (by unfold fitsS; simp; omega), u64_pos (by omega) (by omega), rformat_eq _ (by omega) (by omega), Option.bind_some, grd_true (by unfold fitsS; simp; omega)]
      simp
    · rw [if_neg (by simpa using c2), if_neg c2, grd_true (by unfold fitsS; omega)]
      simp
end
end
end Go.VM
