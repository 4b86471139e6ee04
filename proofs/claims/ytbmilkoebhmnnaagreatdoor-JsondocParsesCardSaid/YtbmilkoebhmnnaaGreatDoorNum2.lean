/- Numerals: the reference's reader is the same. -/
import Derived.Test.YtbmilkoebhmnnaaGreatDoorNum
set_option linter.unusedVariables false
set_option linter.unusedSimpArgs false
namespace Go.VM
section
variable {N : Nat}
/-- where ways meet that all bring the same -/
theorem join_to {α β : Type} {K : α → Option β} {body : (α → Option β) → Option β} {a : α} (h : ∀ k : α → Option β, body k = k a) : joinK K body = K a := h K
theorem rrun_loop (l : List UInt8) (k2 : Int → Option Int) (hb : l.length ≤ 2 ^ 50) : ∀ (t : List UInt8) (i k : Nat), l.drop i = t → i ≤ l.length → t.length < k → ref13_run_L1 N l k2 k (i : Int) = k2 ((i + runC t : Nat) : Int)
  | [], i, k + 1, ht, hi, _ => by
    have hl := len_drop ht hi
    simp only [List.length_nil] at hl
    have c : ¬ (i : Int) < (l.length : Int) := by omega
    rw [ref13_run_L1, joinK_eq, if_neg (by simpa using c)]
    dsimp only
    rw [if_neg (by decide)]; rfl
  | c :: t, i, k + 1, ht, hi, hk => by
    have hl := len_drop ht hi
    simp only [List.length_cons] at hl hk
    have c0 : (i : Int) < (l.length : Int) := by omega
    rw [ref13_run_L1, joinK_eq, if_pos (decide_eq_true c0), head_drop ht, Option.bind_some, rdig_eq, Option.bind_some]
    unfold runC
    rw [List.takeWhile_cons]
    cases digC c
    · simp
    · dsimp only
      rw [if_pos rfl, if_pos rfl, wr_i64 (by omega), show (i : Int) + 1 = ((i + 1 : Nat) : Int) by simp, rrun_loop l k2 hb t (i + 1) k (by rw [← List.drop_drop, ht]; rfl) (by omega) (by omega)]
      rw [List.length_cons]; unfold runC; congr 2; omega
theorem rrun_eq (t : List UInt8) (hb : t.length ≤ 2 ^ 50) (hN : t.length < N) : ref13_run N t = some ((runC t : Nat) : Int) := by
  unfold ref13_run
  rw [joinK_eq]
  have := rrun_loop (N := N) t (fun j => some j) hb t 0 N (by simp) (by omega) hN
  simpa using this
theorem rtail_eq (t : List UInt8) (i : Nat) : ref13_tail N t (i : Int) = some (t.drop i) := by
  unfold ref13_tail
  by_cases h : (i : Int) ≥ (t.length : Int)
  · rw [if_pos (decide_eq_true h), List.drop_of_length_le (by omega)]
  · rw [if_neg (by simpa using h), sub_nat t i t.length (by omega) (by omega), Option.bind_some, List.take_of_length_le (by simp)]
theorem rheadG_eq {β : Type} (t : List UInt8) (i : Nat) (k : Bool → Option β) (f : UInt8 → Option β) (set : List UInt8) (hf : ∀ c r, t.drop i = c :: r → f c = k (set.contains c)) :
    (if decide ((i : Int) < (t.length : Int)) = true then Option.bind (idx t (i : Int)) f else k false) = k (headB set (t.drop i)) := by
  by_cases hi : i ≤ t.length
  · obtain ⟨u, hu⟩ : ∃ u, t.drop i = u := ⟨_, rfl⟩
    have hl := len_drop hu hi
    rw [hu]
    cases u with
    | nil =>
      simp only [List.length_nil] at hl
      have c : ¬ (i : Int) < (t.length : Int) := by omega
      rw [if_neg (by simpa using c)]; rfl
    | cons c r =>
      simp only [List.length_cons] at hl
      have c0 : (i : Int) < (t.length : Int) := by omega
      rw [if_pos (decide_eq_true c0), head_drop hu, Option.bind_some, hf c r hu]; rfl
  · have c : ¬ (i : Int) < (t.length : Int) := by omega
    rw [if_neg (by simpa using c), List.drop_of_length_le (by omega)]; rfl
theorem one_of (c : UInt8) (k : UInt8) : ([k] : List UInt8).contains c = decide (c.toNat = k.toNat) := by
  by_cases h : c = k
  · subst h; simp
  · have : ¬ c.toNat = k.toNat := fun e => h (UInt8.toNat_inj.1 e)
    simp [h, this]
theorem bq45 (c : UInt8) : (bord c == 45) = ([45] : List UInt8).contains c := by rw [one_of]; exact beq_of (k := 45)
theorem bq46 (c : UInt8) : (bord c == 46) = ([46] : List UInt8).contains c := by rw [one_of]; exact beq_of (k := 46)
theorem bq48 (c : UInt8) : (bord c == 48) = ([48] : List UInt8).contains c := by rw [one_of]; exact beq_of (k := 48)
theorem zero_dig {t : List UInt8} : intN t = 0 ↔ (t = [] ∨ ∃ c r, t = c :: r ∧ digC c = false) := by
  cases t with
  | nil => exact ⟨fun _ => .inl rfl, fun _ => rfl⟩
  | cons c r =>
    constructor
    · intro h
      refine .inr ⟨c, r, rfl, ?_⟩
      unfold intN at h
      split at h
      · cases h
      · unfold runC at h
        rw [List.takeWhile_cons] at h
        cases hd : digC c
        · rfl
        · rw [hd] at h; simp at h
    · rintro (h | ⟨c', r', h, hd⟩)
      · cases h
      · cases h
        have h48 : headB [48] (c :: r) = false := by
          show ([48] : List UInt8).contains c = false
          rw [one_of]
          have : ¬ c.toNat = 48 := fun e => by simp [digC, e] at hd
          simpa using this
        unfold intN; rw [h48, if_neg (by simp)]
        unfold runC; rw [List.takeWhile_cons, hd]; rfl
theorem rnumeral_eq (t : List UInt8) (hb : t.length ≤ 2 ^ 50) (hN : t.length < N) : ref13_numeral N t = some ((numN t : Nat) : Int) := by
  have h1 := signN_le t
  have h2 := intN_le (t.drop (signN t))
  have h3 := fracN_le (t.drop (signN t + intN (t.drop (signN t))))
  have h4 := expN_le (t.drop (signN t + intN (t.drop (signN t)) + fracN (t.drop (signN t + intN (t.drop (signN t))))))
  simp only [List.length_drop] at h2 h3 h4
  have run : ∀ n : Nat, ref13_run N (t.drop n) = some ((runC (t.drop n) : Nat) : Int) := fun n => rrun_eq _ (by rw [List.length_drop]; omega) (by rw [List.length_drop]; omega)
  have wn : ∀ n : Nat, n ≤ 2 ^ 51 → wr .i64 (n : Int) = (n : Int) := fun n h => wr_nat (by omega)
  have w1 : ∀ n : Nat, n ≤ 2 ^ 51 → wr .i64 ((n : Int) + 1) = ((n + 1 : Nat) : Int) := fun n h => by rw [wr_i64 (by omega)]; simp
  have hsub : sub t (signN t : Int) (t.length : Int) = some (t.drop (signN t)) := by
    rw [sub_nat t (signN t) t.length h1 (Nat.le_refl _), List.take_of_length_le (by simp)]
  have hs2 : signN t ≤ 1 := by unfold signN; split <;> omega
  unfold ref13_numeral
  -- the sign
  refine (join_to (a := ((signN t : Nat) : Int)) fun k2 => (join_to (a := headB [45] t) fun k6 => ?_).trans ?_).trans ?_
  · have key := rheadG_eq t 0 k6 (fun x9 => k6 (bord x9 == 45)) [45] (fun c r _ => by rw [bq45])
    simpa using key
  · unfold signN
    cases headB [45] t <;> rfl
  try dsimp only
  -- is there a digit
  refine (join_to (a := decide (intN (t.drop (signN t)) = 0)) fun k11 => ?_).trans ?_
  · obtain ⟨u, hu⟩ : ∃ u, t.drop (signN t) = u := ⟨_, rfl⟩
    have hl := len_drop hu h1
    rw [hu]
    cases u with
    | nil =>
      simp only [List.length_nil] at hl
      rw [if_pos (by simp; omega)]; rfl
    | cons c r =>
      simp only [List.length_cons] at hl
      rw [if_neg (by simp; omega), head_drop hu, Option.bind_some, rdig_eq, Option.bind_some]
      congr 1
      cases hd : digC c
      · rw [decide_eq_true (zero_dig.2 (.inr ⟨c, r, rfl, hd⟩))]; rfl
      · have : ¬ intN (c :: r) = 0 := fun h => by
          rcases zero_dig.1 h with h | ⟨c', r', h, hd'⟩
          · cases h
          · cases h; rw [hd] at hd'; cases hd'
        rw [decide_eq_false this]; rfl
  try dsimp only
  by_cases hz : intN (t.drop (signN t)) = 0
  · rw [if_pos (decide_eq_true hz)]
    unfold numN; rw [if_pos hz]; rfl
  rw [if_neg (by simpa using hz)]
  have hnum : numN t = signN t + intN (t.drop (signN t)) + fracN (t.drop (signN t + intN (t.drop (signN t)))) + expN (t.drop (signN t + intN (t.drop (signN t)) + fracN (t.drop (signN t + intN (t.drop (signN t)))))) := by
    unfold numN; rw [if_neg hz]
  -- the whole digits
  refine (join_to (a := ((signN t + intN (t.drop (signN t)) : Nat) : Int)) fun k18 => ?_).trans ?_
  · obtain ⟨u, hu⟩ : ∃ u, t.drop (signN t) = u := ⟨_, rfl⟩
    cases u with
    | nil => rw [hu] at hz; exact absurd rfl hz
    | cons c r =>
      rw [head_drop hu, Option.bind_some, bq48, hsub, Option.bind_some, run]
      rw [hu] at h2 ⊢
      rw [show ([48] : List UInt8).contains c = headB [48] (c :: r) from rfl]
      unfold intN at h2 ⊢
      by_cases h0 : headB [48] (c :: r) = true
      · rw [if_pos h0] at h2
        rw [if_pos h0, if_pos h0, w1 _ (by omega)]
      · rw [if_neg h0] at h2
        rw [if_neg h0, if_neg h0, Option.bind_some, wr_i64 (by omega)]; congr 1
  try dsimp only
  rw [w1 _ (by omega), rtail_eq]
  -- the fraction
  generalize hi' : signN t + intN (t.drop (signN t)) = i at *
  have hil : i ≤ t.length := by omega
  refine (join_to (a := ((i + fracN (t.drop i) : Nat) : Int)) fun k26 => ?_).trans ?_
  · rw [Option.bind_some, run, Option.bind_some]
    have hr := runC_le (t.drop (i + 1))
    rw [List.length_drop] at hr
    refine (join_to (a := headB [46] (t.drop i) && decide (0 < runC (t.drop (i + 1)))) fun k34 => ?_).trans ?_
    · refine (rheadG_eq t i (fun b => k34 (b && decide (0 < runC (t.drop (i + 1))))) _ [46] (fun c r _ => ?_)).trans rfl
      rw [bq46]
      cases ([46] : List UInt8).contains c
      · rfl
      · rw [if_pos rfl]; congr 1; rw [Bool.true_and]; congr 1; simp only [eq_iff_iff]; omega
    try dsimp only
    unfold fracN
    rw [List.drop_drop]
    by_cases hc : headB [46] (t.drop i) = true ∧ 0 < runC (t.drop (i + 1))
    · rw [if_pos (by simpa using hc), if_pos hc, wr_i64 (n := 1 + _) (by omega), wr_i64 (by omega)]; congr 1
    · rw [if_neg (by simpa using hc), if_neg hc]; rfl
  try dsimp only
  -- the exponent
  generalize hj : i + fracN (t.drop i) = j at *
  have hjl : j ≤ t.length := by omega
  rw [w1 _ (by omega)]
  refine (join_to (a := ((j + expN (t.drop j) : Nat) : Int)) fun k39 => ?_).trans ?_
  · refine (join_to (a := headB [101, 69] (t.drop j)) fun k43 => rheadG_eq t j k43 _ [101, 69] (fun c r _ => by rw [inC_eq _ _ (by decide), Option.bind_some])).trans ?_
    try dsimp only
    by_cases he : headB [101, 69] (t.drop j) = true
    · rw [if_pos he]
      have hpos := headB_pos he
      rw [List.length_drop] at hpos
      have hes : esgN (t.drop j) ≤ t.length - j - 1 := by
        unfold esgN; split
        · rename_i h
          have := headB_pos h
          simp only [List.length_drop] at this; omega
        · omega
      refine (join_to (a := ((j + (1 + esgN (t.drop j)) : Nat) : Int)) fun k50 => (join_to (a := headB [43, 45] (t.drop (j + 1))) fun k54 => rheadG_eq t (j + 1) k54 _ [43, 45] (fun c r _ => by rw [inC_eq _ _ (by decide), Option.bind_some])).trans ?_).trans ?_
      · try dsimp only
        unfold esgN
        rw [List.drop_drop]
        by_cases h : headB [43, 45] (t.drop (j + 1)) = true
        · rw [if_pos h, if_pos h, w1 _ (by omega)]
        · rw [if_neg h, if_neg h]
      try dsimp only
      rw [rtail_eq, Option.bind_some, run, Option.bind_some]
      have hr := runC_le (t.drop (j + (1 + esgN (t.drop j))))
      rw [List.length_drop] at hr
      have hex : expN (t.drop j) = if 0 < runC (t.drop (j + (1 + esgN (t.drop j)))) then 1 + esgN (t.drop j) + runC (t.drop (j + (1 + esgN (t.drop j)))) else 0 := by
        unfold expN
        rw [List.drop_drop]
        by_cases h : 0 < runC (t.drop (j + (1 + esgN (t.drop j))))
        · rw [if_pos ⟨he, h⟩, if_pos h]
        · rw [if_neg (fun k => h k.2), if_neg h]
      rw [hex]
      by_cases h : 0 < runC (t.drop (j + (1 + esgN (t.drop j))))
      · rw [if_pos (by simp; omega), if_pos h, wr_i64 (by omega)]; congr 1; omega
      · rw [if_neg (by simp; omega), if_neg h]; rfl
    · rw [if_neg he, show expN (t.drop j) = 0 by unfold expN; rw [if_neg (fun k => he k.1)]]; rfl
  try dsimp only
  rw [hnum]
end
end Go.VM
