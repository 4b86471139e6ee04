/- The plain law of TokenQuotes: what is quoted is read back. -/
import Derived.Test.YtmdjjhakfoenpaaDoorQuote
import Derived.Test.YtmdjjhakfoenpaaDoorTreads
set_option linter.unusedVariables false
set_option linter.unusedSimpArgs false
namespace Go.VM
section
variable {N : Nat}
theorem decB_pre {t : List UInt8} {r n : Nat} (h : decB t = some (r, n)) (u : List UInt8) : decB (t.take n ++ u) = some (r, n) := by
  match t, h with
  | [], h => cases h
  | a :: t, h =>
    simp only [decB] at h
    by_cases c1 : a.toNat < 128
    · rw [if_pos c1] at h
      simp only [Option.some.injEq, Prod.mk.injEq] at h; obtain ⟨rfl, rfl⟩ := h
      simp [decB, c1]
    rw [if_neg c1] at h
    by_cases c2 : a.toNat / 32 = 6
    · rw [if_pos c2] at h
      match t, h with
      | [], h => cases h
      | b :: t, h =>
        simp only at h
        split at h
        · rename_i hc
          simp only [Option.some.injEq, Prod.mk.injEq] at h; obtain ⟨rfl, rfl⟩ := h
          simp only [List.take, List.cons_append, List.nil_append, decB]
          rw [if_neg c1, if_pos c2, if_pos hc]
        · cases h
    rw [if_neg c2] at h
    by_cases c3 : a.toNat / 16 = 14
    · rw [if_pos c3] at h
      match t, h with
      | [], h => cases h
      | [_], h => cases h
      | b :: c :: t, h =>
        simp only at h
        split at h
        · rename_i hc
          simp only [Option.some.injEq, Prod.mk.injEq] at h; obtain ⟨rfl, rfl⟩ := h
          simp only [List.take, List.cons_append, List.nil_append, decB]
          rw [if_neg c1, if_neg c2, if_pos c3, if_pos hc]
        · cases h
    rw [if_neg c3] at h
    by_cases c4 : a.toNat / 8 = 30
    · rw [if_pos c4] at h
      match t, h with
      | [], h => cases h
      | [_], h => cases h
      | [_, _], h => cases h
      | b :: c :: d :: t, h =>
        simp only at h
        split at h
        · rename_i hc
          simp only [Option.some.injEq, Prod.mk.injEq] at h; obtain ⟨rfl, rfl⟩ := h
          simp only [List.take, List.cons_append, List.nil_append, decB]
          rw [if_neg c1, if_neg c2, if_neg c3, if_pos c4, if_pos hc]
        · cases h
    · rw [if_neg c4] at h; cases h
/-- the bytes of a code point of several bytes are no characters of ASCII -/
theorem decB_high {a : UInt8} {t : List UInt8} {r n : Nat} (h : decB (a :: t) = some (r, n)) (ha : ¬ a.toNat < 128) : ∀ c ∈ (a :: t).take n, ¬ c.toNat < 128 := by
  simp only [decB] at h
  rw [if_neg ha] at h
  by_cases c2 : a.toNat / 32 = 6
  · rw [if_pos c2] at h
    match t, h with
    | [], h => cases h
    | b :: t, h =>
      simp only at h
      split at h
      · rename_i hc
        simp only [Option.some.injEq, Prod.mk.injEq] at h; obtain ⟨rfl, rfl⟩ := h
        have h1 := hc.1
        simp only [contB, decide_eq_true_eq] at h1
        simp only [List.take, List.mem_cons, List.not_mem_nil, or_false]
        rintro c (rfl | rfl) <;> omega
      · cases h
  rw [if_neg c2] at h
  by_cases c3 : a.toNat / 16 = 14
  · rw [if_pos c3] at h
    match t, h with
    | [], h => cases h
    | [_], h => cases h
    | b :: c :: t, h =>
      simp only at h
      split at h
      · rename_i hc
        simp only [Option.some.injEq, Prod.mk.injEq] at h; obtain ⟨rfl, rfl⟩ := h
        have h1 := hc.1
        have h2 := hc.2.1
        simp only [contB, decide_eq_true_eq] at h1 h2
        simp only [List.take, List.mem_cons, List.not_mem_nil, or_false]
        rintro c (rfl | rfl | rfl) <;> omega
      · cases h
  rw [if_neg c3] at h
  by_cases c4 : a.toNat / 8 = 30
  · rw [if_pos c4] at h
    match t, h with
    | [], h => cases h
    | [_], h => cases h
    | [_, _], h => cases h
    | b :: c :: d :: t, h =>
      simp only at h
      split at h
      · rename_i hc
        simp only [Option.some.injEq, Prod.mk.injEq] at h; obtain ⟨rfl, rfl⟩ := h
        have h1 := hc.1
        have h2 := hc.2.1
        have h3 := hc.2.2.1
        simp only [contB, decide_eq_true_eq] at h1 h2 h3
        simp only [List.take, List.mem_cons, List.not_mem_nil, or_false]
        rintro c (rfl | rfl | rfl | rfl) <;> omega
      · cases h
  · rw [if_neg c4] at h; cases h
theorem decB_low {a : UInt8} {t : List UInt8} (ha : a.toNat < 128) : decB (a :: t) = some (a.toNat, 1) := by
  simp only [decB]; rw [if_pos ha]
theorem qB_high {c : UInt8} (h : ¬ c.toNat < 128) : qB c = [c] := by
  unfold qB qN
  rw [if_neg (by omega), if_neg (by omega), if_neg (by omega), if_neg (by omega), if_neg (by omega), if_neg (by omega), if_neg (by omega), if_neg (by omega)]
  simp
theorem q_high : ∀ l : List UInt8, (∀ c ∈ l, ¬ c.toNat < 128) → l.flatMap qB = l
  | [], _ => rfl
  | c :: l, h => by
    rw [List.flatMap_cons, qB_high (h c (by simp)), q_high l fun x hx => h x (by simp [hx])]; rfl
theorem unitB_ne {x : UInt8} {r : List UInt8} (hx : x ≠ 117) : unitB (92 :: x :: r) = none := by
  cases h : unitB (92 :: x :: r) with
  | none => rfl
  | some n =>
    obtain ⟨_, _, r', e⟩ := unitB_lt h
    simp only [List.cons.injEq] at e
    exact absurd e.2.1 hx
theorem esc_letter {x b : UInt8} {r : List UInt8} (hx : x ≠ 117) (hs : simpN x.toNat = some b) : escB (92 :: x :: r) = ([b], 2, 0) := by
  rw [escB_none (unitB_ne hx)]
  simp only [letterB, hs]
theorem esc_unit {c : UInt8} {r : List UInt8} (hc : c.toNat < 32) : escB (92 :: 117 :: 48 :: 48 :: hexT.getD (c.toNat / 16) 0 :: hexT.getD (c.toNat % 16) 0 :: r) = ([c], 6, 0) := by
  have f := bytes_eq (f := fun n => if n < 32 then ([48, 48, hexT.getD (n / 16) 0, hexT.getD (n % 16) 0].all hexB && decide (hexV 0 [48, 48, hexT.getD (n / 16) 0, hexT.getD (n % 16) 0] = n)) else true) (g := fun _ => true) (by kernel_rfl) c
  simp only [hc, if_true, Bool.and_eq_true, decide_eq_true_eq] at f
  have hu : unitB (92 :: 117 :: 48 :: 48 :: hexT.getD (c.toNat / 16) 0 :: hexT.getD (c.toNat % 16) 0 :: r) = some c.toNat := by
    simp only [unitB]
    rw [if_pos ⟨trivial, trivial, f.1⟩, f.2]
  rw [escB_some hu, if_neg (by omega), if_neg (by omega)]
  unfold encB
  rw [if_pos (by omega)]
  simp
theorem textS_esc {k i : Nat} {t out x : List UInt8} {n : Nat} (h : escB (92 :: t) = (x, n, 0)) : textS (k + 1) (92 :: t) i out = textS k ((92 :: t).drop n) (i + n) (out ++ x) := by
  rw [textS, if_neg (by decide), if_pos (by decide), h, if_pos rfl]
theorem q_step {c : UInt8} (hc : c.toNat < 128) (k i : Nat) (rest out : List UInt8) : textS (k + 1) (qB c ++ rest) i out = textS k rest (i + (qB c).length) (out ++ [c]) := by
  have ch : ∀ n : Nat, n < 256 → c.toNat = n → c = UInt8.ofNat n := fun n h e => UInt8.toNat_inj.1 (by rw [e, toNat_ofNat h])
  have letter : ∀ (x b : UInt8), qB c = [92, x] → x ≠ 117 → simpN x.toNat = some b → b = c → textS (k + 1) (qB c ++ rest) i out = textS k rest (i + (qB c).length) (out ++ [c]) := by
    rintro x b hq hx hs rfl
    rw [hq]
    exact textS_esc (esc_letter hx hs)
  by_cases h1 : c.toNat = 34
  · exact letter 34 34 (by unfold qB qN; rw [if_pos h1]) (by decide) (by decide) (ch 34 (by decide) h1).symm
  by_cases h2 : c.toNat = 92
  · exact letter 92 92 (by unfold qB qN; rw [if_neg h1, if_pos h2]) (by decide) (by decide) (ch 92 (by decide) h2).symm
  by_cases h3 : c.toNat = 8
  · exact letter 98 8 (by unfold qB qN; rw [if_neg h1, if_neg h2, if_pos h3]) (by decide) (by decide) (ch 8 (by decide) h3).symm
  by_cases h4 : c.toNat = 12
  · exact letter 102 12 (by unfold qB qN; rw [if_neg h1, if_neg h2, if_neg h3, if_pos h4]) (by decide) (by decide) (ch 12 (by decide) h4).symm
  by_cases h5 : c.toNat = 10
  · exact letter 110 10 (by unfold qB qN; rw [if_neg h1, if_neg h2, if_neg h3, if_neg h4, if_pos h5]) (by decide) (by decide) (ch 10 (by decide) h5).symm
  by_cases h6 : c.toNat = 13
  · exact letter 114 13 (by unfold qB qN; rw [if_neg h1, if_neg h2, if_neg h3, if_neg h4, if_neg h5, if_pos h6]) (by decide) (by decide) (ch 13 (by decide) h6).symm
  by_cases h7 : c.toNat = 9
  · exact letter 116 9 (by unfold qB qN; rw [if_neg h1, if_neg h2, if_neg h3, if_neg h4, if_neg h5, if_neg h6, if_pos h7]) (by decide) (by decide) (ch 9 (by decide) h7).symm
  by_cases h8 : c.toNat < 32
  · have hq : qB c = [92, 117, 48, 48, hexT.getD (c.toNat / 16) 0, hexT.getD (c.toNat % 16) 0] := by
      unfold qB qN; rw [if_neg h1, if_neg h2, if_neg h3, if_neg h4, if_neg h5, if_neg h6, if_neg h7, if_pos h8]
    rw [hq]
    exact textS_esc (esc_unit h8)
  · have hq : qB c = [c] := by
      unfold qB qN; rw [if_neg h1, if_neg h2, if_neg h3, if_neg h4, if_neg h5, if_neg h6, if_neg h7, if_neg h8]; simp
    rw [hq, List.cons_append, List.nil_append, textS, if_neg h1, if_neg h2, if_neg h8, decB_low hc]
    rfl
theorem textS_quoted : ∀ (k' : Nat) (t : List UInt8), (countS k' t).isSome = true → ∀ (k i : Nat) (out : List UInt8), t.length < k → textS k (t.flatMap qB ++ [34]) i out = (out ++ t, i + (t.flatMap qB).length + 1, 0)
  | 0, t, h, k, i, out, hk => by cases h
  | k' + 1, [], h, k, i, out, hk => by
    obtain ⟨k, rfl⟩ : ∃ j, k = j + 1 := ⟨k - 1, by simp at hk; omega⟩
    simp [textS]
  | k' + 1, c :: t, h, k, i, out, hk => by
    rw [countS] at h
    cases hd : decB (c :: t) with
    | none => rw [hd] at h; cases h
    | some p =>
      obtain ⟨r, n⟩ := p
      rw [hd] at h
      simp only [Option.isSome_map] at h
      obtain ⟨e1, e2, _⟩ := decB_len hd
      obtain ⟨k, rfl⟩ : ∃ j, k = j + 1 := ⟨k - 1, by simp only [List.length_cons] at hk; omega⟩
      have hsplit : c :: t = (c :: t).take n ++ (c :: t).drop n := (List.take_append_drop n _).symm
      have ih := textS_quoted k' ((c :: t).drop n) h k
      have hlen : ((c :: t).drop n).length < k := by rw [List.length_drop]; omega
      by_cases hc : c.toNat < 128
      · rw [decB_low hc] at hd
        simp only [Option.some.injEq, Prod.mk.injEq] at hd
        obtain ⟨_, rfl⟩ := hd
        rw [List.flatMap_cons, List.append_assoc, q_step hc, show t = (c :: t).drop 1 from rfl, ih _ _ hlen]
        simp only [List.drop_succ_cons, List.drop_zero, List.length_append, List.append_assoc, List.singleton_append]
        congr 2; omega
      · have hh := q_high _ (decB_high hd hc)
        have hq : (c :: t).flatMap qB = (c :: t).take n ++ ((c :: t).drop n).flatMap qB := by
          conv => lhs; rw [hsplit]
          rw [List.flatMap_append, hh]
        rw [hq, List.append_assoc]
        have hpre := decB_pre hd (((c :: t).drop n).flatMap qB ++ [34])
        have hl : ((c :: t).take n).length = n := by rw [List.length_take]; omega
        obtain ⟨u, hu⟩ : ∃ u, (c :: t).take n ++ (((c :: t).drop n).flatMap qB ++ [34]) = c :: u := by
          obtain ⟨m, rfl⟩ : ∃ m, n = m + 1 := ⟨n - 1, by omega⟩
          exact ⟨_, rfl⟩
        have hdrop : (c :: u).drop n = ((c :: t).drop n).flatMap qB ++ [34] := by
          rw [← hu, List.drop_append, List.drop_of_length_le (by omega), hl, Nat.sub_self]; rfl
        have htake : (c :: u).take n = (c :: t).take n := by
          rw [← hu, List.take_append, hl, Nat.sub_self, List.take_take, Nat.min_self]; simp
        rw [hu] at hpre ⊢
        rw [textS, if_neg (by omega), if_neg (by omega), if_neg (by omega), hpre]
        simp only []
        rw [hdrop, htake, ih _ _ hlen, List.append_assoc, ← hsplit]
        congr 2
        rw [List.length_append, hl]; omega
theorem ws34 : wsB 34 = false := by decide
theorem next_quoted (l : List UInt8) (h : (countS N l).isSome = true) (hN : l.length < N) : nextS N (quoteS l) 0 = (ApiToken.mk 3 l 0, ((quoteS l).length : Int), 0) := by
  unfold nextS
  rw [List.drop_zero, show (quoteS l).takeWhile wsB = [] by unfold quoteS; rw [List.takeWhile_cons, ws34]; rfl]
  simp only [List.length_nil, Nat.add_zero, List.drop_zero]
  unfold quoteS
  rw [tokS_cons, if_neg (by decide), if_pos (by decide), textS_quoted N l h N _ _ hN, if_pos rfl]
  simp only [List.nil_append, List.length_cons, List.length_append, List.length_nil]
  congr 2
  · omega
end
theorem sane13q : law13_sane 10000 = some true := by kernel_rfl
theorem tokenQuotes_said (s : List UInt8) (_ : s.length ≤ reachBytes) : law13_TokenQuotes 10000 s = some true := by
  unfold law13_TokenQuotes
  rw [sane13q, Option.bind_some, if_pos rfl]
  by_cases hs : (s.length : Int) > 1000
  · rw [if_pos (decide_eq_true hs)]
  · rw [if_neg (by simpa using hs), pquote_eq s (.inl (by omega)), Option.bind_some, rquote_eq s (.inl (by omega)), Option.bind_some]
    have hs' : ¬ s.length > 1048576 := by omega
    refine (join_to (a := decide ((quoteR 10000 s).2 ≠ 0)) fun k => ?_).trans ?_
    · simp only [beq_self_eq_true, if_true, bne_self_eq_false, Bool.false_eq_true, if_false]
      congr 1
      cases h : decide ((quoteR 10000 s).2 ≠ 0) <;> simp at h <;> simp [h]
    unfold quoteR
    rw [if_neg hs']
    by_cases hv : (countS 10000 s).isSome = true
    · rw [if_pos hv]
      simp only [ne_eq, not_true_eq_false, decide_false, Bool.false_eq_true, if_false]
      have hq := q_len s
      have hl : (quoteS s).length ≤ 6100 := by unfold quoteS; simp only [List.length_cons, List.length_append, List.length_nil]; omega
      rw [show (0 : Int) = ((0 : Nat) : Int) from rfl, pnext_eq (by omega) (by omega) (by omega), Option.bind_some, next_quoted s hv (by omega)]
      simp
    · rw [if_neg hv]
      simp
end Go.VM
