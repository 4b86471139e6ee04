/- The parts of a numeral. -/
import Derived.Test.YtbmilkoebhmnnaaGreatDoorForm
set_option linter.unusedVariables false
set_option linter.unusedSimpArgs false
namespace Go.VM
/-- a numeral: its sign, whole digits, fraction, exponent -/
structure NumP (s sg W F FR P EX : List UInt8) : Prop where
  eq : s = sg ++ (W ++ (FR ++ EX))
  sg : sg = [] ∨ sg = [45]
  Wd : W.all digC = true
  Wn : W ≠ []
  fr : (FR = [] ∧ F = []) ∨ FR = 46 :: F
  Fd : F.all digC = true
  ex : (EX = [] ∧ P = []) ∨ EX = 101 :: P ∨ EX = 69 :: P
  pw : P = [] ∨ ∃ sn D, P = sn ++ D ∧ (sn = [] ∨ sn = [43] ∨ sn = [45]) ∧ D ≠ [] ∧ D.all digC = true
theorem run_all (t : List UInt8) : (t.take (runC t)).all digC = true := by
  unfold runC
  rw [take_while]
  induction t with
  | nil => rfl
  | cons c t ih =>
    rw [List.takeWhile_cons]
    cases h : digC c
    · rfl
    · simp only [if_true, List.all_cons, h, Bool.true_and]; exact ih
theorem head_one {k : UInt8} {t : List UInt8} (h : headB [k] t = true) : ∃ r, t = k :: r := by
  cases t with
  | nil => cases h
  | cons c r =>
    have : c = k := by simpa [headB] using h
    exact ⟨r, by rw [this]⟩
theorem head_two {a b : UInt8} {t : List UInt8} (h : headB [a, b] t = true) : ∃ r, t = a :: r ∨ t = b :: r := by
  cases t with
  | nil => cases h
  | cons c r =>
    have : c = a ∨ c = b := by simpa [headB] using h
    rcases this with rfl | rfl
    · exact ⟨r, .inl rfl⟩
    · exact ⟨r, .inr rfl⟩
theorem sign_part (t : List UInt8) : t.take (signN t) = [] ∨ t.take (signN t) = [45] := by
  unfold signN
  by_cases h : headB [45] t = true
  · rw [if_pos h]
    obtain ⟨r, rfl⟩ := head_one h
    exact .inr rfl
  · rw [if_neg h]; exact .inl (by simp)
theorem int_part (t : List UInt8) (h : intN t ≠ 0) : (t.take (intN t)).all digC = true ∧ t.take (intN t) ≠ [] := by
  have hle := intN_le t
  refine ⟨?_, fun e => ?_⟩
  · unfold intN
    by_cases h : headB [48] t = true
    · rw [if_pos h]
      obtain ⟨r, rfl⟩ := head_one h
      rfl
    · rw [if_neg h]; exact run_all t
  · have := congrArg List.length e
    rw [List.length_take, List.length_nil] at this
    omega
theorem frac_part (t : List UInt8) : ∃ F, ((t.take (fracN t) = [] ∧ F = []) ∨ t.take (fracN t) = 46 :: F) ∧ F.all digC = true := by
  unfold fracN
  by_cases h : headB [46] t = true ∧ 0 < runC (t.drop 1)
  · rw [if_pos h]
    obtain ⟨r, rfl⟩ := head_one h.1
    refine ⟨r.take (runC r), .inr ?_, run_all r⟩
    rw [Nat.add_comm]; rfl
  · rw [if_neg h]; exact ⟨[], .inl ⟨by simp, rfl⟩, rfl⟩
theorem exp_part (t : List UInt8) : ∃ P, ((t.take (expN t) = [] ∧ P = []) ∨ t.take (expN t) = 101 :: P ∨ t.take (expN t) = 69 :: P) ∧ (P = [] ∨ ∃ sn D, P = sn ++ D ∧ (sn = [] ∨ sn = [43] ∨ sn = [45]) ∧ D ≠ [] ∧ D.all digC = true) := by
  unfold expN
  by_cases h : headB [101, 69] t = true ∧ 0 < runC (t.drop (1 + esgN t))
  · rw [if_pos h]
    have key : ∀ (c : UInt8) (r : List UInt8), t = c :: r → ∃ P, t.take (1 + esgN t + runC (t.drop (1 + esgN t))) = c :: P ∧ (P = [] ∨ ∃ sn D, P = sn ++ D ∧ (sn = [] ∨ sn = [43] ∨ sn = [45]) ∧ D ≠ [] ∧ D.all digC = true) := by
      rintro c r rfl
      have hr := h.2
      have hes : esgN (c :: r) = if headB [43, 45] r = true then 1 else 0 := rfl
      by_cases k : headB [43, 45] r = true
      · rw [if_pos k] at hes
        rw [hes] at hr ⊢
        obtain ⟨d, q, rfl, hd⟩ : ∃ d q, r = d :: q ∧ (d = 43 ∨ d = 45) := by
          obtain ⟨q, e | e⟩ := head_two k
          · exact ⟨_, q, e, .inl rfl⟩
          · exact ⟨_, q, e, .inr rfl⟩
        have e : (c :: d :: q).drop (1 + 1) = q := rfl
        rw [e] at hr ⊢
        refine ⟨d :: q.take (runC q), ?_, .inr ⟨[d], q.take (runC q), rfl, ?_, fun e => ?_, run_all q⟩⟩
        · rw [show 1 + 1 + runC q = runC q + 1 + 1 by omega]; rfl
        · rcases hd with rfl | rfl
          · exact .inr (.inl rfl)
          · exact .inr (.inr rfl)
        · have := congrArg List.length e
          have h2 := runC_le q
          rw [List.length_take, List.length_nil] at this; omega
      · rw [if_neg k] at hes
        rw [hes] at hr ⊢
        have e : (c :: r).drop (1 + 0) = r := rfl
        rw [e] at hr ⊢
        refine ⟨r.take (runC r), ?_, .inr ⟨[], r.take (runC r), rfl, .inl rfl, fun e => ?_, run_all r⟩⟩
        · rw [show 1 + 0 + runC r = runC r + 1 by omega]; rfl
        · have := congrArg List.length e
          have h2 := runC_le r
          rw [List.length_take, List.length_nil] at this; omega
    obtain ⟨r, e | e⟩ := head_two h.1
    · obtain ⟨P, h1, h2⟩ := key _ _ e
      exact ⟨P, .inr (.inl h1), h2⟩
    · obtain ⟨P, h1, h2⟩ := key _ _ e
      exact ⟨P, .inr (.inr h1), h2⟩
  · rw [if_neg h]; exact ⟨[], .inl ⟨by simp, rfl⟩, .inl rfl⟩
theorem split4 (s : List UInt8) (a b c : Nat) : s = s.take a ++ ((s.drop a).take b ++ ((s.drop (a + b)).take c ++ s.drop (a + b + c))) := by
  rw [show s.drop (a + b + c) = (s.drop (a + b)).drop c by rw [List.drop_drop], List.take_append_drop, show s.drop (a + b) = (s.drop a).drop b by rw [List.drop_drop], List.take_append_drop, List.take_append_drop]
/-- a text that is all numeral has these parts -/
theorem num_parts {s : List UInt8} (h0 : s ≠ []) (h : numN s = s.length) : ∃ sg W F FR P EX, NumP s sg W F FR P EX := by
  have hpos : s.length ≠ 0 := fun e => h0 (List.length_eq_zero_iff.1 e)
  have hz : intN (s.drop (signN s)) ≠ 0 := by
    intro hz
    unfold numN at h; rw [if_pos hz] at h; omega
  have hnum : numN s = signN s + intN (s.drop (signN s)) + fracN (s.drop (signN s + intN (s.drop (signN s)))) + expN (s.drop (signN s + intN (s.drop (signN s)) + fracN (s.drop (signN s + intN (s.drop (signN s)))))) := by
    unfold numN; rw [if_neg hz]
  obtain ⟨w1, w2⟩ := int_part _ hz
  obtain ⟨F, f1, f2⟩ := frac_part (s.drop (signN s + intN (s.drop (signN s))))
  obtain ⟨P, e1, e2⟩ := exp_part (s.drop (signN s + intN (s.drop (signN s)) + fracN (s.drop (signN s + intN (s.drop (signN s))))))
  refine ⟨_, _, F, _, P, _, ⟨?_, sign_part s, w1, w2, f1, f2, e1, e2⟩⟩
  rw [List.take_of_length_le (l := s.drop (signN s + intN (s.drop (signN s)) + fracN (s.drop (signN s + intN (s.drop (signN s)))))) (by rw [List.length_drop]; omega)]
  exact split4 _ _ _ _
theorem dig_ne {c k : UInt8} (h : digC c = true) (hk : digC k = false) : c ≠ k := fun e => by subst e; rw [h] at hk; cases hk
theorem all_not {k : UInt8} (hk : digC k = false) : ∀ {l : List UInt8}, l.all digC = true → l.contains k = false
  | [], _ => rfl
  | c :: l, h => by
    simp only [List.all_cons, Bool.and_eq_true] at h
    rw [List.contains_cons, all_not hk h.2, Bool.or_false]
    have := dig_ne h.1 hk
    simpa using fun e : k = c => this e.symm
end Go.VM
