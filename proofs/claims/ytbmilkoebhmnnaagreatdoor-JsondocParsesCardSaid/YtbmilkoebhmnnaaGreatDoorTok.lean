/- What a token is; that both canonical forms of a number are the same; numerals at the head of a text. -/
import Derived.Test.YtbmilkoebhmnnaaGreatDoorNumc
import Derived.Test.YtbmilkoebhmnnaaGreatDoorNext
set_option linter.unusedVariables false
set_option linter.unusedSimpArgs false
namespace Go.VM
theorem drop_while_le' {p : UInt8 → Bool} (l : List UInt8) : (l.dropWhile p).length ≤ l.length := (List.dropWhile_sublist p (l := l)).length_le
/-- exponents far beyond the bounds make no difference -/
theorem canonS_away {sg m : List UInt8} {x y : Int} (hm : m.length ≤ 2000000) (h : x = y ∨ (100000000 ≤ x ∧ 100000000 ≤ y) ∨ (x ≤ -100000000 ∧ y ≤ -100000000)) : canonS sg m x = canonS sg m y := by
  unfold canonS
  dsimp only
  have h1 := drop_while_le' (p := fun x : UInt8 => x == 48) m
  have h2 := trimE_le (fun x : UInt8 => x == 48) (m.dropWhile (fun x : UInt8 => x == 48))
  generalize m.dropWhile (fun x : UInt8 => x == 48) = m1 at *
  generalize trimE (fun x : UInt8 => x == 48) m1 = sh at *
  by_cases hz : sh = []
  · rw [if_pos hz, if_pos hz]
  · rw [if_neg hz, if_neg hz]
    rcases h with rfl | ⟨ha, hb⟩ | ⟨ha, hb⟩
    · rfl
    · rw [if_pos (.inr (.inr (by omega))), if_pos (.inr (.inr (by omega)))]
    · rw [if_pos (.inr (.inl (by omega))), if_pos (.inr (.inl (by omega)))]
theorem expV_away (P : List UInt8) (f : Nat) (hf : f ≤ 2000000) : expV (2 ^ 40) P - f = expV (2 ^ 30) P - f ∨ (100000000 ≤ expV (2 ^ 40) P - f ∧ 100000000 ≤ expV (2 ^ 30) P - f) ∨ (expV (2 ^ 40) P - f ≤ -100000000 ∧ expV (2 ^ 30) P - f ≤ -100000000) := by
  unfold expV
  generalize val10 0 (P.dropWhile ([43, 45] : List UInt8).contains) = v
  by_cases h : v ≤ 2 ^ 30
  · rw [Nat.min_eq_left (show v ≤ 2 ^ 40 by omega), Nat.min_eq_left h]; exact .inl rfl
  · rw [Nat.min_eq_right (show 2 ^ 30 ≤ v by omega)]
    have h2 : 2 ^ 30 ≤ min v (2 ^ 40) := Nat.le_min.2 ⟨by omega, by decide⟩
    split
    · exact .inr (.inr ⟨by omega, by omega⟩)
    · exact .inr (.inl ⟨by omega, by omega⟩)
theorem canonS_err (sg m : List UInt8) (x : Int) : (canonS sg m x).2 = 0 ∨ canonS sg m x = ([], 144) := by
  unfold canonS
  dsimp only
  split
  · exact .inl rfl
  · split
    · exact .inr rfl
    · exact .inl rfl
/-- the canonical form of a numeral -/
def numS (N : Nat) (s : List UInt8) : List UInt8 × Int := (token_Number N s).getD ([], 144)
theorem num_same {N : Nat} {s : List UInt8} (h0 : s ≠ []) (hn : numN s = s.length) (hb : s.length ≤ 2000000) (hN : s.length + 30 < N) :
    token_Number N s = some (numS N s) ∧ ref13_Number N s = some (numS N s) ∧ ((numS N s).2 = 0 ∨ numS N s = ([], 144)) := by
  obtain ⟨sg, W, F, FR, P, EX, h⟩ := num_parts h0 hn
  obtain ⟨l1, l2, l3⟩ := h.len
  have e1 := pnum_eq (N := N) h hn (by omega) hN
  have e2 := rnum_eq (N := N) h hn (by omega) hN
  have e3 : numS N s = canonS sg (W ++ F) (expV (2 ^ 40) P - F.length) := by unfold numS; rw [e1]; rfl
  refine ⟨by rw [e3]; exact e1, ?_, by rw [e3]; exact canonS_err _ _ _⟩
  rw [e2, e3, canonS_away (by rw [List.length_append]; omega) (expV_away P F.length (by omega))]
/-! a numeral at the head of a text is a numeral by itself -/
theorem headB_take {set t : List UInt8} {n : Nat} (h : 0 < n) : headB set (t.take n) = headB set t := by
  cases t with
  | nil => simp
  | cons c t =>
    obtain ⟨n, rfl⟩ : ∃ k, n = k + 1 := ⟨n - 1, by omega⟩
    rfl
theorem while_take (p : UInt8 → Bool) : ∀ (t : List UInt8) (n : Nat), ((t.take n).takeWhile p).length = min (t.takeWhile p).length n
  | [], n => by simp
  | c :: t, 0 => by simp
  | c :: t, n + 1 => by
    simp only [List.take_succ_cons, List.takeWhile_cons]
    cases p c
    · simp
    · simp only [if_true, List.length_cons, while_take p t n]; omega
theorem runC_take (t : List UInt8) (n : Nat) : runC (t.take n) = min (runC t) n := while_take _ _ _
theorem drop_take' (t : List UInt8) (a n : Nat) : (t.take n).drop a = (t.drop a).take (n - a) := by rw [List.drop_take]
theorem intN_take {t : List UInt8} {n : Nat} (h : intN t ≤ n) (hn : 0 < n) : intN (t.take n) = intN t := by
  unfold intN at *
  rw [headB_take hn]
  split
  · rfl
  · rename_i hz; rw [if_neg hz] at h; rw [runC_take]; omega
theorem fracN_take {t : List UInt8} {n : Nat} (h : fracN t ≤ n) : fracN (t.take n) = fracN t := by
  unfold fracN at *
  by_cases h1 : headB [46] t = true ∧ 0 < runC (t.drop 1)
  · rw [if_pos h1] at h ⊢
    have e : runC ((t.take n).drop 1) = runC (t.drop 1) := by rw [drop_take', runC_take]; omega
    rw [if_pos ⟨by rw [headB_take (by omega)]; exact h1.1, by rw [e]; exact h1.2⟩, e]
  · rw [if_neg h1]
    refine if_neg fun h2 => h1 ⟨?_, ?_⟩
    · have : 0 < n := by
        rcases Nat.eq_zero_or_pos n with e | e
        · subst e; simp [headB] at h2
        · exact e
      rw [headB_take this] at h2; exact h2.1
    · have := h2.2; rw [drop_take', runC_take] at this; omega
theorem expN_take {t : List UInt8} : expN (t.take (expN t)) = expN t := by
  unfold expN
  by_cases h1 : headB [101, 69] t = true ∧ 0 < runC (t.drop (1 + esgN t))
  · rw [if_pos h1]
    have h12 := h1.2
    have hg : ∀ n, 1 < n → esgN (t.take n) = esgN t := fun n hn => by
      unfold esgN
      rw [drop_take', headB_take (by omega)]
    have e : runC ((t.take (1 + esgN t + runC (t.drop (1 + esgN t)))).drop (1 + esgN t)) = runC (t.drop (1 + esgN t)) := by rw [drop_take', runC_take]; omega
    rw [hg _ (by omega), e, if_pos ⟨by rw [headB_take (by omega)]; exact h1.1, h1.2⟩]
  · rw [if_neg h1, List.take_zero]
    exact if_neg fun h => by simp [headB] at h
theorem numN_take (t : List UInt8) : numN (t.take (numN t)) = numN t := by
  by_cases hz : intN (t.drop (signN t)) = 0
  · have e : numN t = 0 := by unfold numN; rw [if_pos hz]
    rw [e, List.take_zero]; rfl
  · have e : numN t = signN t + intN (t.drop (signN t)) + fracN (t.drop (signN t + intN (t.drop (signN t)))) + expN (t.drop (signN t + intN (t.drop (signN t)) + fracN (t.drop (signN t + intN (t.drop (signN t)))))) := by
      unfold numN; rw [if_neg hz]
    generalize hn : numN t = n at *
    have hs : signN (t.take n) = signN t := by unfold signN; rw [headB_take (by omega)]
    have hi : intN ((t.take n).drop (signN t)) = intN (t.drop (signN t)) := by rw [drop_take']; exact intN_take (by omega) (by omega)
    have hf : fracN ((t.take n).drop (signN t + intN (t.drop (signN t)))) = fracN (t.drop (signN t + intN (t.drop (signN t)))) := by rw [drop_take']; exact fracN_take (by omega)
    have he : expN ((t.take n).drop (signN t + intN (t.drop (signN t)) + fracN (t.drop (signN t + intN (t.drop (signN t)))))) = expN (t.drop (signN t + intN (t.drop (signN t)) + fracN (t.drop (signN t + intN (t.drop (signN t)))))) := by
      rw [drop_take']
      have : n - (signN t + intN (t.drop (signN t)) + fracN (t.drop (signN t + intN (t.drop (signN t))))) = expN (t.drop (signN t + intN (t.drop (signN t)) + fracN (t.drop (signN t + intN (t.drop (signN t)))))) := by omega
      rw [this]; exact expN_take
    unfold numN
    rw [hs, hi, if_neg hz, hf, he]
    exact e.symm
/-- what a token may be -/
inductive TK (n : Nat) : ApiToken → Prop
  | fin (p : Int) : TK n (ApiToken.mk 1 [] p)
  | pun (c : UInt8) (p : Int) (h : punct.contains c = true) : TK n (ApiToken.mk 2 [c] p)
  | txt (s : List UInt8) (p : Int) (h : s.length ≤ n) : TK n (ApiToken.mk 3 s p)
  | num (s : List UInt8) (p : Int) (h0 : s ≠ []) (h : numN s = s.length) (hl : s.length ≤ n) : TK n (ApiToken.mk 4 s p)
  | wrd (s : List UInt8) (p : Int) (h : isWord s = true) : TK n (ApiToken.mk 5 s p)
theorem nextS_ok {N : Nat} {l : List UInt8} {i : Nat} (hi : i ≤ l.length) (he : (nextS N l i).2.2 = 0) : TK l.length (nextS N l i).1 ∧ ∃ j : Nat, (nextS N l i).2.1 = j ∧ i ≤ j ∧ j ≤ l.length ∧ ((nextS N l i).1.kind ≠ 1 → i < j) := by
  unfold nextS at he ⊢
  have hw := while_le wsB (l.drop i)
  rw [List.length_drop] at hw
  generalize hp : i + ((l.drop i).takeWhile wsB).length = p at he ⊢
  obtain ⟨t, ht⟩ : ∃ t, l.drop p = t := ⟨_, rfl⟩
  have hl : p + t.length = l.length := by rw [← ht, List.length_drop]; omega
  rw [ht] at he ⊢
  match t, hl, he with
  | [], hl, he => exact ⟨.fin _, p, rfl, by omega, by simp at hl; omega, fun h => absurd rfl h⟩
  | c :: r, hl, he =>
    simp only [List.length_cons] at hl
    rw [tokS_cons] at he ⊢
    by_cases h1 : punct.contains c = true
    · rw [if_pos h1]; exact ⟨.pun c _ h1, p + 1, rfl, by omega, by omega, fun _ => by omega⟩
    rw [if_neg h1] at he ⊢
    by_cases h2 : c.toNat = 34
    · rw [if_pos h2] at he ⊢
      by_cases h3 : (textS N r (p + 1) []).2.2 = 0
      · rw [if_pos h3]
        have := textS_le N r (p + 1) [] h3
        exact ⟨.txt _ _ (by have := this.2.2; simp at this; omega), _, rfl, by omega, by have := this.2.1; omega, fun _ => by have := this.1; omega⟩
      · rw [if_neg h3] at he; exact absurd he h3
    rw [if_neg h2] at he ⊢
    by_cases h3 : (([45] : List UInt8).contains c || digC c) = true
    · rw [if_pos h3] at he ⊢
      by_cases h4 : numN (c :: r) = 0
      · rw [if_pos h4] at he; cases he
      · rw [if_neg h4]
        have hle := numN_le (c :: r)
        simp only [List.length_cons] at hle
        have hlen : ((c :: r).take (numN (c :: r))).length = numN (c :: r) := by rw [List.length_take]; simp only [List.length_cons]; omega
        refine ⟨.num _ _ (fun e => h4 (by rw [← hlen, e]; rfl)) (by rw [hlen, numN_take]) (by rw [hlen]; omega), _, rfl, by omega, by omega, fun _ => by omega⟩
    rw [if_neg h3] at he ⊢
    by_cases h4 : isWord ((c :: r).takeWhile alphaB) = true
    · rw [if_pos h4]
      have := while_le alphaB (c :: r)
      simp only [List.length_cons] at this
      have hpos : 0 < ((c :: r).takeWhile alphaB).length := by
        rcases Nat.eq_zero_or_pos ((c :: r).takeWhile alphaB).length with e | e
        · rw [List.length_eq_zero_iff.1 e] at h4; simp [isWord] at h4
        · exact e
      exact ⟨.wrd _ _ h4, _, rfl, by omega, by omega, fun _ => by omega⟩
    · rw [if_neg h4] at he; cases he
end Go.VM
