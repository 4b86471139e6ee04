/- What a token is; that both canonical forms of a number are the same; numerals at the head of a text. -/
import Derived.Test.YtbmilkoebhmnnaaGreatDoorNumc
import Derived.Test.YtbmilkoebhmnnaaGreatDoorNext
set_option linter.unusedVariables false
set_option linter.unusedSimpArgs false
namespace Go.VM
theorem drop_while_le' {p : UInt8 → Bool} (l : List UInt8) : (l.dropWhile p).length ≤ l.length := (List.dropWhile_sublist p (l := l)).length_le
/-- exponents far beyond the bounds make no difference -/
theorem canonS_away {sg m : List UInt8} {x y : Int} (hm : m.length ≤ 2000000) (h : x = y ∨ (100000000 ≤ x ∧ 100000000 ≤ y) ∨ (x ≤ -100000000 ∧ y ≤ -100000000)) : canonS sg m x = canonS sg m y := by
  unfold canonS
  dsimp only
  have h1 := drop_while_le' (p := fun x : UInt8 => x == 48) m
  have h2 := trimE_le (fun x : UInt8 => x == 48) (m.dropWhile (fun x : UInt8 => x == 48))
  generalize m.dropWhile (fun x : UInt8 => x == 48) = m1 at *
  generalize trimE (fun x : UInt8 => x == 48) m1 = sh at *
  by_cases hz : sh = []
  · rw [if_pos hz, if_pos hz]
  · rw [if_neg hz, if_neg hz]
    rcases h with rfl | ⟨ha, hb⟩ | ⟨ha, hb⟩
    · rfl
    · rw [if_pos (.inr (.inr (by omega))), if_pos (.inr (.inr (by omega)))]
    · rw [if_pos (.inr (.inl (by omega))), if_pos (.inr (.inl (by omega)))]
theorem expV_away (P : List UInt8) (f : Nat) (hf : f ≤ 2000000) : expV (2 ^ 40) P - f = expV (2 ^ 30) P - f ∨ (100000000 ≤ expV (2 ^ 40) P - f ∧ 100000000 ≤ expV (2 ^ 30) P - f) ∨ (expV (2 ^ 40) P - f ≤ -100000000 ∧ expV (2 ^ 30) P - f ≤ -100000000) := by
  unfold expV
  generalize val10 0 (P.dropWhile ([43, 45] : List UInt8).contains) = v
  by_cases h : v ≤ 2 ^ 30
  · rw [Nat.min_eq_left (show v ≤ 2 ^ 40 by omega), Nat.min_eq_left h]; exact .inl rfl
  · rw [Nat.min_eq_right (show 2 ^ 30 ≤ v by omega)]
    have h2 : 2 ^ 30 ≤ min v (2 ^ 40) := Nat.le_min.2 ⟨by omega, by decide⟩
    split
    · exact .inr (.inr ⟨by omega, by omega⟩)
    · exact .inr (.inl ⟨by omega, by omega⟩)
theorem canonS_err (sg m : List UInt8) (x : Int) : (canonS sg m x).2 = 0 ∨ canonS sg m x = ([], 144) := by
  unfold canonS
  dsimp only
  split
  · exact .inl rfl
  · split
    · exact .inr rfl
    · exact .inl rfl
/-- the canonical form of a numeral -/
def numS (N : Nat) (s : List UInt8) : List UInt8 × Int := (token_Number N s).getD ([], 144)
theorem num_same {N : Nat} {s : List UInt8} (h0 : s ≠ []) (hn : numN s = s.length) (hb : s.length ≤ 2000000) (hN : s.length + 30 < N) :
    token_Number N s = some (numS N s) ∧ ref13_Number N s = some (numS N s) ∧ ((numS N s).2 = 0 ∨ numS N s = ([], 144)) := by
  obtain ⟨sg, W, F, FR, P, EX, h⟩ := num_parts h0 hn
  obtain ⟨l1, l2, l3⟩ := h.len
  have e1 := pnum_eq (N := N) h hn (by omega) hN
  have e2 := rnum_eq (N := N) h hn (by omega) hN
  have e3 : numS N s = canonS sg (W ++ F) (expV (2 ^ 40) P - F.length) := by unfold numS; rw [e1]; rfl
  refine ⟨by rw [e3]; exact e1, ?_, by rw [e3]; exact canonS_err _ _ _⟩
  rw [e2, e3, canonS_away (by rw [List.length_append]; omega) (expV_away P F.length (by omega))]
/-! a numeral at the head of a text is a numeral by itself -/
end Go.VM
