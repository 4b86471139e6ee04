/- The plain law of TokenNumbers: both canonical forms are the same. -/
import Derived.Test.YtmdjjhakfoenpaaDoorNumc
import Derived.Test.YtmdjjhakfoenpaaDoorRd
set_option linter.unusedVariables false
set_option linter.unusedSimpArgs false
namespace Go.VM
theorem drop_while_le {p : UInt8 → Bool} (l : List UInt8) : (l.dropWhile p).length ≤ l.length := (List.dropWhile_sublist p (l := l)).length_le
/-- exponents far beyond the bounds make no difference -/
theorem canonS_far {sg m : List UInt8} {x y : Int} (hm : m.length ≤ 2000) (h : x = y ∨ (10000 ≤ x ∧ 10000 ≤ y) ∨ (x ≤ -10000 ∧ y ≤ -10000)) : canonS sg m x = canonS sg m y := by
  unfold canonS
  dsimp only
  have h1 := drop_while_le (p := fun x : UInt8 => x == 48) m
  have h2 := trimE_le (fun x : UInt8 => x == 48) (m.dropWhile (fun x : UInt8 => x == 48))
  generalize m.dropWhile (fun x : UInt8 => x == 48) = m1 at *
  generalize trimE (fun x : UInt8 => x == 48) m1 = sh at *
  by_cases hz : sh = []
  · rw [if_pos hz, if_pos hz]
  · rw [if_neg hz, if_neg hz]
    rcases h with rfl | ⟨ha, hb⟩ | ⟨ha, hb⟩
    · rfl
    · rw [if_pos (.inr (.inr (by omega))), if_pos (.inr (.inr (by omega)))]
    · rw [if_pos (.inr (.inl (by omega))), if_pos (.inr (.inl (by omega)))]
theorem expV_far (P : List UInt8) (f : Nat) (hf : f ≤ 2000) : expV (2 ^ 40) P - f = expV (2 ^ 30) P - f ∨ (10000 ≤ expV (2 ^ 40) P - f ∧ 10000 ≤ expV (2 ^ 30) P - f) ∨ (expV (2 ^ 40) P - f ≤ -10000 ∧ expV (2 ^ 30) P - f ≤ -10000) := by
  unfold expV
  generalize val10 0 (P.dropWhile ([43, 45] : List UInt8).contains) = v
  by_cases h : v ≤ 2 ^ 30
  · rw [Nat.min_eq_left (show v ≤ 2 ^ 40 by omega), Nat.min_eq_left h]; exact .inl rfl
  · rw [Nat.min_eq_right (show 2 ^ 30 ≤ v by omega)]
    have h2 : 2 ^ 30 ≤ min v (2 ^ 40) := Nat.le_min.2 ⟨by omega, by decide⟩
    split
    · exact .inr (.inr ⟨by omega, by omega⟩)
    · exact .inr (.inl ⟨by omega, by omega⟩)
theorem sane13n : law13_sane 281474976710656 = some true := by kernel_rfl
theorem tokenNumbers_said (s : List UInt8) (hs : s.length ≤ reachBytes) : law13_TokenNumbers 281474976710656 s = some true := by
  have hr : reachBytes = 140737488351232 := rfl
  rw [hr] at hs
  unfold law13_TokenNumbers
  rw [sane13n, Option.bind_some, if_pos rfl]
  by_cases hn : s = [] ∨ numN s ≠ s.length
  · rw [pnum_bad s hn (by omega), Option.bind_some, rnum_bad s hn (by omega) (by omega), Option.bind_some]
    split <;> simp
  · have hne : s ≠ [] := fun e => hn (.inl e)
    have hnum : numN s = s.length := Classical.not_not.1 fun e => hn (.inr e)
    obtain ⟨sg, W, F, FR, P, EX, h⟩ := num_parts hne hnum
    rw [pnum_eq h hnum (by omega) (by omega), Option.bind_some, rnum_eq h hnum (by omega) (by omega), Option.bind_some]
    by_cases hl : (s.length : Int) > 1000
    · rw [if_pos (decide_eq_true hl)]
    · rw [if_neg (by simpa using hl)]
      obtain ⟨l1, l2, l3⟩ := h.len
      rw [canonS_far (by rw [List.length_append]; omega) (expV_far P F.length (by omega))]
      simp
end Go.VM
