/- The canonical text of a JSON value, by the reference. -/
import Derived.Test.YtbmilkoebhmnnaaGreatDoorKshape
set_option linter.unusedVariables false
set_option linter.unusedSimpArgs false
namespace Go.VM
theorem shpVs_mem {N : Nat} : ∀ {xs : List ApiValue}, shpVs N xs = true → ∀ x, x ∈ xs → shpV N x = true
  | [], _, x, hx => by cases hx
  | y :: xs, h, x, hx => by
    rw [shpVs, Bool.and_eq_true] at h
    rcases List.mem_cons.1 hx with rfl | hx
    · exact h.1
    · exact shpVs_mem h.2 x hx
theorem shpVs_of {N : Nat} : ∀ {xs : List ApiValue}, (∀ x, x ∈ xs → shpV N x = true) → shpVs N xs = true
  | [], _ => rfl
  | y :: xs, h => by rw [shpVs, h y (by simp), shpVs_of fun x hx => h x (by simp [hx])]; rfl
/-- the kinds of valid values -/
inductive Shp (N : Nat) : ApiValue → Prop
  | word (k : Int) (hk : k = 1 ∨ k = 2 ∨ k = 3) : Shp N ⟨k, [], [], []⟩
  | num (s : List UInt8) (h : isNum N s = true) : Shp N ⟨4, s, [], []⟩
  | str (s : List UInt8) (h : (countS N s).isSome = true) : Shp N ⟨5, s, [], []⟩
  | arr (xs : List ApiValue) (h : ∀ x, x ∈ xs → shpV N x = true) : Shp N ⟨6, [], [], xs⟩
  | obj (ks : List (List UInt8)) (xs : List ApiValue) (hl : ks.length = xs.length) (hd : diffK N ks = true) (h : ∀ x, x ∈ xs → shpV N x = true) : Shp N ⟨7, [], ks, xs⟩
theorem shp_of {N : Nat} {v : ApiValue} (h : shpV N v = true) : Shp N v := by
  obtain ⟨kind, text, keys, items⟩ := v
  rw [shpV] at h
  by_cases h1 : (kind == 1 || kind == 2 || kind == 3) = true
  · rw [if_pos h1] at h
    simp only [Bool.and_eq_true, beq_iff_eq, List.isEmpty_iff] at h
    obtain ⟨⟨rfl, rfl⟩, rfl⟩ := h
    simp only [Bool.or_eq_true, beq_iff_eq] at h1
    exact .word _ (by omega)
  rw [if_neg h1] at h
  by_cases h4 : (kind == 4) = true
  · rw [if_pos h4] at h
    simp only [Bool.and_eq_true, List.isEmpty_iff] at h
    obtain ⟨⟨hn, rfl⟩, rfl⟩ := h
    rw [beq_iff_eq] at h4; subst h4
    exact .num _ hn
  rw [if_neg h4] at h
  by_cases h5 : (kind == 5) = true
  · rw [if_pos h5] at h
    simp only [Bool.and_eq_true, List.isEmpty_iff] at h
    obtain ⟨⟨hn, rfl⟩, rfl⟩ := h
    rw [beq_iff_eq] at h5; subst h5
    exact .str _ hn
  rw [if_neg h5] at h
  by_cases h6 : (kind == 6) = true
  · rw [if_pos h6] at h
    simp only [Bool.and_eq_true, beq_iff_eq, List.isEmpty_iff] at h
    obtain ⟨⟨rfl, rfl⟩, hs⟩ := h
    rw [beq_iff_eq] at h6; subst h6
    exact .arr _ (shpVs_mem hs)
  rw [if_neg h6] at h
  by_cases h7 : (kind == 7) = true
  · rw [if_pos h7] at h
    simp only [Bool.and_eq_true, beq_iff_eq, decide_eq_true_eq] at h
    obtain ⟨⟨⟨rfl, hl⟩, hd⟩, hs⟩ := h
    rw [beq_iff_eq] at h7; subst h7
    exact .obj _ _ hl hd (shpVs_mem hs)
  rw [if_neg h7] at h; cases h
theorem Shp.b {N : Nat} {v : ApiValue} (h : Shp N v) : shpV N v = true := by
  cases h with
  | word k hk => rcases hk with rfl | rfl | rfl <;> rfl
  | num s h => simp [shpV, h]
  | str s h => simp [shpV, h]
  | arr xs h => simp [shpV, shpVs_of h]
  | obj ks xs hl hd h => simp [shpV, shpVs_of h, hl, hd]
theorem getL_map (f : ApiValue → ApiValue) : ∀ (ks : List (List UInt8)) (xs : List ApiValue) (k : List UInt8), ks.length = xs.length → k ∈ ks → ∃ x, x ∈ xs ∧ getL ks xs k = (x, true) ∧ getL ks (xs.map f) k = (f x, true)
  | [], [], k, _, h => by cases h
  | a :: ks, x :: xs, k, hl, h => by
    by_cases e : a = k
    · exact ⟨x, by simp, by simp [getL, e], by simp [getL, e]⟩
    · rcases List.mem_cons.1 h with h | h
      · exact absurd h.symm e
      · obtain ⟨y, h1, h2, h3⟩ := getL_map f ks xs k (by simpa using hl) h
        exact ⟨y, by simp [h1], by simp [getL, e, h2], by simp [getL, e, h3]⟩
section
variable {N : Nat}
end
end Go.VM
