/- Which JSON values are valid, by the reference. -/
import Derived.Test.YtbmilkoebhmnnaaGreatDoorKsort
import Derived.Test.YtbmilkoebhmnnaaGreatDoorVal
import Derived.Test.YtbmilkoebhmnnaaGreatDoorTok
set_option linter.unusedVariables false
set_option linter.unusedSimpArgs false
namespace Go.VM
mutual
/-- how deeply arrays and objects are nested -/
def nestV : ApiValue → Nat
  | ⟨kind, _, _, items⟩ => (if kind == 6 || kind == 7 then 1 else 0) + nestVs items
def nestVs : List ApiValue → Nat
  | [] => 0
  | x :: xs => max (nestV x) (nestVs xs)
end
theorem nestV_eq (v : ApiValue) : nestV v = (if v.kind == 6 || v.kind == 7 then 1 else 0) + nestVs v.items := by cases v; rw [nestV]
theorem cntV_pos (v : ApiValue) : 0 < cntV v := by rw [cntV_eq]; omega
section
variable {N : Nat}
theorem count_loop (inner : Nat) (rc : ApiValue → Int → Option Int) : ∀ (xs : List ApiValue) (n : Nat), n + cntVs xs ≤ 20000 → (∀ x, x ∈ xs → rc x (inner : Int) = some (if inner + nestV x ≤ 64 then (cntV x : Int) else 0)) →
    inner ≤ 64 → ref15_count_L1 N rc (inner : Int) (fun j => some j) xs (n : Int) = some (if inner + nestVs xs ≤ 64 then ((n + cntVs xs : Nat) : Int) else 0)
  | [], n, _, _, hi => by rw [ref15_count_L1, nestVs, cntVs, if_pos (by omega)]; rfl
  | x :: xs, n, hn, hr, hi => by
    rw [cntVs] at hn
    have hp := cntV_pos x
    rw [ref15_count_L1, hr x (by simp), Option.bind_some, nestVs, cntVs]
    by_cases h : inner + nestV x ≤ 64
    · have e0 : ((cntV x : Int) == 0) = false := by simp; omega
      rw [if_pos h, e0, if_neg (by decide), wr_i64 (by omega), if_neg (by simp; omega), show (n : Int) + (cntV x : Int) = ((n + cntV x : Nat) : Int) by simp]
      rw [count_loop inner rc xs (n + cntV x) (by omega) (fun y hy => hr y (by simp [hy])) hi]
      by_cases h2 : inner + nestVs xs ≤ 64
      · rw [if_pos h2, if_pos (by omega)]; congr 2; omega
      · rw [if_neg h2, if_neg (by omega)]
    · rw [if_neg h, if_pos (by decide), if_neg (by omega)]
theorem cnt_mem {x : ApiValue} : ∀ {xs : List ApiValue}, x ∈ xs → cntV x ≤ cntVs xs
  | y :: xs, h => by
    rw [cntVs]
    rcases List.mem_cons.1 h with rfl | h
    · omega
    · have := cnt_mem h; omega
theorem count_ok : ∀ (D e d : Nat) (v : ApiValue), okW e v → e ≤ D → d ≤ 64 → cntV v ≤ 20000 → ref15_count N D v (d : Int) = some (if d + nestV v ≤ 64 then (cntV v : Int) else 0)
  | 0, e, d, v, h, he, _, _ => by have := h.pos; omega
  | D + 1, e, d, v, h, he, hd, hc => by
    obtain ⟨e, rfl⟩ : ∃ k, e = k + 1 := ⟨e - 1, by have := h.pos; omega⟩
    have hi := h.items
    rw [cntV_eq] at hc
    have main : ∀ inner : Nat, inner ≤ 65 → (if decide ((inner : Int) > 64) = true then some (0 : Int) else joinK (fun j9 : Int => some j9) fun k10 => grd (fitsS v.items.length) (ref15_count_L1 N (ref15_count N D) (inner : Int) k10 v.items 1)) = some (if inner + nestVs v.items ≤ 64 then (cntV v : Int) else 0) := by
      intro inner hin
      by_cases h64 : inner > 64
      · rw [if_pos (by simp; omega), if_neg (by omega)]
      · rw [if_neg (by simp; omega), joinK_eq, grdS (by omega), show (1 : Int) = ((1 : Nat) : Int) from rfl]
        rw [count_loop inner (ref15_count N D) v.items 1 (by omega) (fun x hx => count_ok D e inner x (h.sub x hx) (by omega) (by omega) (by have := cnt_mem hx; omega)) (by omega), cntV_eq]
    rw [ref15_count, nestV_eq]
    simp only [joinK_eq]
    cases h6 : v.kind == 6
    · cases h7 : v.kind == 7
      · simp only [Bool.false_eq_true, if_false, Bool.or_false, Nat.zero_add]
        exact main d (by omega)
      · simp only [Bool.false_eq_true, if_false, if_true, Bool.or_true]
        rw [wr_i64 (by omega), show (d : Int) + 1 = ((d + 1 : Nat) : Int) by simp]
        have := main (d + 1) (by omega)
        simpa [Nat.add_assoc, joinK_eq] using this
    · simp only [if_true, Bool.true_or]
      rw [wr_i64 (by omega), show (d : Int) + 1 = ((d + 1 : Nat) : Int) by simp]
      have := main (d + 1) (by omega)
      simpa [Nat.add_assoc, joinK_eq] using this
/-- the canonical form of a text, by the reference -/
def numR (N : Nat) (s : List UInt8) : List UInt8 × Int := if s ≠ [] ∧ numN s = s.length then numS N s else ([], 130)
theorem numR_eq (s : List UInt8) (hb : s.length ≤ 2000000) (hN : s.length + 30 < N) : ref13_Number N s = some (numR N s) ∧ token_Number N s = some (numR N s) := by
  unfold numR
  by_cases h : s ≠ [] ∧ numN s = s.length
  · rw [if_pos h]
    obtain ⟨h1, h2, _⟩ := num_same h.1 h.2 hb hN
    exact ⟨h2, h1⟩
  · rw [if_neg h]
    have hb' : s = [] ∨ numN s ≠ s.length := by
      by_cases h1 : s = []
      · exact .inl h1
      · exact .inr fun h2 => h ⟨h1, h2⟩
    exact ⟨rnum_bad s hb' (by omega) hN, pnum_bad s hb' (by omega)⟩
def isNum (N : Nat) (s : List UInt8) : Bool := (numR N s).2 == 0 && (numR N s).1 == s
mutual
def shpV (N : Nat) : ApiValue → Bool
  | ⟨kind, text, keys, items⟩ =>
    if kind == 1 || kind == 2 || kind == 3 then text == [] && keys.isEmpty && items.isEmpty
    else if kind == 4 then isNum N text && keys.isEmpty && items.isEmpty
    else if kind == 5 then (countS N text).isSome && keys.isEmpty && items.isEmpty
    else if kind == 6 then text == [] && keys.isEmpty && shpVs N items
    else if kind == 7 then text == [] && decide (keys.length = items.length) && diffK N keys && shpVs N items
    else false
def shpVs (N : Nat) : List ApiValue → Bool
  | [] => true
  | x :: xs => shpV N x && shpVs N xs
end
theorem shape_loop (rc : ApiValue → Option Bool) (k24 : Unit → Option Bool) (hk : k24 () = some true) : ∀ (xs : List ApiValue), (∀ x, x ∈ xs → rc x = some (shpV N x)) → ref15_shape_L1 N rc k24 xs = some (shpVs N xs)
  | [], _ => by rw [ref15_shape_L1, shpVs, hk]
  | x :: xs, h => by
    rw [ref15_shape_L1, h x (by simp), Option.bind_some, shpVs, shape_loop rc k24 hk xs fun y hy => h y (by simp [hy])]
    cases shpV N x <;> simp
theorem empty_len {α : Type} (l : List α) : (((l.length : Nat) : Int) == 0) = l.isEmpty := by cases l <;> simp; omega
theorem shape_ok (hN : 2000 ≤ N) : ∀ (D e : Nat) (v : ApiValue), okW e v → e ≤ D → ref15_shape N D v = some (shpV N v)
  | 0, e, v, h, he => by have := h.pos; omega
  | D + 1, e, v, h, he => by
    obtain ⟨e, rfl⟩ : ∃ k, e = k + 1 := ⟨e - 1, by have := h.pos; omega⟩
    have hi := h.items; have ht := h.text; have hk := h.keys; have hkl := h.klen
    have hs := h.sub
    have loop : ∀ k24 : Unit → Option Bool, k24 () = some true → ref15_shape_L1 N (ref15_shape N D) k24 v.items = some (shpVs N v.items) := fun k24 h24 => shape_loop _ k24 h24 v.items fun x hx => shape_ok hN D e x (hs x hx) (by omega)
    have hdiff := different_eq (N := N) v.keys (by omega) (by omega) fun k hk => ⟨by have := hkl k hk; omega, by have := hkl k hk; omega⟩
    have hnum := (numR_eq (N := N) v.text (by omega) (by omega)).1
    have hval := rvalid_eq (N := N) (l := v.text) (by omega) (by omega)
    rw [ref15_shape]
    obtain ⟨kind, text, keys, items⟩ := v
    simp only at *
    rw [shpV]
    simp only [joinK_eq, empty_len, hdiff, hnum, hval, Option.bind_some]
    rw [grdS (by omega), loop _ rfl]
    have elen : (((keys.length : Nat) : Int) != ((items.length : Nat) : Int)) = !decide (keys.length = items.length) := by
      by_cases h : keys.length = items.length
      · simp [h]
      · have : ¬ ((keys.length : Int) = (items.length : Int)) := by omega
        simp [h, this, bne]
    have elen0 : (((keys.length : Nat) : Int) != 0) = !keys.isEmpty := by rw [bne, empty_len]
    rw [elen, elen0]
    unfold isNum
    cases h1 : kind == 1 <;> cases h2 : kind == 2 <;> cases h3 : kind == 3 <;> simp only [Bool.false_eq_true, if_false, if_true, Bool.or_false, Bool.or_true, Bool.true_or, Bool.false_or, Bool.or_self]
    all_goals first
      | (cases text == [] <;> cases keys.isEmpty <;> rfl)
      | skip
    cases h4 : kind == 4 <;> cases h5 : kind == 5 <;> cases h6 : kind == 6 <;> cases h7 : kind == 7 <;> simp only [Bool.false_eq_true, if_false, if_true]
    all_goals first
      | rfl
      | (cases (numR N text).2 == 0 <;> cases (numR N text).1 == text <;> cases keys.isEmpty <;> rfl)
      | (cases (countS N text).isSome <;> cases keys.isEmpty <;> rfl)
      | (cases text == [] <;> cases keys.isEmpty <;> rfl)
      | (cases text == [] <;> cases decide (keys.length = items.length) <;> cases diffK N keys <;> rfl)
theorem valid_ok (hN : 2000 ≤ N) {v : ApiValue} (h : okW 70 v) (hc : cntV v ≤ 20000) : ref15_Valid N v = some (decide (nestV v ≤ 64) && shpV N v) := by
  unfold ref15_Valid
  have hp := cntV_pos v
  rw [show (0 : Int) = ((0 : Nat) : Int) from rfl, count_ok N 70 0 v h (by omega) (by omega) hc, Option.bind_some, Nat.zero_add]
  by_cases hn : nestV v ≤ 64
  · rw [if_pos hn, if_pos (by simp; omega), if_pos (by simp; omega), shape_ok hN N 70 v h (by omega), Option.bind_some]
    simp [hn]
  · rw [if_neg hn, if_neg (by simp)]; simp [hn]
end
end Go.VM
