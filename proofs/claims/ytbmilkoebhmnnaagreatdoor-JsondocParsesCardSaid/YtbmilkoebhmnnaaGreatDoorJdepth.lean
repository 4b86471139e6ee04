/- How deeply what is parsed is nested. -/
import Derived.Test.YtbmilkoebhmnnaaGreatDoorVal
set_option linter.unusedVariables false
set_option linter.unusedSimpArgs false
namespace Go.VM
theorem okD.mono {d : Nat} {v : ApiValue} (h : okD d v) : ∀ e, d ≤ e → okD e v := by
  induction h with
  | mk v hk hi h ih =>
    intro e he
    obtain ⟨e', rfl⟩ : ∃ e', e = e' + 1 := ⟨e - 1, by omega⟩
    exact .mk v hk hi fun x hx => ih x hx e' (by omega)
theorem okD_plain (kind : Int) (text : List UInt8) {d : Nat} (h : 1 ≤ d) : okD d (ApiValue.mk kind text [] []) := by
  obtain ⟨d, rfl⟩ : ∃ e, d = e + 1 := ⟨d - 1, by omega⟩
  exact .mk _ (by simp) (by simp) (by simp)
/-- a level of the stack: i: how many there are below; k: how many steps may follow -/
structure lvD (k i : Nat) (v : ApiValue) : Prop where
  keys : v.keys.length + k ≤ 2199023255552
  items : v.items.length + k ≤ 2199023255552
  sub : ∀ x, x ∈ v.items → okD (64 - i) x
structure LS (k : Nat) (p : JPsr) : Prop where
  len : p.stack.length ≤ 64
  out : okD 65 p.out
  lv : ∀ i v, p.stack[i]? = some v → lvD k i v
  kk : k ≤ 2199023255552
theorem lvD.less {k i : Nat} {v : ApiValue} (h : lvD (k + 1) i v) : lvD k i v := ⟨by have := h.keys; omega, by have := h.items; omega, h.sub⟩
theorem lv_snoc {k : Nat} {st : List ApiValue} {v : ApiValue} (h : ∀ i x, (st ++ [v])[i]? = some x → lvD k i x) : (∀ i x, st[i]? = some x → lvD k i x) ∧ lvD k st.length v := by
  refine ⟨fun i x hx => h i x ?_, h st.length v (by simp)⟩
  have hi : i < st.length := by
    rcases Nat.lt_or_ge i st.length with h | h
    · exact h
    · rw [List.getElem?_eq_none h] at hx; cases hx
  rw [List.getElem?_append_left hi]; exact hx
theorem lv_add {k : Nat} {st : List ApiValue} {v : ApiValue} (h : ∀ i x, st[i]? = some x → lvD k i x) (hv : lvD k st.length v) : ∀ i x, (st ++ [v])[i]? = some x → lvD k i x := by
  intro i x hx
  rcases Nat.lt_trichotomy i st.length with hi | hi | hi
  · rw [List.getElem?_append_left hi] at hx; exact h i x hx
  · subst hi
    rw [List.getElem?_append_right (Nat.le_refl _)] at hx
    simp at hx; subst hx; exact hv
  · rw [List.getElem?_eq_none (by simp; omega)] at hx; cases hx
theorem last_cases (l : List ApiValue) : l = [] ∨ ∃ st v, l = st ++ [v] := by
  rcases List.eq_nil_or_concat l with h | ⟨a, b, h⟩
  · exact .inl h
  · exact .inr ⟨a, b, by simpa using h⟩
theorem LS.less {k : Nat} {p : JPsr} (h : LS (k + 1) p) : LS k p := ⟨h.len, h.out, fun i v hv => (h.lv i v hv).less, by have := h.kk; omega⟩
theorem LS.done {k : Nat} {p : JPsr} {v : ApiValue} (h : LS (k + 1) p) (hv : okD (65 - p.stack.length) v) : LS k (jd_done p v) := by
  unfold jd_done
  rcases last_cases p.stack with hs | ⟨st, w, hs⟩
  · rw [hs] at hv
    simp only [hs, List.getLast?_nil]
    exact ⟨by simp, hv, by simp, by have := h.kk; omega⟩
  · have hl := h.len; have hlv := h.lv
    rw [hs] at hv hl hlv
    simp only [hs, List.getLast?_append, List.getLast?_singleton, Option.or_some, Option.some_or, List.dropLast_concat]
    simp only [List.length_append, List.length_cons, List.length_nil] at hv hl
    obtain ⟨h1, h2⟩ := lv_snoc hlv
    refine ⟨by simpa using hl, h.out, lv_add (fun i x hx => (h1 i x hx).less) ⟨?_, ?_, ?_⟩, by have := h.kk; omega⟩
    · have := h2.keys; simp only []; omega
    · have := h2.items; simp only [List.length_append, List.length_cons, List.length_nil]; omega
    · intro x hx
      simp only [List.mem_append, List.mem_singleton] at hx
      rcases hx with hx | rfl
      · exact h2.sub x hx
      · exact hv.mono _ (by omega)
theorem LS.nodes {k : Nat} {p : JPsr} (h : LS k p) (n w : Int) : LS k { p with nodes := n, want := w } := ⟨h.len, h.out, h.lv, h.kk⟩
theorem LS.put {k : Nat} {p : JPsr} {v : ApiValue} (h : LS (k + 1) p) (hv : okD (65 - p.stack.length) v) (h0 : (jd_put p v).2 = 0) : LS k (jd_put p v).1 := by
  unfold jd_put at h0 ⊢
  split
  · rename_i hc; rw [if_pos hc] at h0; cases h0
  · exact (h.nodes _ p.want).done hv
theorem LS.opn {k : Nat} {p : JPsr} {kd w : Int} (h : LS (k + 1) p) (h0 : (jd_open p kd w).2 = 0) : LS k (jd_open p kd w).1 := by
  unfold jd_open at h0 ⊢
  split
  · rename_i hc; rw [if_pos hc] at h0; cases h0
  · rename_i hc
    rw [if_neg hc] at h0
    split
    · rename_i hc; rw [if_pos hc] at h0; cases h0
    · exact ⟨by simp only [List.length_append, List.length_cons, List.length_nil]; omega, h.out, lv_add (fun i x hx => (h.lv i x hx).less) ⟨by have := h.kk; simp; omega, by have := h.kk; simp; omega, by simp⟩, by have := h.kk; omega⟩
theorem LS.take {N : Nat} {k : Nat} {p : JPsr} {t : ApiToken} {q : JPsr × Int} (h : LS (k + 1) p) (hq : jd_take N p t = some q) (h0 : q.2 = 0) : LS k q.1 := by
  have hl := h.len
  have pl : ∀ kind text, okD (65 - p.stack.length) (ApiValue.mk kind text [] []) := fun _ _ => okD_plain _ _ (by omega)
  unfold jd_take at hq
  split at hq
  · cases hq; cases h0
  · split at hq
    · unfold jd_punct at hq
      split at hq
      · cases hq; exact h.opn h0
      · split at hq
        · cases hq; exact h.opn h0
        · split at hq
          · cases hq; exact h.less.nodes _ _
          · rcases last_cases p.stack with hs | ⟨st, w, hs⟩
            · simp [hs] at hq
            · have hlv := h.lv
              rw [hs] at hlv hl
              simp only [hs, List.getLast?_append, List.getLast?_singleton, Option.or_some, Option.some_or, List.dropLast_concat] at hq
              split at hq
              · cases hq
                exact ⟨hl, h.out, fun i v hv => (hlv i v hv).less, h.less.kk⟩
              · cases hq
                obtain ⟨h1, h2⟩ := lv_snoc hlv
                simp only [List.length_append, List.length_cons, List.length_nil] at hl
                refine LS.done ⟨by simp only []; omega, h.out, h1, h.kk⟩ ?_
                have e : 65 - st.length = (64 - st.length) + 1 := by omega
                simp only []
                rw [e]
                exact .mk _ (by have := h2.keys; omega) (by have := h2.items; omega) h2.sub
    · split at hq
      · unfold jd_key at hq
        rcases last_cases p.stack with hs | ⟨st, w, hs⟩
        · simp [hs] at hq
        · have hlv := h.lv
          rw [hs] at hlv hl
          simp only [hs, List.getLast?_append, List.getLast?_singleton, Option.or_some, Option.some_or, List.dropLast_concat] at hq
          split at hq
          · cases hq; cases h0
          · cases hq
            obtain ⟨h1, h2⟩ := lv_snoc hlv
            exact ⟨by simpa using hl, h.out, lv_add (fun i x hx => (h1 i x hx).less) ⟨by have := h2.keys; simp only [List.length_append, List.length_cons, List.length_nil]; omega, by have := h2.items; simp only []; omega, h2.sub⟩, h.less.kk⟩
      · split at hq
        · cases hq; exact h.less
        · unfold jd_plain at hq
          split at hq
          · cases hy : token_Number N t.text with
            | none => rw [hy] at hq; cases hq
            | some y =>
              rw [hy, Option.bind_some] at hq
              split at hq
              · cases hq; cases h0
              · cases hq; exact h.put (pl _ _) h0
          · split at hq
            · cases hq; exact h.put (pl _ _) h0
            · cases hq; exact h.put (pl _ _) h0
theorem loop_depth {N : Nat} {s : List UInt8} : ∀ (k : Nat) (i : Int) (p : JPsr) (r : ApiValue × Int × Int), LS k p → jd_loop N s k i p = some r → okD 65 r.1
  | 0, i, p, r, _, h => by cases h
  | k + 1, i, p, r, hp, h => by
    rw [jd_loop] at h
    cases hy : token_Next N s i with
    | none => rw [hy] at h; cases h
    | some y =>
      rw [hy, Option.bind_some] at h
      split at h
      · cases h; exact okD_plain _ _ (by omega)
      · cases hq : jd_take N p y.1 with
        | none => rw [hq] at h; cases h
        | some q =>
          rw [hq, Option.bind_some] at h
          split at h
          · cases h; exact okD_plain _ _ (by omega)
          · rename_i h0
            have hq0 : q.2 = 0 := by simpa using h0
            have hl := hp.take hq hq0
            split at h
            · cases h; exact hl.out
            · exact loop_depth k y.2.1 q.1 r hl h
theorem parse_depth {N : Nat} {s : List UInt8} {r : ApiValue × Int × Int} (h : jsondoc_Parse N s = some r) : okD 65 r.1 := by
  unfold jsondoc_Parse at h
  split at h
  · cases h
  · split at h
    · cases h; exact okD_plain _ _ (by omega)
    · exact loop_depth N 0 _ r ⟨by simp, okD_plain _ _ (by omega), by simp, by omega⟩ h
end Go.VM
