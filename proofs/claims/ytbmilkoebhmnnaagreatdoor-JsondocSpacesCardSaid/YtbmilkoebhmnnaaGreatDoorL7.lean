import Derived.Test.YtbmilkoebhmnnaaGreatDoorL6
import Derived.Test.YtbmilkoebhmnnaaGreatDoorRd
import Derived.KernelRfl
set_option linter.unusedVariables false
set_option linter.unusedSimpArgs false
namespace Go.VM
theorem ABz : ∀ (ks : List (List UInt8)) (xs : List ApiValue) (k : List UInt8), (Aw (ks, xs) k).2 = false → Aw (ks, xs) k = (zeroV, false)
  | [], _, _, _ => by rw [Aw]; rfl; intros; simp_all
  | _ :: _, [], _, _ => by rw [Aw]; rfl; intros; simp_all
  | a :: ks, x :: xs, k, h => by
    rw [Aw] at h ⊢
    split
    · rename_i e; rw [if_pos e] at h; cases h
    · rename_i e; rw [if_neg e] at h; exact ABz ks xs k h
theorem XB : ∀ (ks : List (List UInt8)) (xs : List ApiValue) (k : List UInt8), ks.length = xs.length → (Aw (ks, xs) k).2 = decide (k ∈ ks)
  | [], [], k, _ => by rw [look_no' k]; simp
  | a :: ks, x :: xs, k, h => by
    rw [Aw]
    by_cases e : k = a
    · simp [e]
    · rw [if_neg e, XB ks xs k (by simpa using h)]; simp [e]
where look_no' (k : List UInt8) : Aw ([], []) k = (zeroV, false) := by rw [Aw]; rfl; intros; simp_all
theorem Wi (k k0 : List UInt8) (x : ApiValue) : ∀ (ks : List (List UInt8)) (xs : List ApiValue), ks.length = xs.length → Aw (ks ++ [k0], xs ++ [x]) k = if (Aw (ks, xs) k).2 = true then Aw (ks, xs) k else if k = k0 then (x, true) else (zeroV, false)
  | [], [], _ => by
    have e : Aw ([], []) k = (zeroV, false) := by rw [Aw]; rfl; intros; simp_all
    rw [e]
    simp only [List.nil_append, Bool.false_eq_true, if_false]
    rw [Aw, e]
  | a :: ks, y :: xs, h => by
    simp only [List.cons_append]
    rw [Aw, Aw]
    by_cases e : k = a
    · simp [e]
    · rw [if_neg e, if_neg e]; exact Wi k k0 x ks xs (by simpa using h)
theorem Pf (items : List ApiValue) (k : List UInt8) : ∀ (ks : List (List UInt8)) (i : Nat) (acc : List (List UInt8) × List ApiValue), acc.1.length = acc.2.length → Aw (DL items ks i acc) k = if (Aw acc k).2 = true then Aw acc k else Ga ks (items.drop i) k
  | [], i, acc, h => by
    rw [DL, Ga]
    · split
      · rfl
      · rename_i e; exact ABz acc.1 acc.2 k (by simpa using e)
    · intros; simp_all
  | k0 :: ks, i, acc, h => by
    rw [DL]
    cases hx : items[i]? with
    | none =>
      have hd : items.drop i = [] := List.drop_eq_nil_iff.2 (by have := List.getElem?_eq_none_iff.1 hx; omega)
      have hd2 : items.drop (i + 1) = [] := List.drop_eq_nil_iff.2 (by have := List.getElem?_eq_none_iff.1 hx; omega)
      simp only []
      rw [Pf items k ks (i + 1) acc h, hd, hd2]
      have e1 : ∀ l : List (List UInt8), Ga l [] k = (zeroV, false) := fun l => by cases l <;> simp [Ga]
      rw [e1, e1]
    | some x =>
      have hlt : i < items.length := by
        rcases Nat.lt_or_ge i items.length with h | h
        · exact h
        · rw [List.getElem?_eq_none h] at hx; cases hx
      have hd : items.drop i = x :: items.drop (i + 1) := by
        rw [List.getElem?_eq_getElem hlt] at hx
        cases hx
        exact List.drop_eq_getElem_cons hlt
      have hm := XB acc.1 acc.2 k h
      simp only []
      rw [hd, Ga]
      by_cases h0 : k0 ∈ acc.1
      · rw [if_pos h0, Pf items k ks (i + 1) acc h]
        by_cases e : k0 = k
        · subst e
          have ht : (Aw acc k0).2 = true := hm.trans (by simpa using h0)
          rw [if_pos ht, if_pos ht]
        · rw [if_neg (show ¬ (k0 == k) = true by simpa using e)]
      · rw [if_neg h0, Pf items k ks (i + 1) _ (by simp [h])]
        have ha := Wi k k0 x acc.1 acc.2 h
        rw [ha]
        by_cases e : k0 = k
        · subst e
          have ht : (Aw acc k0).2 = false := hm.trans (by simpa using h0)
          rw [if_neg (show ¬ (Aw (acc.1, acc.2) k0).2 = true by rw [show (acc.1, acc.2) = acc from rfl, ht]; decide), if_pos rfl, if_pos rfl, if_neg (by rw [ht]; decide), if_pos (by simp)]
        · rw [if_neg (show ¬ (k0 == k) = true by simpa using e), if_neg (show ¬ k = k0 from fun h => e h.symm)]
          by_cases ht : (Aw acc k).2 = true
          · rw [if_pos (show (Aw (acc.1, acc.2) k).2 = true from ht), if_pos ht]
          · rw [if_neg (show ¬ (Aw (acc.1, acc.2) k).2 = true from ht), if_neg ht, if_neg (by decide)]
theorem Og (items : List ApiValue) (ks : List (List UInt8)) (k : List UInt8) : Aw (DL items ks 0 ([], [])) k = Ga ks items k := by
  have e : Aw ([], []) k = (zeroV, false) := by rw [Aw]; rfl; intros; simp_all
  rw [Pf items k ks 0 ([], []) rfl, e, if_neg (by decide), List.drop_zero]
section
variable {N : Nat}
inductive okE : Nat → ApiValue → Prop
  | mk {d : Nat} (v : ApiValue) (hk : v.keys.length ≤ 100000) (hi : v.items.length ≤ 100000) (hz : v.kind = 1 ∨ v.kind = 2 ∨ v.kind = 3 ∨ v.kind = 4 ∨ v.kind = 5 → v.keys = [] ∧ v.items = []) (h6 : v.kind = 6 → v.keys = []) (h7 : v.kind = 7 → v.keys.length = v.items.length) (h : ∀ x, x ∈ v.items → okE d x) : okE (d + 1) v
theorem okE.mono {d : Nat} {v : ApiValue} (h : okE d v) : ∀ e, d ≤ e → okE e v := by
  induction h with
  | mk v hk hi hz h6 h7 h ih =>
    intro e he
    obtain ⟨e', rfl⟩ : ∃ e', e = e' + 1 := ⟨e - 1, by omega⟩
    exact .mk v hk hi hz h6 h7 fun x hx => ih x hx e' (by omega)
end
end Go.VM
namespace Go.VM
theorem okD.mono {d : Nat} {v : ApiValue} (h : okD d v) : ∀ e, d ≤ e → okD e v := by
  induction h with
  | mk v hk hi h ih =>
    intro e he
    obtain ⟨e', rfl⟩ : ∃ e', e = e' + 1 := ⟨e - 1, by omega⟩
    exact .mk v hk hi fun x hx => ih x hx e' (by omega)
theorem Jo (kind : Int) (text : List UInt8) {d : Nat} (h : 1 ≤ d) : okD d (ApiValue.mk kind text [] []) := by
  obtain ⟨d, rfl⟩ : ∃ e, d = e + 1 := ⟨d - 1, by omega⟩
  exact .mk _ (by simp) (by simp) (by simp)
structure lvD (k i : Nat) (v : ApiValue) : Prop where
  keys : v.keys.length + k ≤ 2199023255552
  items : v.items.length + k ≤ 2199023255552
  sub : ∀ x, x ∈ v.items → okD (64 - i) x
structure LS (k : Nat) (p : JPsr) : Prop where
  len : p.stack.length ≤ 64
  out : okD 65 p.out
  lv : ∀ i v, p.stack[i]? = some v → lvD k i v
  kk : k ≤ 2199023255552
theorem lvD.less {k i : Nat} {v : ApiValue} (h : lvD (k + 1) i v) : lvD k i v := ⟨by have := h.keys; omega, by have := h.items; omega, h.sub⟩
theorem Td {k : Nat} {st : List ApiValue} {v : ApiValue} (h : ∀ i x, (st ++ [v])[i]? = some x → lvD k i x) : (∀ i x, st[i]? = some x → lvD k i x) ∧ lvD k st.length v := by
  refine ⟨fun i x hx => h i x ?_, h st.length v (by simp)⟩
  have hi : i < st.length := by
    rcases Nat.lt_or_ge i st.length with h | h
    · exact h
    · rw [List.getElem?_eq_none h] at hx; cases hx
  rw [List.getElem?_append_left hi]; exact hx
theorem ABM {k : Nat} {st : List ApiValue} {v : ApiValue} (h : ∀ i x, st[i]? = some x → lvD k i x) (hv : lvD k st.length v) : ∀ i x, (st ++ [v])[i]? = some x → lvD k i x := by
  intro i x hx
  rcases Nat.lt_trichotomy i st.length with hi | hi | hi
  · rw [List.getElem?_append_left hi] at hx; exact h i x hx
  · subst hi
    rw [List.getElem?_append_right (Nat.le_refl _)] at hx
    simp at hx; subst hx; exact hv
  · rw [List.getElem?_eq_none (by simp; omega)] at hx; cases hx
theorem last_cases (l : List ApiValue) : l = [] ∨ ∃ st v, l = st ++ [v] := by
  rcases List.eq_nil_or_concat l with h | ⟨a, b, h⟩
  · exact .inl h
  · exact .inr ⟨a, b, by simpa using h⟩
theorem LS.less {k : Nat} {p : JPsr} (h : LS (k + 1) p) : LS k p := ⟨h.len, h.out, fun i v hv => (h.lv i v hv).less, by have := h.kk; omega⟩
theorem LS.done {k : Nat} {p : JPsr} {v : ApiValue} (h : LS (k + 1) p) (hv : okD (65 - p.stack.length) v) : LS k (CX p v) := by
  unfold CX
  rcases last_cases p.stack with hs | ⟨st, w, hs⟩
  · rw [hs] at hv
    simp only [hs, List.getLast?_nil]
    exact ⟨by simp, hv, by simp, by have := h.kk; omega⟩
  · have hl := h.len; have hlv := h.lv
    rw [hs] at hv hl hlv
    simp only [hs, List.getLast?_append, List.getLast?_singleton, Option.or_some, Option.some_or, List.dropLast_concat]
    simp only [List.length_append, List.length_cons, List.length_nil] at hv hl
    obtain ⟨h1, h2⟩ := Td hlv
    refine ⟨by simpa using hl, h.out, ABM (fun i x hx => (h1 i x hx).less) ⟨?_, ?_, ?_⟩, by have := h.kk; omega⟩
    · have := h2.keys; simp only []; omega
    · have := h2.items; simp only [List.length_append, List.length_cons, List.length_nil]; omega
    · intro x hx
      simp only [List.mem_append, List.mem_singleton] at hx
      rcases hx with hx | rfl
      · exact h2.sub x hx
      · exact hv.mono _ (by omega)
theorem LS.nodes {k : Nat} {p : JPsr} (h : LS k p) (n w : Int) : LS k { p with nodes := n, want := w } := ⟨h.len, h.out, h.lv, h.kk⟩
theorem LS.put {k : Nat} {p : JPsr} {v : ApiValue} (h : LS (k + 1) p) (hv : okD (65 - p.stack.length) v) (h0 : (GI p v).2 = 0) : LS k (GI p v).1 := by
  unfold GI at h0 ⊢
  split
  · rename_i hc; rw [if_pos hc] at h0; cases h0
  · exact (h.nodes _ p.want).done hv
theorem LS.opn {k : Nat} {p : JPsr} {kd w : Int} (h : LS (k + 1) p) (h0 : (Dl p kd w).2 = 0) : LS k (Dl p kd w).1 := by
  unfold Dl at h0 ⊢
  split
  · rename_i hc; rw [if_pos hc] at h0; cases h0
  · rename_i hc
    rw [if_neg hc] at h0
    split
    · rename_i hc; rw [if_pos hc] at h0; cases h0
    · exact ⟨by simp only [List.length_append, List.length_cons, List.length_nil]; omega, h.out, ABM (fun i x hx => (h.lv i x hx).less) ⟨by have := h.kk; simp; omega, by have := h.kk; simp; omega, by simp⟩, by have := h.kk; omega⟩
theorem LS.take {N : Nat} {k : Nat} {p : JPsr} {t : ApiToken} {q : JPsr × Int} (h : LS (k + 1) p) (hq : CE N p t = some q) (h0 : q.2 = 0) : LS k q.1 := by
  have hl := h.len
  have pl : ∀ kind text, okD (65 - p.stack.length) (ApiValue.mk kind text [] []) := fun _ _ => Jo _ _ (by omega)
  unfold CE at hq
  split at hq
  · cases hq; cases h0
  · split at hq
    · unfold I4 at hq
      split at hq
      · cases hq; exact h.opn h0
      · split at hq
        · cases hq; exact h.opn h0
        · split at hq
          · cases hq; exact h.less.nodes _ _
          · rcases last_cases p.stack with hs | ⟨st, w, hs⟩
            · simp [hs] at hq
            · have hlv := h.lv
              rw [hs] at hlv hl
              simp only [hs, List.getLast?_append, List.getLast?_singleton, Option.or_some, Option.some_or, List.dropLast_concat] at hq
              split at hq
              · cases hq
                exact ⟨hl, h.out, fun i v hv => (hlv i v hv).less, h.less.kk⟩
              · cases hq
                obtain ⟨h1, h2⟩ := Td hlv
                simp only [List.length_append, List.length_cons, List.length_nil] at hl
                refine LS.done ⟨by simp only []; omega, h.out, h1, h.kk⟩ ?_
                have e : 65 - st.length = (64 - st.length) + 1 := by omega
                simp only []
                rw [e]
                exact .mk _ (by have := h2.keys; omega) (by have := h2.items; omega) h2.sub
    · split at hq
      · unfold MH at hq
        rcases last_cases p.stack with hs | ⟨st, w, hs⟩
        · simp [hs] at hq
        · have hlv := h.lv
          rw [hs] at hlv hl
          simp only [hs, List.getLast?_append, List.getLast?_singleton, Option.or_some, Option.some_or, List.dropLast_concat] at hq
          split at hq
          · cases hq; cases h0
          · cases hq
            obtain ⟨h1, h2⟩ := Td hlv
            exact ⟨by simpa using hl, h.out, ABM (fun i x hx => (h1 i x hx).less) ⟨by have := h2.keys; simp only [List.length_append, List.length_cons, List.length_nil]; omega, by have := h2.items; simp only []; omega, h2.sub⟩, h.less.kk⟩
      · split at hq
        · cases hq; exact h.less
        · unfold Jp at hq
          split at hq
          · cases hy : BX N t.text with
            | none => rw [hy] at hq; cases hq
            | some y =>
              rw [hy, Option.bind_some] at hq
              split at hq
              · cases hq; cases h0
              · cases hq; exact h.put (pl _ _) h0
          · split at hq
            · cases hq; exact h.put (pl _ _) h0
            · cases hq; exact h.put (pl _ _) h0
theorem Qw {N : Nat} {s : List UInt8} : ∀ (k : Nat) (i : Int) (p : JPsr) (r : ApiValue × Int × Int), LS k p → Fp N s k i p = some r → okD 65 r.1
  | 0, i, p, r, _, h => by cases h
  | k + 1, i, p, r, hp, h => by
    rw [Fp] at h
    cases hy : GM N s i with
    | none => rw [hy] at h; cases h
    | some y =>
      rw [hy, Option.bind_some] at h
      split at h
      · cases h; exact Jo _ _ (by omega)
      · cases hq : CE N p y.1 with
        | none => rw [hq] at h; cases h
        | some q =>
          rw [hq, Option.bind_some] at h
          split at h
          · cases h; exact Jo _ _ (by omega)
          · rename_i h0
            have hq0 : q.2 = 0 := by simpa using h0
            have hl := hp.take hq hq0
            split at h
            · cases h; exact hl.out
            · exact Qw k y.2.1 q.1 r hl h
theorem Y2 {N : Nat} {s : List UInt8} {r : ApiValue × Int × Int} (h : Ce N s = some r) : okD 65 r.1 := by
  unfold Ce at h
  split at h
  · cases h
  · split at h
    · cases h; exact Jo _ _ (by omega)
    · exact Qw N 0 _ r ⟨by simp, Jo _ _ (by omega), by simp, by omega⟩ h
end Go.VM
namespace Go.VM
section
variable {N : Nat}
theorem AEA {e : Nat} {v : ApiValue} {sp : List Int} (hv : okW e v) (hs : E5 N v = true) (hsp : ∀ a, a ∈ sp → 0 ≤ a ∧ a ≤ 255) (hl : (wrV v).length ≤ 300000) (hN : 400000 ≤ N) : ∃ w t w', AllWs w ∧ AllWs w' ∧ TxV v t ∧ (w ++ (t ++ w')).length ≤ 900000 ∧ Gf N (wrV v) sp = some (w ++ (t ++ w')) := by
  obtain ⟨w, t, w', h1, h2, h3, h4⟩ := L6 (N := N) (l := wrV v) (sp := sp) (by omega) hsp e v hv hs [] 0 (by simp) (by omega)
  obtain ⟨k', g1, g2, g3⟩ := h4 (fun j1 => some (List.map EN j1)) N [] (by omega) (by simp)
  refine ⟨w, t, w', h1, h2, h3, by simp only [List.length_nil] at g2; omega, ?_⟩
  unfold Gf
  rw [AP]
  refine (show Ay N (wrV v) sp (fun j1 => some (List.map EN j1)) N [] false ((0 : Nat) : Int) = _ from g3).trans ?_
  obtain ⟨k', rfl⟩ : ∃ j, k' = j + 1 := ⟨k' - 1, by omega⟩
  rw [Ay, if_neg (by simp)]
  simp only [List.nil_append]
  rw [Eu]
theorem ABh (f : List UInt8 → ApiValue) : ∀ (qs : List (List UInt8)) (k : List UInt8), k ∈ qs → Ga qs (qs.map f) k = (f k, true)
  | [], k, h => by cases h
  | q :: qs, k, h => by
    rw [List.map_cons, Ga]
    by_cases e : q = k
    · subst e; rw [if_pos (by simp)]
    · rw [if_neg (by simpa using e)]
      refine ABh f qs k ?_
      rcases List.mem_cons.1 h with rfl | h
      · exact absurd rfl e
      · exact h
theorem TH (rc : ApiValue → ApiValue → Option Bool) (items : List ApiValue) : ∀ (xs pre : List ApiValue), items = pre ++ xs → (∀ x, x ∈ xs → rc (Ej x) x = some true) → Hz rc items (xs.map Ej) (pre.length : Int) = some true
  | [], _, _, _ => by rw [List.map_nil, Hz]
  | x :: xs, pre, e, h => by
    rw [List.map_cons, Hz, Tu e, Option.bind_some, h x (by simp), Option.bind_some, if_pos rfl, I5 pre x]
    exact TH rc items xs (pre ++ [x]) (by rw [e]; simp) fun y hy => h y (by simp [hy])
theorem Nw : ∀ (D e : Nat) (a : ApiValue), okW e a → E5 N a = true → e ≤ D → EH N D (Ej a) a = some true
  | 0, e, a, h, _, hd => by have := h.pos; omega
  | D + 1, e, a, h, hs, hd => by
    obtain ⟨e, rfl⟩ : ∃ j, e = j + 1 := ⟨e - 1, by have := h.pos; omega⟩
    have hsub := h.sub; have hk := h.keys; have hi := h.items
    cases Jw hs with
    | word k hkw => rw [Il (by omega), EH]; rcases hkw with rfl | rfl | rfl <;> rfl
    | num s _ => rw [Il (by decide), EH]; simp
    | str s _ => rw [Il (by decide), EH]; simp
    | arr xs hx =>
      simp only at hsub hi
      have := TH (EH N D) xs xs [] rfl fun x hm => Nw D e x (hsub x hm) (hx x hm) (by omega)
      rw [ABv, EH]
      simp only [bne_self_eq_false, Bool.false_eq_true, if_false, List.length_map]
      rw [if_neg (by decide), if_neg (by decide), if_pos (by rfl), Ip (by omega)]
      exact this
    | obj ks xs hl hdk hx =>
      simp only at hsub hi hk
      have hp := Hd ks
      have hlen := hp.length_eq
      rw [ABy, EH]
      simp only [bne_self_eq_false, Bool.false_eq_true, if_false, List.length_map, hlen]
      rw [if_neg (by decide), if_neg (by decide), if_neg (by decide), if_pos (by rfl), AO (by simp only [Ab]; omega)]
      have key : ∀ qs : List (List UInt8), (∀ k, k ∈ qs → k ∈ Gy ks) → JI (EH N D) (DL ((Gy ks).map fun k => (Ga ks (xs.map Ej) k).1) (Gy ks) 0 ([], [])) (DL xs ks 0 ([], [])) qs = some true := by
        intro qs
        induction qs with
        | nil => intro _; rw [JI]
        | cons k qs ih =>
          intro hm
          have h0 := hm k (by simp)
          obtain ⟨x, h1, h2, h3⟩ := QV Ej ks xs k hl (hp.mem_iff.1 h0)
          rw [JI, Og, Og, h2, ABh _ _ _ h0, h3]
          simp only [if_true]
          rw [Nw D e x (hsub x h1) (hx x h1) (by omega), Option.bind_some, if_pos rfl]
          exact ih fun y hy => hm y (by simp [hy])
      exact key _ fun _ h => h
end
theorem AH9 : J5 1099511627776 = some true := by kernel_rfl
theorem L9 (v : ApiValue) (_ : okApiValue v) (sp : List Int) (hsp0 : sp.length ≤ reachBytes ∧ ∀ a, a ∈ sp → (Lit.int .u8 a).wf = true) : Ee 1099511627776 v sp = some true := by
  have hsp : ∀ a, a ∈ sp → 0 ≤ a ∧ a ≤ 255 := fun a h => wf_u8 (hsp0.2 a h)
  unfold Ee
  rw [AH9, Option.bind_some, if_pos rfl]
  obtain ⟨b, e1, hb⟩ := AE4 (N := 1099511627776) (by omega) v 40 (by omega)
  rw [show (40 : Int) = ((40 : Nat) : Int) from rfl, e1, Option.bind_some]
  cases b
  · rfl
  · rw [if_pos rfl]
    obtain ⟨hv, nv⟩ := hb rfl
    rw [AED (N := 1099511627776) (by omega) hv (by omega), Option.bind_some]
    cases hc : V7 1099511627776 v
    · rfl
    · have hn : Gx v ≤ 64 := by unfold V7 at hc; rw [Bool.and_eq_true, decide_eq_true_eq] at hc; exact hc.1
      have hs : E5 1099511627776 v = true := by unfold V7 at hc; rw [Bool.and_eq_true] at hc; exact hc.2
      obtain ⟨o1, o2, o3, o4⟩ := Ma (N := 1099511627776) 70 v hv hs
      have hl := OD (N := 1099511627776) 70 (Ej v) o1 o2
      have p1 := Pw (N := 1099511627776) (w := []) (w' := []) o1 o2 (by omega) (by omega) Fh Fh (Un 70 _ o1 o2) (by simp only [List.nil_append, List.append_nil]; omega) (by omega) (by omega)
      simp only [List.nil_append, List.append_nil] at p1
      obtain ⟨w, t, w', g1, g2, g3, g4, g5⟩ := AEA (N := 1099511627776) o1 o2 hsp (by omega) (by omega)
      have p2 := Pw (N := 1099511627776) o1 o2 (by omega) (by omega) g1 g2 g3 (by omega) (by omega) (by omega)
      have s1 := S9 (N := 1099511627776) 1099511627776 65 _ (Y2 p1) (by omega)
      have s2 := Nw (N := 1099511627776) 1099511627776 70 v hv hs (by omega)
      simp only [if_true]
      rw [if_neg (by decide), p1, Option.bind_some, g5, Option.bind_some, p2, Option.bind_some]
      simp only at s1
      unfold JQ
      simp [s1, s2]
end Go.VM
