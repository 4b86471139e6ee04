import Derived.Test.YtbmilkoebhmnnaaGreatDoorL5
set_option linter.unusedVariables false
set_option linter.unusedSimpArgs false
namespace Go.VM
def Run (N : Nat) (l : List UInt8) (i : Nat) (p : JPsr) (j : Nat) (q : JPsr) : Prop := ∀ E, l.length + 2 ≤ E + i → ∃ E', l.length + 2 ≤ E' + j ∧ Dr N l E i p = Dr N l E' j q
theorem Run.trans {N : Nat} {l : List UInt8} {i j k : Nat} {p q r : JPsr} (h : Run N l i p j q) (h2 : Run N l j q k r) : Run N l i p k r := fun E hE => by
  obtain ⟨E', e1, e2⟩ := h E hE
  obtain ⟨E2, f1, f2⟩ := h2 E' e1
  exact ⟨E2, f1, e2.trans f2⟩
mutual
def TxV : ApiValue → List UInt8 → Prop
  | ⟨kind, text, keys, items⟩, t =>
    if kind == 1 then t = [110, 117, 108, 108] else if kind == 2 then t = [102, 97, 108, 115, 101] else if kind == 3 then t = [116, 114, 117, 101] else if kind == 4 then t = text
    else if kind == 5 then t = CE text else if kind == 7 then ∃ u, t = 123 :: u ∧ TxM true keys items u else ∃ u, t = 91 :: u ∧ TxI true items u
def TxI : Bool → List ApiValue → List UInt8 → Prop
  | _, [], t => ∃ w, AllWs w ∧ t = w ++ [93]
  | b, x :: xs, t => ∃ w w' s u, AllWs w ∧ AllWs w' ∧ t = (if b then w else w ++ 44 :: w') ++ (s ++ u) ∧ TxV x s ∧ TxI false xs u
def TxM : Bool → List (List UInt8) → List ApiValue → List UInt8 → Prop
  | _, [], [], t => ∃ w, AllWs w ∧ t = w ++ [125]
  | b, k :: ks, x :: xs, t => ∃ w w' w1 w2 s u, AllWs w ∧ AllWs w' ∧ AllWs w1 ∧ AllWs w2 ∧ t = (if b then w else w ++ 44 :: w') ++ (CE k ++ (w1 ++ 58 :: (w2 ++ (s ++ u)))) ∧ TxV x s ∧ TxM false ks xs u
  | _, _, _, _ => False
end
section
variable {N : Nat} {l : List UInt8}
theorem UY (hb : l.length ≤ 2 ^ 40) (hN : l.length + 10 ≤ N) {i j : Nat} {p q : JPsr} {t : ApiToken} (hi : i ≤ l.length) (ht : Ey N l i = (t, (j : Int), 0)) (hj : i < j) (hk : (t.kind == 1) = false) (hq : BC N p t = some (q, 0)) : Run N l i p j q := fun E hE => by
  obtain ⟨E, rfl⟩ : ∃ e, E = e + 1 := ⟨E - 1, by omega⟩
  refine ⟨E, by omega, ?_⟩
  rw [Je hb hN E i hi, ht, if_neg (by simp), KS, hq, Option.bind_some, if_neg (by simp), hk]
  rfl
theorem Ph {i : Nat} {t : List UInt8} (h : l.drop i = t) : t = [] ∨ i + t.length = l.length := by
  have := congrArg List.length h
  rw [List.length_drop] at this
  by_cases h0 : t = []
  · exact .inl h0
  · have : 0 < t.length := List.length_pos_iff.2 h0
    right; omega
theorem Fe {i : Nat} {a b : List UInt8} (h : l.drop i = a ++ b) : l.drop (i + a.length) = b := by rw [← List.drop_drop, h, List.drop_left]
theorem QS {p : JPsr} {t : ApiToken} (hw : p.want = 0 ∨ p.want = 1) (ho : D8 t = true) : Bt p t = true := by
  unfold Bt
  rcases hw with h | h <;> simp [h, ho]
theorem He (hb : l.length ≤ 2 ^ 40) (hN : l.length + 10 ≤ N) {i : Nat} {w r : List UInt8} {c : UInt8} {p q : JPsr} (hw : AllWs w) (hc : H6.contains c = true) (hws : wsB c = false) (h : l.drop i = w ++ c :: r) (hq : ∀ pos : Int, BC N p (ApiToken.mk 2 [c] pos) = some (q, 0)) : Run N l i p (i + w.length + 1) q := by
  have hlen : i + (w ++ c :: r).length = l.length := by rcases Ph h with e | e; simp at e; exact e
  refine UY hb hN (by omega) ?_ (by omega) rfl (hq ((i + w.length : Nat) : Int))
  rw [Gj h hw (fun c' r' e => by cases e; exact hws), GR hc]
theorem Nj (hb : l.length ≤ 2 ^ 40) (hN : l.length + 10 ≤ N) {i : Nat} {w s r : List UInt8} {p : JPsr} {t : Int → ApiToken} {v : ApiValue} (hw : AllWs w) (hs0 : s ≠ []) (hws : ∀ c r', s ++ r = c :: r' → wsB c = false) (h : l.drop i = w ++ (s ++ r)) (ht : ∀ pos : Nat, GY N pos (s ++ r) = (t pos, ((pos + s.length : Nat) : Int), 0))
    (hwant : p.want = 0 ∨ p.want = 1) (hk : ∀ pos, (t pos).kind = 3 ∨ (t pos).kind = 4 ∨ (t pos).kind = 5) (hn : ∀ pos, (t pos).kind = 4 → BU N (t pos).text = some (N9 N (t pos).text) ∧ (N9 N (t pos).text).2 = 0) (hv : ∀ pos, Z5 N (t pos) = v)
    (h0 : p.nodes + 1 ≤ 20000) : Run N l i p (i + w.length + s.length) (Bq { p with nodes := p.nodes + 1 } v) := by
  have hpos : 0 < s.length := List.length_pos_iff.2 hs0
  have hlen : i + (w ++ (s ++ r)).length = l.length := by
    rcases Ph h with e | e
    · simp at e; exact absurd e.2.1 hs0
    · exact e
  simp only [List.length_append] at hlen
  have hopen : ∀ pos, D8 (t pos) = true := fun pos => by unfold D8; rcases hk pos with e | e | e <;> simp [e]
  refine UY hb hN (t := t ((i + w.length : Nat) : Int)) (by omega) ?_ (by omega) (by rcases hk ((i + w.length : Nat) : Int) with e | e | e <;> rw [e] <;> rfl) ?_
  · rw [Gj h hw hws, ht]
  · obtain ⟨st, wt, nd, out⟩ := p
    rw [Zy hwant (QS hwant (hopen _)) (hk _) fun e => (hn _ e).1, if_neg (fun e => e.2 (hn _ e.1).2), hv, AGg, if_neg (by simp only at h0; omega)]
    exact congrArg some (congrArg (·, (0 : Int)) (Qh ⟨st, 0, nd + 1, out⟩ wt v).symm)
theorem Mw (st : List ApiValue) (out v : ApiValue) (w n : Int) : Bq ⟨st, w, n, out⟩ v = Nf st out v n := Qh ⟨st, 0, n, out⟩ w v
theorem AA3 : ∀ {xs : List ApiValue} {u : List UInt8}, TxI false xs u → ∀ r, Stop (u ++ r)
  | [], u, h, r => by
    rw [TxI] at h
    obtain ⟨w, hw, rfl⟩ := h
    rw [List.append_assoc]
    exact Stop.ws hw (Fh (by decide))
  | x :: xs, u, h, r => by
    rw [TxI] at h
    obtain ⟨w, w', s, u', hw, _, rfl, _, _⟩ := h
    simp only [Bool.false_eq_true, if_false, List.append_assoc, List.cons_append]
    exact Stop.ws hw (Fh (by decide))
theorem Uq : ∀ {ks : List (List UInt8)} {xs : List ApiValue} {u : List UInt8}, TxM false ks xs u → ∀ r, Stop (u ++ r)
  | [], [], u, h, r => by
    rw [TxM] at h
    obtain ⟨w, hw, rfl⟩ := h
    rw [List.append_assoc]
    exact Stop.ws hw (Fh (by decide))
  | k :: ks, x :: xs, u, h, r => by
    rw [TxM] at h
    obtain ⟨w, w', w1, w2, s, u', hw, _, _, _, rfl, _, _⟩ := h
    simp only [Bool.false_eq_true, if_false, List.append_assoc, List.cons_append]
    exact Stop.ws hw (Fh (by decide))
  | [], x :: xs, u, h, r => by simp [TxM] at h
  | k :: ks, [], u, h, r => by simp [TxM] at h
def AFr (N : Nat) (l : List UInt8) (e : Nat) : Prop := ∀ (v : ApiValue) (i : Nat) (p : JPsr) (w t r : List UInt8), okW e v → Ed N v = true → AllWs w → TxV v t → l.drop i = w ++ (t ++ r) → Stop r → (p.want = 0 ∨ p.want = 1) → p.stack.length + GN v ≤ 64 → 0 ≤ p.nodes → p.nodes + Dk v ≤ 20000 →
  Run N l i p (i + w.length + t.length) (Bq { p with nodes := p.nodes + Dk v } v)
theorem Sn (hb : l.length ≤ 2 ^ 40) (hN : l.length + 10 ≤ N) {e : Nat} (ih : AFr N l e) (st : List ApiValue) (out : ApiValue) : ∀ (xs : List ApiValue) (b : Bool) (dn : List ApiValue) (i : Nat) (u r : List UInt8) (n : Int), (∀ x, x ∈ xs → okW e x ∧ Ed N x = true) → TxI b xs u → l.drop i = u ++ r → (b = true → dn = []) → st.length + 1 + D6 xs ≤ 64 → 0 ≤ n → n + Be xs ≤ 20000 →
    Run N l i (inA st out (ML dn) (if b then 1 else 5) n) (i + u.length) (Nf st out (ML (dn ++ xs)) (n + Be xs))
  | [], b, dn, i, u, r, n, _, ht, hd, _, _, _, _ => by
    rw [TxI] at ht
    obtain ⟨w, hw, rfl⟩ := ht
    rw [Be, List.append_nil]
    have := He (N := N) hb hN (p := inA st out (ML dn) (if b then 1 else 5) n) (q := Nf st out (ML dn) n) (c := 93) (r := r) hw (by decide) (by decide) (by simpa using hd) fun pos => Qp (v := ML dn) (by cases b <;> simp)
    simpa [Nat.add_assoc] using this
  | x :: xs, b, dn, i, u, r, n, hx, ht, hd, hb1, hn, h0, hc => by
    rw [TxI] at ht
    obtain ⟨w, w', s, u', hw, hw', rfl, hs, hu⟩ := ht
    rw [D6] at hn
    rw [Be] at hc ⊢
    have hx1 := hx x (by simp)
    have hp := NB x
    have rest : ∀ (j : Nat) (w2 : List UInt8) (wt : Int), wt = 0 ∨ wt = 1 → AllWs w2 → l.drop j = w2 ++ (s ++ (u' ++ r)) → Run N l j (inA st out (ML dn) wt n) (j + w2.length + s.length + u'.length) (Nf st out (ML (dn ++ x :: xs)) (n + ((Dk x + Be xs : Nat) : Int))) := by
      intro j w2 wt hwt hw2 hj
      have r1 := ih x j (inA st out (ML dn) wt n) w2 s (u' ++ r) hx1.1 hx1.2 hw2 hs hj (AA3 hu r) hwt (by simp [inA]; omega) h0 (by simp only [inA]; omega)
      have e1 : Bq { inA st out (ML dn) wt n with nodes := (inA st out (ML dn) wt n).nodes + Dk x } x = inA st out (ML (dn ++ [x])) 5 (n + Dk x) := by
        show Bq ⟨st ++ [ML dn], wt, n + Dk x, out⟩ x = _
        rw [Mw, AFB]; rfl
      rw [e1] at r1
      have hj2 : l.drop (j + w2.length + s.length) = u' ++ r := Fe (Fe hj)
      have r2 := Sn hb hN ih st out xs false (dn ++ [x]) (j + w2.length + s.length) u' r (n + Dk x) (fun y hy => hx y (by simp [hy])) hu hj2 (fun h => by cases h) (by omega) (by omega) (by omega)
      have e2 : (n + (Dk x : Int)) + (Be xs : Int) = n + ((Dk x + Be xs : Nat) : Int) := by omega
      rw [e2, List.append_assoc] at r2
      exact r1.trans r2
    cases b
    · simp only [Bool.false_eq_true, if_false, List.append_assoc, List.cons_append] at hd ⊢
      have r1 := He (N := N) hb hN (p := inA st out (ML dn) 5 n) (q := inA st out (ML dn) 0 n) (c := 44) (r := w' ++ (s ++ (u' ++ r))) hw (by decide) (by decide) hd fun pos => QM
      have hd2 : l.drop (i + w.length + 1) = w' ++ (s ++ (u' ++ r)) := by
        have := Fe (a := w ++ [44]) (b := w' ++ (s ++ (u' ++ r))) (by simpa using hd)
        simpa [Nat.add_assoc] using this
      have r2 := rest (i + w.length + 1) w' 0 (.inl rfl) hw' hd2
      have e : i + w.length + 1 + w'.length + s.length + u'.length = i + (w ++ 44 :: (w' ++ (s ++ u'))).length := by simp; omega
      rw [e] at r2
      exact r1.trans r2
    · simp only [if_true] at hd ⊢
      have r2 := rest i w 1 (.inr rfl) hw (by simpa using hd)
      have e : i + w.length + s.length + u'.length = i + (w ++ (s ++ u')).length := by simp; omega
      rw [e] at r2
      exact r2
theorem Ow (hb : l.length ≤ 2 ^ 40) (hN : l.length + 10 ≤ N) (hN2 : 2000 ≤ N) {e : Nat} (ih : AFr N l e) (st : List ApiValue) (out : ApiValue) : ∀ (ks : List (List UInt8)) (xs : List ApiValue) (b : Bool) (dk : List (List UInt8)) (dn : List ApiValue) (i : Nat) (u r : List UInt8) (n : Int), (∀ x, x ∈ xs → okW e x ∧ Ed N x = true) → (∀ k, k ∈ ks → (Dc N k).isSome = true ∧ k.length ≤ 300) → (dk ++ ks).Nodup → TxM b ks xs u → l.drop i = u ++ r → (b = true → dn = []) → st.length + 1 + D6 xs ≤ 64 → 0 ≤ n → n + Be xs ≤ 20000 →
    Run N l i (inA st out (Ga dk dn) (if b then 3 else 5) n) (i + u.length) (Nf st out (Ga (dk ++ ks) (dn ++ xs)) (n + Be xs))
  | [], [], b, dk, dn, i, u, r, n, _, _, _, ht, hd, _, _, _, _ => by
    rw [TxM] at ht
    obtain ⟨w, hw, rfl⟩ := ht
    rw [Be, List.append_nil, List.append_nil]
    have := He (N := N) hb hN (p := inA st out (Ga dk dn) (if b then 3 else 5) n) (q := Nf st out (Ga dk dn) n) (c := 125) (r := r) hw (by decide) (by decide) (by simpa using hd) fun pos => Qp (v := Ga dk dn) (by cases b <;> simp)
    simpa [Nat.add_assoc] using this
  | [], _ :: _, b, dk, dn, i, u, r, n, _, _, _, ht, _, _, _, _, _ => by simp [TxM] at ht
  | _ :: _, [], b, dk, dn, i, u, r, n, _, _, _, ht, _, _, _, _, _ => by simp [TxM] at ht
  | k :: ks, x :: xs, b, dk, dn, i, u, r, n, hx, hk, hnd, ht, hd, hb1, hn, h0, hc => by
    rw [TxM] at ht
    obtain ⟨w, w', w1, w2, s, u', hw, hw', hw1, hw2, rfl, hs, hu⟩ := ht
    rw [D6] at hn
    rw [Be] at hc ⊢
    have hx1 := hx x (by simp)
    have hk1 := hk k (by simp)
    have hp := NB x
    have hkn : k ∉ dk := fun h => by
      rw [List.nodup_append] at hnd
      exact hnd.2.2 k h k (by simp) rfl
    have rest : ∀ (j : Nat) (w3 : List UInt8) (wt : Int), wt = 2 ∨ wt = 3 → AllWs w3 → l.drop j = w3 ++ (CE k ++ (w1 ++ 58 :: (w2 ++ (s ++ (u' ++ r))))) → Run N l j (inA st out (Ga dk dn) wt n) (j + w3.length + (CE k).length + w1.length + 1 + w2.length + s.length + u'.length) (Nf st out (Ga (dk ++ k :: ks) (dn ++ x :: xs)) (n + ((Dk x + Be xs : Nat) : Int))) := by
      intro j w3 wt hwt hw3 hj
      have hlen : j + (w3 ++ (CE k ++ (w1 ++ 58 :: (w2 ++ (s ++ (u' ++ r)))))).length = l.length := by
        rcases Ph hj with e | e
        · simp [CE] at e
        · exact e
      simp only [List.length_append] at hlen
      have hq1 : 2 ≤ (CE k).length := by simp [CE]
      have r0 : Run N l j (inA st out (Ga dk dn) wt n) (j + w3.length + (CE k).length) (inA st out (Ga (dk ++ [k]) dn) 4 n) := by
        refine UY hb hN (t := ApiToken.mk 3 k ((j + w3.length : Nat) : Int)) (by omega) ?_ (by omega) rfl (by rw [AGp hwt, if_neg hkn])
        rw [Gj hj hw3 (fun c r' e => by simp [CE] at e; rw [← e.1]; decide), OA hk1.1 (by omega)]
      have hj1 := Fe (Fe hj)
      have r1 := He (N := N) hb hN (p := inA st out (Ga (dk ++ [k]) dn) 4 n) (q := inA st out (Ga (dk ++ [k]) dn) 0 n) hw1 (c := 58) (by decide) (by decide) hj1 fun pos => Z8
      have hj2 : l.drop (j + w3.length + (CE k).length + w1.length + 1) = w2 ++ (s ++ (u' ++ r)) := by
        have := Fe (a := w1 ++ [58]) (b := w2 ++ (s ++ (u' ++ r))) (by simpa using hj1)
        simpa [Nat.add_assoc] using this
      have r2 := ih x _ (inA st out (Ga (dk ++ [k]) dn) 0 n) w2 s (u' ++ r) hx1.1 hx1.2 hw2 hs hj2 (Uq hu r) (.inl rfl) (by simp [inA]; omega) h0 (by simp only [inA]; omega)
      have e1 : Bq { inA st out (Ga (dk ++ [k]) dn) 0 n with nodes := (inA st out (Ga (dk ++ [k]) dn) 0 n).nodes + Dk x } x = inA st out (Ga (dk ++ [k]) (dn ++ [x])) 5 (n + Dk x) := by
        show Bq ⟨st ++ [Ga (dk ++ [k]) dn], 0, n + Dk x, out⟩ x = _
        rw [Mw, AFB]; rfl
      rw [e1] at r2
      have hj3 := Fe (Fe hj2)
      have r3 := Ow hb hN hN2 ih st out ks xs false (dk ++ [k]) (dn ++ [x]) _ u' r (n + Dk x) (fun y hy => hx y (by simp [hy])) (fun y hy => hk y (by simp [hy])) (by simpa using hnd) hu hj3 (fun h => by cases h) (by omega) (by omega) (by omega)
      have e2 : (n + (Dk x : Int)) + (Be xs : Int) = n + ((Dk x + Be xs : Nat) : Int) := by omega
      rw [e2, List.append_assoc, List.append_assoc] at r3
      exact r0.trans (r1.trans (r2.trans r3))
    cases b
    · simp only [Bool.false_eq_true, if_false, List.append_assoc, List.cons_append] at hd ⊢
      have r1 := He (N := N) hb hN (p := inA st out (Ga dk dn) 5 n) (q := inA st out (Ga dk dn) 2 n) (c := 44) hw (by decide) (by decide) hd fun pos => QM
      have hd2 := Fe (a := w ++ [44]) (b := w' ++ (CE k ++ (w1 ++ 58 :: (w2 ++ (s ++ (u' ++ r)))))) (by simpa using hd)
      have r2 := rest _ w' 2 (.inl rfl) hw' hd2
      have ea : i + (w ++ [44]).length = i + w.length + 1 := by simp; omega
      rw [ea] at r2
      have e : i + w.length + 1 + w'.length + (CE k).length + w1.length + 1 + w2.length + s.length + u'.length = i + (w ++ 44 :: (w' ++ (CE k ++ (w1 ++ 58 :: (w2 ++ (s ++ u')))))).length := by simp; omega
      rw [e] at r2
      exact r1.trans r2
    · simp only [if_true] at hd ⊢
      have r2 := rest i w 3 (.inr rfl) hw (by simpa using hd)
      have e : i + w.length + (CE k).length + w1.length + 1 + w2.length + s.length + u'.length = i + (w ++ (CE k ++ (w1 ++ 58 :: (w2 ++ (s ++ u'))))).length := by simp; omega
      rw [e] at r2
      exact r2
theorem Ps (hb : l.length ≤ 1048576) (hN : l.length + 3000 ≤ N) : ∀ e : Nat, AFr N l e
  | 0 => fun v i p w t r h => by have := h.pos; omega
  | e + 1 => fun v i p w t r h hs hw htx hd hr hwant hnest h0 hc => by
    have ih := Ps hb hN e
    have ht := h.text; have hsub := h.sub; have hkl := h.klen
    have hb' : l.length ≤ 2 ^ 40 := by omega
    rw [Gp] at hc ⊢
    rw [JV] at hnest
    cases ME hs with
    | word k hk =>
      have key : ∀ (x : List UInt8), isWord x = true → t = x → K3 x = k → Run N l i p (i + w.length + t.length) (Bq { p with nodes := p.nodes + ((1 + Be [] : Nat) : Int) } ⟨k, [], [], []⟩) := by
        intro x hx e hj
        subst e
        have hne : t ≠ [] := fun e => by rw [e] at hx; simp [isWord] at hx
        refine Nj hb' (by omega) (t := fun pos => ApiToken.mk 5 t pos) hw hne (fun c r' e => ?_) hd (fun pos => Qm hx hr) hwant (fun _ => .inr (.inr rfl)) (fun _ e => by cases e) (fun _ => ?_) (by simpa [Be] using hc)
        · unfold isWord at hx
          simp only [Bool.or_eq_true, beq_iff_eq] at hx
          rcases hx with rfl | rfl | rfl <;> (cases e; decide)
        · show (if ((5 : Int) == 4) = true then _ else if ((5 : Int) == 5) = true then _ else _) = _
          rw [if_neg (by decide), if_pos (by decide), hj]
      rw [TxV] at htx
      rcases hk with rfl | rfl | rfl
      · exact key _ (by decide) htx (by decide)
      · exact key _ (by decide) htx (by decide)
      · exact key _ (by decide) htx (by decide)
    | num s hn =>
      rw [TxV] at htx
      simp only [show ((4 : Int) == 1) = false from rfl, show ((4 : Int) == 2) = false from rfl, show ((4 : Int) == 3) = false from rfl, show ((4 : Int) == 4) = true from rfl, Bool.false_eq_true, if_false, if_true] at htx
      subst htx
      simp only at ht
      unfold Y7 UX at hn
      by_cases hc2 : t ≠ [] ∧ Bi t = t.length
      · rw [if_pos hc2] at hn
        simp only [Bool.and_eq_true, beq_iff_eq] at hn
        obtain ⟨n1, _, _⟩ := Vj (N := N) hc2.1 hc2.2 (by omega) (by omega)
        refine Nj hb' (by omega) (t := fun pos => ApiToken.mk 4 t pos) hw hc2.1 (fun c r' e => ?_) hd (fun pos => UG hc2.1 hc2.2 hr) hwant (fun _ => .inr (.inl rfl)) (fun _ _ => ⟨n1, hn.1⟩) (fun _ => ?_) (by simpa [Be] using hc)
        · obtain ⟨c0, r0, e0, hc0⟩ := Pg hc2.1 hc2.2
          rw [e0] at e
          cases e
          exact (Qt hc0).1
        · show (⟨4, (N9 N t).1, [], []⟩ : ApiValue) = _
          rw [hn.2]
      · rw [if_neg hc2] at hn; simp at hn
    | str s hv =>
      rw [TxV] at htx
      simp only [show ((5 : Int) == 1) = false from rfl, show ((5 : Int) == 2) = false from rfl, show ((5 : Int) == 3) = false from rfl, show ((5 : Int) == 4) = false from rfl, show ((5 : Int) == 5) = true from rfl, Bool.false_eq_true, if_false, if_true] at htx
      subst htx
      simp only at ht
      refine Nj hb' (by omega) (t := fun pos => ApiToken.mk 3 s pos) hw (by simp [CE]) (fun c r' e => by simp [CE] at e; rw [← e.1]; decide) hd (fun pos => OA hv (by omega)) hwant (fun _ => .inl rfl) (fun _ e => by cases e) (fun _ => rfl) (by simpa [Be] using hc)
    | arr xs hx =>
      rw [TxV] at htx
      simp only [show ((6 : Int) == 1) = false from rfl, show ((6 : Int) == 2) = false from rfl, show ((6 : Int) == 3) = false from rfl, show ((6 : Int) == 4) = false from rfl, show ((6 : Int) == 5) = false from rfl, show ((6 : Int) == 7) = false from rfl, Bool.false_eq_true, if_false] at htx
      obtain ⟨u, rfl, hu⟩ := htx
      simp only [show ((6 : Int) == 6) = true from rfl, Bool.true_or, if_true] at hnest
      simp only at hsub hc
      obtain ⟨st, wt, nd, out⟩ := p
      simp only at h0 hc hnest
      rw [List.cons_append] at hd
      have r1 := He (N := N) hb' (by omega) (p := ⟨st, wt, nd, out⟩) (q := inA st out (ML []) 1 (nd + 1)) (c := 91) hw (by decide) (by decide) hd fun pos => by
        rw [SL 91 (.inl rfl) (QS hwant rfl), if_pos rfl, Sv (by omega), if_neg (by omega)]; rfl
      have hd2 : l.drop (i + w.length + 1) = u ++ r := by
        have := Fe (a := w ++ [91]) (b := u ++ r) (by simpa using hd)
        simpa [Nat.add_assoc] using this
      have r2 := Sn hb' (by omega) ih st out xs true [] _ u r (nd + 1) (fun x hm => ⟨hsub x hm, hx x hm⟩) hu hd2 (fun _ => rfl) (by omega) (by omega) (by omega)
      have e1 : nd + 1 + (Be xs : Int) = nd + ((1 + Be xs : Nat) : Int) := by omega
      have e2 : i + w.length + 1 + u.length = i + w.length + (91 :: u).length := by simp; omega
      rw [e1, e2] at r2
      rw [← Mw st out _ wt] at r2
      exact r1.trans r2
    | obj ks xs hl hdk hx =>
      rw [TxV] at htx
      simp only [show ((7 : Int) == 1) = false from rfl, show ((7 : Int) == 2) = false from rfl, show ((7 : Int) == 3) = false from rfl, show ((7 : Int) == 4) = false from rfl, show ((7 : Int) == 5) = false from rfl, show ((7 : Int) == 7) = true from rfl, Bool.false_eq_true, if_false, if_true] at htx
      obtain ⟨u, rfl, hu⟩ := htx
      simp only [show ((7 : Int) == 7) = true from rfl, Bool.or_true, if_true] at hnest
      simp only at hsub hc hkl
      obtain ⟨st, wt, nd, out⟩ := p
      simp only at h0 hc hnest
      rw [List.cons_append] at hd
      have r1 := He (N := N) hb' (by omega) (p := ⟨st, wt, nd, out⟩) (q := inA st out (Ga [] []) 3 (nd + 1)) (c := 123) hw (by decide) (by decide) hd fun pos => by
        rw [SL 123 (.inr rfl) (QS hwant rfl), if_neg (by decide), Sv (by omega), if_neg (by omega)]; rfl
      have hd2 : l.drop (i + w.length + 1) = u ++ r := by
        have := Fe (a := w ++ [123]) (b := u ++ r) (by simpa using hd)
        simpa [Nat.add_assoc] using this
      have hall := ADb hdk
      have r2 := Ow hb' (by omega) (by omega) ih st out ks xs true [] [] _ u r (nd + 1) (fun x hm => ⟨hsub x hm, hx x hm⟩) (fun k hk => ⟨hall k hk, hkl k hk⟩) (by simpa using Oc hdk) hu hd2 (fun _ => rfl) (by omega) (by omega) (by omega)
      have e1 : nd + 1 + (Be xs : Int) = nd + ((1 + Be xs : Nat) : Int) := by omega
      have e2 : i + w.length + 1 + u.length = i + w.length + (123 :: u).length := by simp; omega
      rw [e1, e2] at r2
      rw [← Mw st out _ wt] at r2
      exact r1.trans r2
end
end Go.VM
namespace Go.VM
section
variable {N : Nat} {l : List UInt8}
theorem MR.vq {X : Option (ApiValue × Int × Int)} {st : List ApiValue} {out v : ApiValue} {p q : Ref14Parser} (h : MR N l X (Nf st out v) q) (hf : p.fail = 0) (ha : q.at_ = p.at_) : VQ N l X st out p (v, q) := ⟨h, by rw [ha]; exact Int.le_refl _, fun _ => hf⟩
end
end Go.VM
namespace Go.VM
theorem AllWs.app {a b : List UInt8} (h : AllWs a) (k : AllWs b) : AllWs (a ++ b) := fun c hc => by
  rcases List.mem_append.1 hc with e | e
  · exact h c e
  · exact k c e
theorem TxI.pre {b : Bool} {xs : List ApiValue} {u w : List UInt8} (hw : AllWs w) (h : TxI b xs u) : TxI b xs (w ++ u) := by
  cases xs with
  | nil =>
    rw [TxI] at h ⊢
    obtain ⟨w', h1, rfl⟩ := h
    exact ⟨w ++ w', hw.app h1, by simp⟩
  | cons x xs =>
    rw [TxI] at h ⊢
    obtain ⟨w1, w2, s, u', h1, h2, rfl, h3, h4⟩ := h
    refine ⟨w ++ w1, w2, s, u', hw.app h1, h2, ?_, h3, h4⟩
    cases b <;> simp
theorem TxM.pre {b : Bool} {ks : List (List UInt8)} {xs : List ApiValue} {u w : List UInt8} (hw : AllWs w) (h : TxM b ks xs u) : TxM b ks xs (w ++ u) := by
  cases ks with
  | nil =>
    cases xs with
    | nil =>
      rw [TxM] at h ⊢
      obtain ⟨w', h1, rfl⟩ := h
      exact ⟨w ++ w', hw.app h1, by simp⟩
    | cons x xs => simp [TxM] at h
  | cons k ks =>
    cases xs with
    | nil => simp [TxM] at h
    | cons x xs =>
      rw [TxM] at h ⊢
      obtain ⟨w1, w2, w3, w4, s, u', h1, h2, h3, h4, rfl, h5, h6⟩ := h
      refine ⟨w ++ w1, w2, w3, w4, s, u', hw.app h1, h2, h3, h4, ?_, h5, h6⟩
      cases b <;> simp
section
variable {N : Nat} {l : List UInt8}
theorem AJg {xs : List ApiValue} {u : List UInt8} (h : TxI true xs u) : TxV ⟨6, [], [], xs⟩ (91 :: u) := by
  rw [TxV]
  simp only [show ((6 : Int) == 1) = false from rfl, show ((6 : Int) == 2) = false from rfl, show ((6 : Int) == 3) = false from rfl, show ((6 : Int) == 4) = false from rfl, show ((6 : Int) == 5) = false from rfl, show ((6 : Int) == 7) = false from rfl, Bool.false_eq_true, if_false]
  exact ⟨u, rfl, h⟩
theorem AJn {ks : List (List UInt8)} {xs : List ApiValue} {u : List UInt8} (h : TxM true ks xs u) : TxV ⟨7, [], ks, xs⟩ (123 :: u) := by
  rw [TxV]
  simp only [show ((7 : Int) == 1) = false from rfl, show ((7 : Int) == 2) = false from rfl, show ((7 : Int) == 3) = false from rfl, show ((7 : Int) == 4) = false from rfl, show ((7 : Int) == 5) = false from rfl, show ((7 : Int) == 7) = true from rfl, Bool.false_eq_true, if_false, if_true]
  exact ⟨u, rfl, h⟩
theorem AFy (xs : List ApiValue) : wrV ⟨6, [], [], xs⟩ = 91 :: (wrI true xs ++ [93]) := by rw [wrV]; rfl
theorem AFP (ks : List (List UInt8)) (xs : List ApiValue) : wrV ⟨7, [], ks, xs⟩ = 123 :: (wrM true ks xs ++ [125]) := by rw [wrV]; rfl
theorem QH {v : ApiValue} (h : (v.kind == 6) = false ∧ (v.kind == 7) = false) (hs : Shp N v) : TxV v (wrV v) := by
  cases hs with
  | word k hk => rcases hk with rfl | rfl | rfl <;> (rw [TxV, wrV]; rfl)
  | num s _ => rw [TxV, wrV]; rfl
  | str s _ => rw [TxV, wrV]; rfl
  | arr xs _ => cases h.1
  | obj ks xs _ _ _ => cases h.2
theorem PN : ∀ (e : Nat) (v : ApiValue), okW e v → Ed N v = true → TxV v (wrV v)
  | 0, v, h, _ => by have := h.pos; omega
  | e + 1, v, h, hs => by
    have hsub := h.sub
    cases ME hs with
    | word k hk => exact QH (N := N) ⟨by rcases hk with rfl | rfl | rfl <;> rfl, by rcases hk with rfl | rfl | rfl <;> rfl⟩ (.word k hk)
    | num s hn => exact QH (N := N) ⟨rfl, rfl⟩ (.num s hn)
    | str s hn => exact QH (N := N) ⟨rfl, rfl⟩ (.str s hn)
    | arr xs hx =>
      simp only at hsub
      rw [AFy]
      refine AJg ?_
      have key : ∀ (b : Bool) (ys : List ApiValue), (∀ y, y ∈ ys → okW e y ∧ Ed N y = true) → TxI b ys (wrI b ys ++ [93]) := by
        intro b ys
        induction ys generalizing b with
        | nil => intro _; rw [TxI, wrI]; exact ⟨[], Hg, rfl⟩
        | cons y ys ih =>
          intro hy
          rw [TxI, wrI]
          refine ⟨[], [], wrV y, wrI false ys ++ [93], Hg, Hg, ?_, PN e y (hy y (by simp)).1 (hy y (by simp)).2, ih false fun z hz => hy z (by simp [hz])⟩
          cases b <;> simp
      exact key true xs fun y hy => ⟨hsub y hy, hx y hy⟩
    | obj ks xs hl hd hx =>
      simp only at hsub
      rw [AFP]
      refine AJn ?_
      have key : ∀ (b : Bool) (ys : List ApiValue) (qs : List (List UInt8)), qs.length = ys.length → (∀ y, y ∈ ys → okW e y ∧ Ed N y = true) → TxM b qs ys (wrM b qs ys ++ [125]) := by
        intro b ys
        induction ys generalizing b with
        | nil =>
          intro qs hq _
          have : qs = [] := List.length_eq_zero_iff.1 (by simpa using hq)
          subst this
          rw [TxM, wrM]
          · exact ⟨[], Hg, rfl⟩
          · intros; simp_all
        | cons y ys ih =>
          intro qs hq hy
          cases qs with
          | nil => simp at hq
          | cons q qs =>
            rw [TxM, wrM]
            refine ⟨[], [], [], [], wrV y, wrM false qs ys ++ [125], Hg, Hg, Hg, Hg, ?_, PN e y (hy y (by simp)).1 (hy y (by simp)).2, ih false qs (by simpa using hq) fun z hz => hy z (by simp [hz])⟩
            cases b <;> simp
      exact key true xs ks hl fun y hy => ⟨hsub y hy, hx y hy⟩
theorem AIM {w : List UInt8} (h : AllWs w) : Stop w := by
  cases w with
  | nil => exact QQ
  | cons c w => exact Fh (by unfold MW; rw [h c (by simp)]; simp)
theorem ABH {e : Nat} {v : ApiValue} {w t w' : List UInt8} (hv : okW e v) (hs : Ed N v = true) (hn : GN v ≤ 64) (hc : Dk v ≤ 20000) (hw : AllWs w) (hw' : AllWs w') (ht : TxV v t) (hl : (w ++ (t ++ w')).length ≤ 1048576) (hN : 2000000 ≤ N) (hN2 : N ≤ 1099511627776) :
    BJ N (w ++ (t ++ w')) = some (v, ((w ++ (t ++ w')).length : Int), 0) := by
  unfold BJ
  rw [if_neg (by omega), if_neg (by omega)]
  generalize hL : w ++ (t ++ w') = l at *
  have hrun := Ps (N := N) (l := l) hl (by omega) e v 0 ⟨[], 0, 0, CG⟩ w t w' hv hs hw ht (by rw [List.drop_zero, hL]) (AIM hw') (.inl rfl) (by simpa using hn) (by decide) (by simp only []; omega)
  obtain ⟨E, h1, h2⟩ := hrun N (by omega)
  have hlen : w.length + (t.length + w'.length) = l.length := by rw [← hL]; simp
  obtain ⟨E, rfl⟩ : ∃ k, E = k + 1 := ⟨E - 1, by omega⟩
  have hd : Bq { (⟨[], 0, 0, CG⟩ : JPsr) with nodes := (0 : Int) + Dk v } v = ⟨[], 6, (0 : Int) + Dk v, v⟩ := rfl
  rw [show ((0 : Nat) : Int) = 0 from rfl] at h2
  rw [h2, hd, Je (by omega) (by omega) E _ (by omega)]
  have hnx : Ey N l (0 + w.length + t.length) = (ApiToken.mk 1 [] ((l.length : Nat) : Int), ((l.length : Nat) : Int), 0) := by
    have hdrop : l.drop (0 + w.length + t.length) = w' ++ [] := by
      rw [← hL, List.append_nil, show 0 + w.length + t.length = w.length + t.length by omega, ← List.drop_drop, List.drop_left, List.drop_left]
    rw [Gj hdrop hw' (fun c r e => by cases e)]
    show (ApiToken.mk 1 [] _, _, (0 : Int)) = _
    have : 0 + w.length + t.length + w'.length = l.length := by omega
    rw [this]
  rw [hnx, if_neg (by simp), KS]
  unfold BC
  rw [if_neg (by simp [Bt])]
  simp
end
end Go.VM
namespace Go.VM
theorem SV {t : List UInt8} {n : Nat} (y : List UInt8) (h : FO t = some n) : FO (t ++ y) = some n := by
  obtain ⟨_, h6, _⟩ := Iw h
  obtain ⟨x, z, a, b, c, d, r, rfl⟩ := six (t := t) (by omega)
  exact h
theorem AE4 {t : List UInt8} (y : List UInt8) (h : (HZ t).2.2 = 0) : HZ (t ++ y) = HZ t := by
  cases hu : FO t with
  | none =>
    rw [JW hu] at h ⊢
    match t, hu, h with
    | [], _, h => cases h
    | [_], _, h => cases h
    | x :: c :: r, hu, h =>
      have h2 : FO (x :: c :: r ++ y) = none := by
        cases h2 : FO (x :: c :: r ++ y) with
        | none => rfl
        | some n =>
          obtain ⟨_, _, r', e⟩ := Iw h2
          simp only [List.cons_append, List.cons.injEq] at e
          obtain ⟨_, rfl, _⟩ := e
          simp only [Jq, AIS] at h
          cases h
      rw [JW h2]; rfl
  | some hi =>
    have hl := (Iw hu).2.1
    rw [Jd hu] at h ⊢
    rw [Jd (SV y hu)]
    by_cases c1 : 55296 ≤ hi ∧ hi ≤ 56319
    · simp only [c1, and_self, if_true] at h ⊢
      cases hu2 : FO (t.drop 6) with
      | none => rw [hu2] at h; cases h
      | some lo => rw [List.drop_append_of_le_length hl, SV y hu2]
    · rw [if_neg c1, if_neg c1]
theorem Nn (y : List UInt8) : ∀ (k : Nat) (t : List UInt8) (i : Nat) (out : List UInt8), (Bw k t i out).2.2 = 0 → Bw k (t ++ y) i out = Bw k t i out
  | 0, t, i, out, h => by rw [Bw] at h; cases h
  | k + 1, [], i, out, h => by rw [Bw] at h; cases h
  | k + 1, c :: t, i, out, h => by
    rw [Bw] at h ⊢
    rw [List.cons_append, Bw]
    by_cases c1 : c.toNat = 34
    · rw [if_pos c1, if_pos c1]
    rw [if_neg c1] at h ⊢
    rw [if_neg c1]
    by_cases c2 : c.toNat = 92
    · rw [if_pos c2] at h ⊢
      rw [if_pos c2]
      by_cases c3 : (HZ (c :: t)).2.2 = 0
      · have e := AE4 y c3
        rw [List.cons_append] at e
        rw [if_pos c3] at h ⊢
        rw [e, if_pos c3, ← List.cons_append, List.drop_append_of_le_length (Pm c3).2.1]
        exact Nn y k _ _ _ h
      · rw [if_neg c3] at h; exact absurd h c3
    rw [if_neg c2] at h ⊢
    rw [if_neg c2]
    by_cases c3 : c.toNat < 32
    · rw [if_pos c3] at h; cases h
    rw [if_neg c3] at h ⊢
    rw [if_neg c3]
    cases hd : Hd (c :: t) with
    | none => rw [hd] at h; cases h
    | some q =>
      obtain ⟨r, n⟩ := q
      obtain ⟨_, hn, _⟩ := Kw hd
      have e := X3 hd ((c :: t).drop n ++ y)
      rw [← List.append_assoc, List.take_append_drop, List.cons_append] at e
      rw [hd] at h
      rw [e]
      simp only at h ⊢
      rw [← List.cons_append, List.drop_append_of_le_length hn, List.take_append_of_le_length hn]
      exact Nn y k _ _ _ h
theorem NT {N p : Nat} {u : List UInt8} (h : (GY N p u).2.2 = 0) :
    (u = [] ∧ GY N p u = (ApiToken.mk 1 [] p, (p : Int), 0)) ∨ (∃ c r, u = c :: r ∧ H6.contains c = true ∧ GY N p u = (ApiToken.mk 2 [c] p, ((p + 1 : Nat) : Int), 0)) ∨
    ((GY N p u).1.kind = 3 ∧ u ≠ [] ∧ ∀ y, GY N p (u ++ y) = GY N p u) ∨ (∃ s r, u = s ++ r ∧ s ≠ [] ∧ Bi s = s.length ∧ GY N p u = (ApiToken.mk 4 s p, ((p + s.length : Nat) : Int), 0)) ∨
    (∃ s r, u = s ++ r ∧ isWord s = true ∧ GY N p u = (ApiToken.mk 5 s p, ((p + s.length : Nat) : Int), 0)) := by
  match u, h with
  | [], h => exact .inl ⟨rfl, rfl⟩
  | c :: r, h =>
    right
    by_cases h1 : H6.contains c = true
    · exact .inl ⟨c, r, rfl, h1, GR h1⟩
    right
    by_cases h2 : c.toNat = 34
    · left
      rw [Ec, if_neg h1, if_pos h2] at h
      by_cases h3 : (Bw N r (p + 1) []).2.2 = 0
      · refine ⟨?_, by simp, fun y => ?_⟩
        · rw [Ec, if_neg h1, if_pos h2, if_pos h3]
        · rw [List.cons_append, Ec, Ec, if_neg h1, if_pos h2, if_neg h1, if_pos h2, Nn y _ _ _ _ h3]
      · rw [if_neg h3] at h; exact absurd h h3
    right
    rw [Ec, if_neg h1, if_neg h2] at h ⊢
    by_cases h3 : (([45] : List UInt8).contains c || Cm c) = true
    · left
      rw [if_pos h3] at h ⊢
      by_cases h4 : Bi (c :: r) = 0
      · rw [if_pos h4] at h; cases h
      · have hle := PM (c :: r)
        have hlen : ((c :: r).take (Bi (c :: r))).length = Bi (c :: r) := by rw [List.length_take]; omega
        rw [if_neg h4]
        exact ⟨_, (c :: r).drop (Bi (c :: r)), (List.take_append_drop _ _).symm, fun e => h4 (by rw [← hlen, e]; rfl), by rw [hlen, Sc], by rw [hlen]⟩
    rw [if_neg h3] at h ⊢
    right
    by_cases h4 : isWord ((c :: r).takeWhile BX) = true
    · rw [if_pos h4]
      exact ⟨_, (c :: r).dropWhile BX, List.takeWhile_append_dropWhile.symm, h4, rfl⟩
    · rw [if_neg h4] at h; cases h
section
variable {N : Nat}
def Acc (N : Nat) (l : List UInt8) (E i : Nat) (p : JPsr) : Prop := ∃ v n, Dr N l E i p = some (v, n, 0)
theorem KW {l : List UInt8} (hb : l.length ≤ 2 ^ 40) (hN : l.length + 10 ≤ N) {E i : Nat} (hi : i ≤ l.length) {p : JPsr} (h : Acc N l (E + 1) i p) :
    ∃ t j q, Ey N l i = (t, ((j : Nat) : Int), 0) ∧ i ≤ j ∧ j ≤ l.length ∧ BC N p t = some (q, 0) ∧ (t.kind = 1 ∨ t.kind ≠ 1 ∧ Acc N l E j q) := by
  obtain ⟨v, n, h⟩ := h
  rw [Je hb hN E i hi] at h
  by_cases h0 : (Ey N l i).2.2 = 0
  · obtain ⟨_, j, e1, e2, e3, _⟩ := Wz hi h0
    rw [if_neg (by simpa using h0), KS] at h
    cases hq : BC N p (Ey N l i).1 with
    | none => rw [hq] at h; cases h
    | some q =>
      obtain ⟨q, err⟩ := q
      rw [hq, Option.bind_some] at h
      by_cases he : err = 0
      · subst he
        rw [if_neg (by simp)] at h
        refine ⟨(Ey N l i).1, j, q, ?_, e2, e3, hq, ?_⟩
        · rw [← e1, ← h0]
        · by_cases hk : (Ey N l i).1.kind = 1
          · exact .inl hk
          · rw [if_neg (by simpa using hk), e1] at h
            exact .inr ⟨hk, v, n, h⟩
      · rw [if_pos (by simpa using he)] at h
        simp only [Option.some.injEq, Prod.mk.injEq] at h
        exact absurd h.2.2 he
  · rw [if_pos h0] at h
    simp only [Option.some.injEq, Prod.mk.injEq] at h
    exact absurd h.2.2 h0
theorem Lu (l : List UInt8) (i : Nat) : ∃ w u, AllWs w ∧ (∀ c r, u = c :: r → wsB c = false) ∧ l.drop i = w ++ u ∧ Ey N l i = GY N (i + w.length) u := by
  have hw : AllWs ((l.drop i).takeWhile wsB) := fun c hc => by
    have := List.all_takeWhile (l := l.drop i) (p := wsB)
    exact List.all_eq_true.1 this c hc
  have hu : ∀ c r, (l.drop i).dropWhile wsB = c :: r → wsB c = false := fun c r e => by
    have := List.head?_dropWhile_not wsB (l.drop i)
    rw [e] at this
    simpa using this
  have e := (List.takeWhile_append_dropWhile (p := wsB) (l := l.drop i)).symm
  exact ⟨_, _, hw, hu, e, Gj e hw hu⟩
theorem Jb {p q : JPsr} {t : ApiToken} (h : BC N p t = some (q, 0)) : Bt p t = true := by
  unfold BC at h
  cases hf : Bt p t
  · rw [if_pos hf] at h; simp at h
  · rfl
theorem Xi {p : JPsr} {t : ApiToken} (hk : t.kind = 1) (h : Bt p t = true) : (p.want == 0) = false ∧ (p.want == 1) = false ∧ (p.want == 2) = false ∧ (p.want == 3) = false ∧ (p.want == 4) = false ∧ (p.want == 5) = false := by
  unfold Bt D8 IV at h
  rw [hk] at h
  cases h0 : p.want == 0 <;> simp only [h0, if_true, Bool.false_eq_true, if_false] at h
  · cases h1 : p.want == 1 <;> simp only [h1, if_true, Bool.false_eq_true, if_false] at h
    · cases h2 : p.want == 2 <;> simp only [h2, if_true, Bool.false_eq_true, if_false] at h
      · cases h3 : p.want == 3 <;> simp only [h3, if_true, Bool.false_eq_true, if_false] at h
        · cases h4 : p.want == 4 <;> simp only [h4, if_true, Bool.false_eq_true, if_false] at h
          · cases h5 : p.want == 5 <;> simp only [h5, if_true, Bool.false_eq_true, if_false] at h
            · simp
            · simp at h
          · simp at h
        · simp at h
      · simp at h
    · simp at h
  · simp at h
theorem Jo {p : JPsr} {t : ApiToken} (hw : (p.want == 0) = false ∧ (p.want == 1) = false ∧ (p.want == 2) = false ∧ (p.want == 3) = false ∧ (p.want == 4) = false ∧ (p.want == 5) = false) : Bt p t = (t.kind == 1) := by
  unfold Bt
  rw [hw.1, hw.2.1, hw.2.2.1, hw.2.2.2.1, hw.2.2.2.2.1, hw.2.2.2.2.2]; rfl
theorem AEe {p q : JPsr} {v : ApiValue} (hs : p.stack ≠ []) (h : Fz p v = (q, 0)) : q.want = 5 ∧ q.stack ≠ [] := by
  unfold Fz at h
  split at h
  · simp at h
  · simp only [Prod.mk.injEq, and_true] at h
    rw [← h]
    unfold Bq
    cases hl : p.stack.getLast? with
    | none => exact absurd (List.getLast?_eq_none_iff.1 hl) hs
    | some x => simp
theorem ABO {p q : JPsr} {t : ApiToken} (hs : p.stack ≠ []) (h : Gd N p t = some (q, 0)) : q.want = 5 ∧ q.stack ≠ [] := by
  unfold Gd at h
  split at h
  · cases ht : BU N t.text with
    | none => rw [ht] at h; cases h
    | some y =>
      rw [ht, Option.bind_some] at h
      split at h
      · simp at h
      · simp only [Option.some.injEq] at h; exact AEe hs h
  · split at h
    · simp only [Option.some.injEq] at h; exact AEe hs h
    · simp only [Option.some.injEq] at h; exact AEe hs h
theorem AFl (p : JPsr) (v : ApiValue) : (Bq p v).want = 6 ∨ (Bq p v).stack ≠ [] := by
  unfold Bq
  cases p.stack.getLast? <;> simp
theorem open_inv {p q : JPsr} {k w : Int} (h : Dv p k w = (q, 0)) : q.stack ≠ [] := by
  unfold Dv at h
  split at h
  · simp at h
  · split at h
    · simp at h
    · simp only [Prod.mk.injEq, and_true] at h; rw [← h]; simp
theorem Xk {p q : JPsr} {t : ApiToken} (hs : p.stack ≠ []) (h : BC N p t = some (q, 0)) : q.want = 6 ∨ q.stack ≠ [] := by
  unfold BC at h
  split at h
  · simp at h
  · split at h
    · unfold F5 at h
      split at h
      · simp only [Option.some.injEq] at h; exact .inr (open_inv h)
      · split at h
        · simp only [Option.some.injEq] at h; exact .inr (open_inv h)
        · split at h
          · simp only [Option.some.injEq, Prod.mk.injEq, and_true] at h; rw [← h]; exact .inr hs
          · cases hl : p.stack.getLast? with
            | none => rw [hl] at h; cases h
            | some x =>
              rw [hl] at h
              simp only at h
              split at h
              · simp only [Option.some.injEq, Prod.mk.injEq, and_true] at h; rw [← h]; exact .inr hs
              · simp only [Option.some.injEq, Prod.mk.injEq, and_true] at h; rw [← h]; exact AFl _ _
    · split at h
      · unfold Kl at h
        cases hl : p.stack.getLast? with
        | none => rw [hl] at h; cases h
        | some x =>
          rw [hl] at h
          simp only at h
          split at h
          · simp at h
          · simp only [Option.some.injEq, Prod.mk.injEq, and_true] at h; rw [← h]; exact .inr (by simp)
      · split at h
        · simp only [Option.some.injEq, Prod.mk.injEq, and_true] at h; rw [← h]; exact .inr hs
        · exact .inr (ABO hs h).2
theorem ADu {p q : JPsr} {t : ApiToken} (hs : p.stack ≠ []) (hk : t.kind = 4 ∨ t.kind = 5) (h : BC N p t = some (q, 0)) : q.want = 5 ∧ q.stack ≠ [] := by
  have hf := Jb h
  unfold BC at h
  rw [if_neg (by rw [hf]; decide), if_neg (by rcases hk with e | e <;> rw [e] <;> decide)] at h
  split at h
  · rename_i hw
    exfalso
    unfold Bt IV at hf
    rw [Bool.or_eq_true, beq_iff_eq, beq_iff_eq] at hw
    rcases hw with e | e <;> rw [e] at hf <;> rcases hk with e2 | e2 <;> rw [e2] at hf <;> simp at hf
  · rw [if_neg (by rcases hk with e | e <;> rw [e] <;> decide)] at h
    exact ABO hs h
theorem AAv (p : JPsr) (hs : p.stack ≠ []) : DV p = [93] ∨ DV p = [125] := by
  unfold DV
  cases hl : p.stack.getLast? with
  | none => exact absurd (List.getLast?_eq_none_iff.1 hl) hs
  | some x => simp only []; split <;> simp
theorem AF1 {l : List UInt8} (hb : l.length ≤ 2 ^ 40) (hN : l.length + 10 ≤ N) {E i : Nat} (hi : i ≤ l.length) {p : JPsr} (hw : p.want = 5) (hs : p.stack ≠ []) (h : Acc N l E i p) : ∃ c r, l.drop i = c :: r ∧ MW c = true := by
  obtain _ | E := E
  · obtain ⟨v, n, h⟩ := h; rw [Dr] at h; cases h
  obtain ⟨t, j, q, h1, h2, h3, h4, h5⟩ := KW hb hN hi h
  have hf := Jb h4
  obtain ⟨w, u, g1, g2, g3, g4⟩ := Lu (N := N) l i
  have hf2 : t.kind = 2 ∧ (t.text = [44] ∨ t.text = [93] ∨ t.text = [125]) := by
    unfold Bt IV at hf
    rw [hw] at hf
    simp at hf
    rcases hf with hf | hf
    · exact ⟨hf.1, .inl hf.2⟩
    · rcases AAv p hs with e | e <;> rw [e] at hf <;> exact ⟨hf.1, by simp [hf.2]⟩
  rw [h1] at g4
  cases w with
  | cons c w => exact ⟨c, w ++ u, by rw [g3]; rfl, by unfold MW; rw [g1 c (by simp)]; simp⟩
  | nil =>
    have g5 : (GY N (i + ([] : List UInt8).length) u).2.2 = 0 := by rw [← g4]
    rcases NT g5 with ⟨_, e⟩ | ⟨c, r, e1, _, e⟩ | ⟨e, _⟩ | ⟨s, r, _, _, _, e⟩ | ⟨s, r, _, _, e⟩
    · rw [← g4] at e; simp only [Prod.mk.injEq] at e; rw [e.1] at hf2; simp at hf2
    · rw [← g4] at e
      simp only [Prod.mk.injEq] at e
      rw [e.1] at hf2
      refine ⟨c, r, by rw [g3, e1]; rfl, ?_⟩
      simp only [List.cons.injEq, and_true, true_and] at hf2
      rcases hf2 with rfl | rfl | rfl <;> decide
    · rw [← g4] at e; simp only at e; omega
    · rw [← g4] at e; simp only [Prod.mk.injEq] at e; rw [e.1] at hf2; simp at hf2
    · rw [← g4] at e; simp only [Prod.mk.injEq] at e; rw [e.1] at hf2; simp at hf2
theorem YY {x y : List UInt8} (hb : (x ++ y).length ≤ 2 ^ 40) (hN : (x ++ y).length + 10 ≤ N) (hy : ∃ y' c, y = y' ++ [c] ∧ wsB c = false) : ∀ (E i : Nat) (p : JPsr), i ≤ x.length → ((p.want = 6 ∧ p.stack = []) ∨ p.stack ≠ []) → Acc N x E i p → ∀ E', ¬ Acc N (x ++ y) E' i p
  | 0, i, p, _, _, ⟨v, n, h⟩, _, _ => by rw [Dr] at h; cases h
  | E + 1, i, p, hi, hp, h, E', h' => by
    obtain _ | E' := E'
    · obtain ⟨v, n, h'⟩ := h'; rw [Dr] at h'; cases h'
    have hlen : (x ++ y).length = x.length + y.length := List.length_append
    obtain ⟨t, j, q, h1, h2, h3, h4, h5⟩ := KW (by omega) (by omega) hi h
    obtain ⟨t', j', q', k1, k2, k3, k4, k5⟩ := KW hb hN (by omega) h'
    obtain ⟨w, u, g1, g2, g3, g4⟩ := Lu (N := N) x i
    have hd : (x ++ y).drop i = w ++ (u ++ y) := by rw [List.drop_append_of_le_length hi, g3, List.append_assoc]
    have hf := Jb h4
    have hf' := Jb k4
    rw [h1] at g4
    have g5 : (GY N (i + w.length) u).2.2 = 0 := by rw [← g4]
    have ulen : i + w.length + u.length = x.length := by
      have := congrArg List.length g3
      rw [List.length_drop, List.length_append] at this; omega
    have same : (GY N (i + w.length) (u ++ y)) = (t, ((j : Nat) : Int), 0) → u ≠ [] → t.kind ≠ 1 → False := fun e hu hk => by
      have hne : ∀ c r, u ++ y = c :: r → wsB c = false := fun c r e => by
        cases u with
        | nil => exact absurd rfl hu
        | cons a u => simp only [List.cons_append, List.cons.injEq] at e; obtain ⟨rfl, rfl⟩ := e; exact g2 _ _ rfl
      rw [Gj hd g1 hne, e] at k1
      simp only [Prod.mk.injEq, and_true] at k1
      obtain ⟨rfl, e2⟩ := k1
      have e3 : j = j' := by omega
      subst e3
      rw [h4] at k4
      simp only [Option.some.injEq, Prod.mk.injEq, and_true] at k4
      subst k4
      have a1 : Acc N x E j q := by rcases h5 with e | e; exact absurd e hk; exact e.2
      have a2 : Acc N (x ++ y) E' j q := by rcases k5 with e | e; exact absurd e hk; exact e.2
      have hst : p.stack ≠ [] := by
        rcases hp with ⟨hw, _⟩ | e
        · rw [Jo (by rw [hw]; decide)] at hf; exact absurd (by simpa using hf) hk
        · exact e
      refine YY hb hN hy E j q (by omega) ?_ a1 E' a2
      by_cases hq : q.stack = []
      · rcases Xk hst h4 with e | e
        · exact .inl ⟨e, hq⟩
        · exact .inr e
      · exact .inr hq
    have stp : (hk : t.kind = 4 ∨ t.kind = 5) → ∃ c r, x.drop j = c :: r ∧ MW c = true := fun hk => by
      have hst : p.stack ≠ [] := by
        rcases hp with ⟨hw, _⟩ | e
        · rw [Jo (by rw [hw]; decide)] at hf; have : t.kind = 1 := by simpa using hf
          omega
        · exact e
      obtain ⟨q5, qs⟩ := ADu hst hk h4
      have a1 : Acc N x E j q := by rcases h5 with e | e; omega; exact e.2
      exact AF1 (by omega) (by omega) h3 q5 qs a1
    rcases NT g5 with ⟨hu, e⟩ | ⟨c, r, hu, hc, e⟩ | ⟨e, hu, e2⟩ | ⟨s, r, hu, s0, sn, e⟩ | ⟨s, r, hu, sw, e⟩
    · rw [← g4] at e
      simp only [Prod.mk.injEq] at e
      have hk : t.kind = 1 := by rw [e.1]
      have hw := Xi hk hf
      rw [Jo hw] at hf'
      have hk' : t'.kind = 1 := by simpa using hf'
      obtain ⟨w2, u2, b1, b2, b3, b4⟩ := Lu (N := N) (x ++ y) i
      rw [k1] at b4
      have b5 : (GY N (i + w2.length) u2).2.2 = 0 := by rw [← b4]
      obtain ⟨y', c, rfl, hc⟩ := hy
      rcases NT b5 with ⟨hu2, f⟩ | ⟨c2, r2, hu2, hc2, f⟩ | ⟨f, hu2, f2⟩ | ⟨s2, r2, hu2, s02, sn2, f⟩ | ⟨s2, r2, hu2, sw2, f⟩
      · rw [hd, hu, hu2, List.append_nil, List.nil_append, ← List.append_assoc] at b3
        have := b1 c (by rw [← b3]; simp)
        rw [this] at hc; cases hc
      · rw [← b4] at f; simp only [Prod.mk.injEq] at f; rw [f.1] at hk'; simp at hk'
      · rw [← b4] at f; simp only at f; omega
      · rw [← b4] at f; simp only [Prod.mk.injEq] at f; rw [f.1] at hk'; simp at hk'
      · rw [← b4] at f; simp only [Prod.mk.injEq] at f; rw [f.1] at hk'; simp at hk'
    · refine same ?_ (by rw [hu]; simp) ?_
      · rw [hu, List.cons_append, GR hc, g4, hu, GR hc]
      · rw [← g4] at e; simp only [Prod.mk.injEq] at e; rw [e.1]; simp
    · refine same (by rw [e2, ← g4]) hu ?_
      rw [← g4] at e; simp only at e; omega
    · have g4' := g4
      rw [e] at g4'
      simp only [Prod.mk.injEq, and_true] at g4'
      obtain ⟨rfl, e3⟩ := g4'
      have e4 : j = i + w.length + s.length := by omega
      obtain ⟨c, r', d1, d2⟩ := stp (.inl rfl)
      have hr : r = c :: r' := by rw [← d1, e4, Nat.add_assoc, ← List.drop_drop, g3, hu]; simp
      refine same ?_ (by rw [hu]; simp [s0]) (by simp)
      rw [hu, List.append_assoc, UG s0 sn (by rw [hr]; exact Fh d2), e4]
    · have g4' := g4
      rw [e] at g4'
      simp only [Prod.mk.injEq, and_true] at g4'
      obtain ⟨rfl, e3⟩ := g4'
      have e4 : j = i + w.length + s.length := by omega
      obtain ⟨c, r', d1, d2⟩ := stp (.inr rfl)
      have hr : r = c :: r' := by rw [← d1, e4, Nat.add_assoc, ← List.drop_drop, g3, hu]; simp
      refine same ?_ (by rw [hu]; intro e; rw [(List.append_eq_nil_iff.1 e).1] at sw; simp [isWord] at sw) (by simp)
      rw [hu, List.append_assoc, Qm sw (by rw [hr]; exact Fh d2), e4]
end
end Go.VM
namespace Go.VM
section
variable {N : Nat}
def AIP (p : JPsr) : Prop := (p.stack = [] ∧ (p.want = 0 ∨ p.want = 6)) ∨ p.stack ≠ []
theorem ACy {l : List ApiValue} (h : l ≠ []) : ∃ x, l.getLast? = some x := by
  cases h2 : l.getLast? with
  | none => exact absurd (List.getLast?_eq_none_iff.1 h2) h
  | some x => exact ⟨x, rfl⟩
theorem Nw {p q : JPsr} {v : ApiValue} (hs : p.stack = []) (h : Fz p v = (q, 0)) : AIP q := by
  unfold Fz at h
  split at h
  · simp at h
  · simp only [Prod.mk.injEq, and_true] at h
    rw [← h]
    unfold Bq
    simp only [hs, List.getLast?_nil]
    exact .inl ⟨rfl, .inr rfl⟩
theorem Z7 {p : JPsr} {t : ApiToken} {n : Nat} (hp : AIP p) (ht : TK n t) (hn : n ≤ 1048576) (hN : n + 100 ≤ N) : ∃ q, BC N p t = some q ∧ (q.2 = 0 → AIP q.1) := by
  cases hf : Bt p t
  · exact ⟨(p, 140), by unfold BC; rw [if_pos hf], fun h => by cases h⟩
  by_cases hs : p.stack = []
  · have hw : p.want = 0 ∨ p.want = 6 := by rcases hp with ⟨_, h⟩ | h; exact h; exact absurd hs h
    rcases hw with hw | hw
    · have ho : D8 t = true := by unfold Bt at hf; rw [hw] at hf; simpa using hf
      unfold BC
      rw [if_neg (by rw [hf]; decide), hw]
      cases ht with
      | fin p => simp [D8] at ho
      | pun c p h =>
        simp only [D8, show ((2 : Int) == 3) = false from rfl, show ((2 : Int) == 4) = false from rfl, show ((2 : Int) == 5) = false from rfl, show ((2 : Int) == 2) = true from rfl, Bool.false_or, Bool.true_and, Bool.or_eq_true] at ho
        simp only [show ((2 : Int) == 2) = true from rfl, if_true]
        unfold F5
        rcases ho with ho | ho
        · rw [if_pos ho]
          exact ⟨_, rfl, fun h => .inr (open_inv (Prod.ext rfl h))⟩
        · by_cases h1 : ([c] == ([91] : List UInt8)) = true
          · rw [if_pos h1]; exact ⟨_, rfl, fun h => .inr (open_inv (Prod.ext rfl h))⟩
          · rw [if_neg h1, if_pos ho]; exact ⟨_, rfl, fun h => .inr (open_inv (Prod.ext rfl h))⟩
      | txt s p h => exact ⟨_, rfl, fun h => Nw hs (Prod.ext rfl h)⟩
      | num s q h0 h hl =>
        obtain ⟨sg, W, F, FR, P, EX, hpp⟩ := LA h0 h
        have e := TG (N := N) hpp h (by omega) (by omega)
        rw [if_neg (show ¬ ((4 : Int) == 2) = true by decide), if_neg (show ¬ ((0 : Int) == 2 || (0 : Int) == 3) = true by decide), if_neg (show ¬ ((4 : Int) == 1) = true by decide)]
        unfold Gd
        rw [if_pos (show ((4 : Int) == 4) = true from rfl)]
        simp only []
        rw [e, Option.bind_some]
        split
        · exact ⟨_, rfl, fun h => by cases h⟩
        · exact ⟨_, rfl, fun h => Nw hs (Prod.ext rfl h)⟩
      | wrd s p h => exact ⟨_, rfl, fun h => Nw hs (Prod.ext rfl h)⟩
    · have hk : t.kind = 1 := by
        have := Jo (p := p) (t := t) (by rw [hw]; decide)
        rw [hf] at this; simpa using this.symm
      refine ⟨(p, 0), ?_, fun _ => hp⟩
      unfold BC
      rw [if_neg (by rw [hf]; decide), hk, hw]; rfl
  · obtain ⟨x, hx⟩ := ACy hs
    have tot : ∃ q, BC N p t = some q := by
      unfold BC
      rw [if_neg (by rw [hf]; decide)]
      split
      · unfold F5
        rw [hx]
        split
        · exact ⟨_, rfl⟩
        · split
          · exact ⟨_, rfl⟩
          · split
            · exact ⟨_, rfl⟩
            · simp only []; split <;> exact ⟨_, rfl⟩
      · split
        · unfold Kl
          rw [hx]
          simp only []
          split <;> exact ⟨_, rfl⟩
        · split
          · exact ⟨_, rfl⟩
          · unfold Gd
            split
            · rename_i h4
              cases ht with
              | num s q h0 h hl =>
                obtain ⟨sg, W, F, FR, P, EX, hpp⟩ := LA h0 h
                have e := TG (N := N) hpp h (by omega) (by omega)
                rw [e, Option.bind_some]
                split <;> exact ⟨_, rfl⟩
              | _ => simp at h4
            · split <;> exact ⟨_, rfl⟩
    obtain ⟨⟨q, e⟩, hq⟩ := tot
    refine ⟨(q, e), hq, fun h => ?_⟩
    simp only at h
    subst h
    by_cases h0 : q.stack = []
    · rcases Xk hs hq with h | h
      · exact .inl ⟨h0, .inr h⟩
      · exact .inr h
    · exact .inr h0
theorem P5 {l : List UInt8} (hb : l.length ≤ 1048576) (hN : l.length + 100 ≤ N) : ∀ (k i : Nat) (p : JPsr), AIP p → i ≤ l.length → l.length < k + i → ∃ r, Dr N l k i p = some r
  | 0, i, p, _, h1, h2 => by omega
  | k + 1, i, p, hp, hi, hk => by
    rw [Je (by omega) (by omega) k i hi]
    by_cases h0 : (Ey N l i).2.2 = 0
    · rw [if_neg (by simpa using h0), KS]
      obtain ⟨htk, j, e1, e2, e3, e4⟩ := Wz hi h0
      obtain ⟨q, hq, hinv⟩ := Z7 (N := N) hp htk hb hN
      rw [hq, Option.bind_some]
      split
      · exact ⟨_, rfl⟩
      · rename_i he
        split
        · exact ⟨_, rfl⟩
        · rename_i h1
          rw [e1]
          have := e4 (by simpa using h1)
          exact P5 hb hN k j q.1 (hinv (by simpa using he)) e3 (by omega)
    · rw [if_pos h0]; exact ⟨_, rfl⟩
theorem ZI {l : List UInt8} (hb : l.length ≤ 1048576) (hN : l.length + 100 ≤ N) (hN2 : N ≤ 1099511627776) : ∃ r, BJ N l = some r := by
  unfold BJ
  rw [if_neg (by omega), if_neg (by omega)]
  exact P5 hb hN N 0 _ (.inl ⟨rfl, .inl rfl⟩) (by omega) (by omega)
end
end Go.VM
