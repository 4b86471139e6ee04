import Derived.Test.YtbmilkoebhmnnaaDoorL5
import Derived.Test.YtbmilkoebhmnnaaDoorRd
import Derived.KernelRfl
set_option linter.unusedVariables false
set_option linter.unusedSimpArgs false
namespace Go.VM
def Run (N : Nat) (l : List UInt8) (i : Nat) (p : JPsr) (j : Nat) (q : JPsr) : Prop := ∀ E, l.length + 2 ≤ E + i → ∃ E', l.length + 2 ≤ E' + j ∧ F8 N l E i p = F8 N l E' j q
theorem Run.trans {N : Nat} {l : List UInt8} {i j k : Nat} {p q r : JPsr} (h : Run N l i p j q) (h2 : Run N l j q k r) : Run N l i p k r := fun E hE => by
  obtain ⟨E', e1, e2⟩ := h E hE
  obtain ⟨E2, f1, f2⟩ := h2 E' e1
  exact ⟨E2, f1, e2.trans f2⟩
mutual
def TxV : ApiValue → List UInt8 → Prop
  | ⟨kind, text, keys, items⟩, t =>
    if kind == 1 then t = [110, 117, 108, 108] else if kind == 2 then t = [102, 97, 108, 115, 101] else if kind == 3 then t = [116, 114, 117, 101] else if kind == 4 then t = text
    else if kind == 5 then t = BP text else if kind == 7 then ∃ u, t = 123 :: u ∧ TxM true keys items u else ∃ u, t = 91 :: u ∧ TxI true items u
def TxI : Bool → List ApiValue → List UInt8 → Prop
  | _, [], t => ∃ w, AllWs w ∧ t = w ++ [93]
  | b, x :: xs, t => ∃ w w' s u, AllWs w ∧ AllWs w' ∧ t = (if b then w else w ++ 44 :: w') ++ (s ++ u) ∧ TxV x s ∧ TxI false xs u
def TxM : Bool → List (List UInt8) → List ApiValue → List UInt8 → Prop
  | _, [], [], t => ∃ w, AllWs w ∧ t = w ++ [125]
  | b, k :: ks, x :: xs, t => ∃ w w' w1 w2 s u, AllWs w ∧ AllWs w' ∧ AllWs w1 ∧ AllWs w2 ∧ t = (if b then w else w ++ 44 :: w') ++ (BP k ++ (w1 ++ 58 :: (w2 ++ (s ++ u)))) ∧ TxV x s ∧ TxM false ks xs u
  | _, _, _, _ => False
end
section
variable {N : Nat} {l : List UInt8}
theorem PM (hb : l.length ≤ 2 ^ 40) (hN : l.length + 10 ≤ N) {i j : Nat} {p q : JPsr} {t : ApiToken} (hi : i ≤ l.length) (ht : J7 N l i = (t, (j : Int), 0)) (hj : i < j) (hk : (t.kind == 1) = false) (hq : DN N p t = some (q, 0)) : Run N l i p j q := fun E hE => by
  obtain ⟨E, rfl⟩ : ∃ e, E = e + 1 := ⟨E - 1, by omega⟩
  refine ⟨E, by omega, ?_⟩
  rw [NL hb hN E i hi, ht, if_neg (by simp), AAb, hq, Option.bind_some, if_neg (by simp), hk]
  rfl
theorem MM {i : Nat} {t : List UInt8} (h : l.drop i = t) : t = [] ∨ i + t.length = l.length := by
  have := congrArg List.length h
  rw [List.length_drop] at this
  by_cases h0 : t = []
  · exact .inl h0
  · have : 0 < t.length := List.length_pos_iff.2 h0
    right; omega
theorem Dp {i : Nat} {a b : List UInt8} (h : l.drop i = a ++ b) : l.drop (i + a.length) = b := by rw [← List.drop_drop, h, List.drop_left]
theorem Md {p : JPsr} {t : ApiToken} (hw : p.want = 0 ∨ p.want = 1) (ho : FX t = true) : De p t = true := by
  unfold De
  rcases hw with h | h <;> simp [h, ho]
theorem FD (hb : l.length ≤ 2 ^ 40) (hN : l.length + 10 ≤ N) {i : Nat} {w r : List UInt8} {c : UInt8} {p q : JPsr} (hw : AllWs w) (hc : J6.contains c = true) (hws : wsB c = false) (h : l.drop i = w ++ c :: r) (hq : ∀ pos : Int, DN N p (ApiToken.mk 2 [c] pos) = some (q, 0)) : Run N l i p (i + w.length + 1) q := by
  have hlen : i + (w ++ c :: r).length = l.length := by rcases MM h with e | e; simp at e; exact e
  refine PM hb hN (by omega) ?_ (by omega) rfl (hq ((i + w.length : Nat) : Int))
  rw [KG h hw (fun c' r' e => by cases e; exact hws), ABN hc]
theorem NH (hb : l.length ≤ 2 ^ 40) (hN : l.length + 10 ≤ N) {i : Nat} {w s r : List UInt8} {p : JPsr} {t : Int → ApiToken} {v : ApiValue} (hw : AllWs w) (hs0 : s ≠ []) (hws : ∀ c r', s ++ r = c :: r' → wsB c = false) (h : l.drop i = w ++ (s ++ r)) (ht : ∀ pos : Nat, LA N pos (s ++ r) = (t pos, ((pos + s.length : Nat) : Int), 0))
    (hwant : p.want = 0 ∨ p.want = 1) (hk : ∀ pos, (t pos).kind = 3 ∨ (t pos).kind = 4 ∨ (t pos).kind = 5) (hn : ∀ pos, (t pos).kind = 4 → Bd N (t pos).text = some (NB N (t pos).text) ∧ (NB N (t pos).text).2 = 0) (hv : ∀ pos, Y3 N (t pos) = v)
    (h0 : p.nodes + 1 ≤ 20000) : Run N l i p (i + w.length + s.length) (CV { p with nodes := p.nodes + 1 } v) := by
  have hpos : 0 < s.length := List.length_pos_iff.2 hs0
  have hlen : i + (w ++ (s ++ r)).length = l.length := by
    rcases MM h with e | e
    · simp at e; exact absurd e.2.1 hs0
    · exact e
  simp only [List.length_append] at hlen
  have hopen : ∀ pos, FX (t pos) = true := fun pos => by unfold FX; rcases hk pos with e | e | e <;> simp [e]
  refine PM hb hN (t := t ((i + w.length : Nat) : Int)) (by omega) ?_ (by omega) (by rcases hk ((i + w.length : Nat) : Int) with e | e | e <;> rw [e] <;> rfl) ?_
  · rw [KG h hw hws, ht]
  · obtain ⟨st, wt, nd, out⟩ := p
    rw [ZK hwant (Md hwant (hopen _)) (hk _) fun e => (hn _ e).1, if_neg (fun e => e.2 (hn _ e.1).2), hv, AFy, if_neg (by simp only at h0; omega)]
    exact congrArg some (congrArg (·, (0 : Int)) (QD ⟨st, 0, nd + 1, out⟩ wt v).symm)
theorem KJ (st : List ApiValue) (out v : ApiValue) (w n : Int) : CV ⟨st, w, n, out⟩ v = QC st out v n := QD ⟨st, 0, n, out⟩ w v
theorem ZW : ∀ {xs : List ApiValue} {u : List UInt8}, TxI false xs u → ∀ r, Stop (u ++ r)
  | [], u, h, r => by
    rw [TxI] at h
    obtain ⟨w, hw, rfl⟩ := h
    rw [List.append_assoc]
    exact Stop.ws hw (GN (by decide))
  | x :: xs, u, h, r => by
    rw [TxI] at h
    obtain ⟨w, w', s, u', hw, _, rfl, _, _⟩ := h
    simp only [Bool.false_eq_true, if_false, List.append_assoc, List.cons_append]
    exact Stop.ws hw (GN (by decide))
theorem UA : ∀ {ks : List (List UInt8)} {xs : List ApiValue} {u : List UInt8}, TxM false ks xs u → ∀ r, Stop (u ++ r)
  | [], [], u, h, r => by
    rw [TxM] at h
    obtain ⟨w, hw, rfl⟩ := h
    rw [List.append_assoc]
    exact Stop.ws hw (GN (by decide))
  | k :: ks, x :: xs, u, h, r => by
    rw [TxM] at h
    obtain ⟨w, w', w1, w2, s, u', hw, _, _, _, rfl, _, _⟩ := h
    simp only [Bool.false_eq_true, if_false, List.append_assoc, List.cons_append]
    exact Stop.ws hw (GN (by decide))
  | [], x :: xs, u, h, r => by simp [TxM] at h
  | k :: ks, [], u, h, r => by simp [TxM] at h
def AFs (N : Nat) (l : List UInt8) (e : Nat) : Prop := ∀ (v : ApiValue) (i : Nat) (p : JPsr) (w t r : List UInt8), okW e v → Ed N v = true → AllWs w → TxV v t → l.drop i = w ++ (t ++ r) → Stop r → (p.want = 0 ∨ p.want = 1) → p.stack.length + GK v ≤ 64 → 0 ≤ p.nodes → p.nodes + ED v ≤ 20000 →
  Run N l i p (i + w.length + t.length) (CV { p with nodes := p.nodes + ED v } v)
theorem SQ (hb : l.length ≤ 2 ^ 40) (hN : l.length + 10 ≤ N) {e : Nat} (ih : AFs N l e) (st : List ApiValue) (out : ApiValue) : ∀ (xs : List ApiValue) (b : Bool) (dn : List ApiValue) (i : Nat) (u r : List UInt8) (n : Int), (∀ x, x ∈ xs → okW e x ∧ Ed N x = true) → TxI b xs u → l.drop i = u ++ r → (b = true → dn = []) → st.length + 1 + Dr xs ≤ 64 → 0 ≤ n → n + Ba xs ≤ 20000 →
    Run N l i (inA st out (Lm dn) (if b then 1 else 5) n) (i + u.length) (QC st out (Lm (dn ++ xs)) (n + Ba xs))
  | [], b, dn, i, u, r, n, _, ht, hd, _, _, _, _ => by
    rw [TxI] at ht
    obtain ⟨w, hw, rfl⟩ := ht
    rw [Ba, List.append_nil]
    have := FD (N := N) hb hN (p := inA st out (Lm dn) (if b then 1 else 5) n) (q := QC st out (Lm dn) n) (c := 93) (r := r) hw (by decide) (by decide) (by simpa using hd) fun pos => QN (v := Lm dn) (by cases b <;> simp)
    simpa [Nat.add_assoc] using this
  | x :: xs, b, dn, i, u, r, n, hx, ht, hd, hb1, hn, h0, hc => by
    rw [TxI] at ht
    obtain ⟨w, w', s, u', hw, hw', rfl, hs, hu⟩ := ht
    rw [Dr] at hn
    rw [Ba] at hc ⊢
    have hx1 := hx x (by simp)
    have hp := MV x
    have rest : ∀ (j : Nat) (w2 : List UInt8) (wt : Int), wt = 0 ∨ wt = 1 → AllWs w2 → l.drop j = w2 ++ (s ++ (u' ++ r)) → Run N l j (inA st out (Lm dn) wt n) (j + w2.length + s.length + u'.length) (QC st out (Lm (dn ++ x :: xs)) (n + ((ED x + Ba xs : Nat) : Int))) := by
      intro j w2 wt hwt hw2 hj
      have r1 := ih x j (inA st out (Lm dn) wt n) w2 s (u' ++ r) hx1.1 hx1.2 hw2 hs hj (ZW hu r) hwt (by simp [inA]; omega) h0 (by simp only [inA]; omega)
      have e1 : CV { inA st out (Lm dn) wt n with nodes := (inA st out (Lm dn) wt n).nodes + ED x } x = inA st out (Lm (dn ++ [x])) 5 (n + ED x) := by
        show CV ⟨st ++ [Lm dn], wt, n + ED x, out⟩ x = _
        rw [KJ, Y8]; rfl
      rw [e1] at r1
      have hj2 : l.drop (j + w2.length + s.length) = u' ++ r := Dp (Dp hj)
      have r2 := SQ hb hN ih st out xs false (dn ++ [x]) (j + w2.length + s.length) u' r (n + ED x) (fun y hy => hx y (by simp [hy])) hu hj2 (fun h => by cases h) (by omega) (by omega) (by omega)
      have e2 : (n + (ED x : Int)) + (Ba xs : Int) = n + ((ED x + Ba xs : Nat) : Int) := by omega
      rw [e2, List.append_assoc] at r2
      exact r1.trans r2
    cases b
    · simp only [Bool.false_eq_true, if_false, List.append_assoc, List.cons_append] at hd ⊢
      have r1 := FD (N := N) hb hN (p := inA st out (Lm dn) 5 n) (q := inA st out (Lm dn) 0 n) (c := 44) (r := w' ++ (s ++ (u' ++ r))) hw (by decide) (by decide) hd fun pos => Lt
      have hd2 : l.drop (i + w.length + 1) = w' ++ (s ++ (u' ++ r)) := by
        have := Dp (a := w ++ [44]) (b := w' ++ (s ++ (u' ++ r))) (by simpa using hd)
        simpa [Nat.add_assoc] using this
      have r2 := rest (i + w.length + 1) w' 0 (.inl rfl) hw' hd2
      have e : i + w.length + 1 + w'.length + s.length + u'.length = i + (w ++ 44 :: (w' ++ (s ++ u'))).length := by simp; omega
      rw [e] at r2
      exact r1.trans r2
    · simp only [if_true] at hd ⊢
      have r2 := rest i w 1 (.inr rfl) hw (by simpa using hd)
      have e : i + w.length + s.length + u'.length = i + (w ++ (s ++ u')).length := by simp; omega
      rw [e] at r2
      exact r2
theorem Ob (hb : l.length ≤ 2 ^ 40) (hN : l.length + 10 ≤ N) (hN2 : 2000 ≤ N) {e : Nat} (ih : AFs N l e) (st : List ApiValue) (out : ApiValue) : ∀ (ks : List (List UInt8)) (xs : List ApiValue) (b : Bool) (dk : List (List UInt8)) (dn : List ApiValue) (i : Nat) (u r : List UInt8) (n : Int), (∀ x, x ∈ xs → okW e x ∧ Ed N x = true) → (∀ k, k ∈ ks → (Cf N k).isSome = true ∧ k.length ≤ 300) → (dk ++ ks).Nodup → TxM b ks xs u → l.drop i = u ++ r → (b = true → dn = []) → st.length + 1 + Dr xs ≤ 64 → 0 ≤ n → n + Ba xs ≤ 20000 →
    Run N l i (inA st out (EQ dk dn) (if b then 3 else 5) n) (i + u.length) (QC st out (EQ (dk ++ ks) (dn ++ xs)) (n + Ba xs))
  | [], [], b, dk, dn, i, u, r, n, _, _, _, ht, hd, _, _, _, _ => by
    rw [TxM] at ht
    obtain ⟨w, hw, rfl⟩ := ht
    rw [Ba, List.append_nil, List.append_nil]
    have := FD (N := N) hb hN (p := inA st out (EQ dk dn) (if b then 3 else 5) n) (q := QC st out (EQ dk dn) n) (c := 125) (r := r) hw (by decide) (by decide) (by simpa using hd) fun pos => QN (v := EQ dk dn) (by cases b <;> simp)
    simpa [Nat.add_assoc] using this
  | [], _ :: _, b, dk, dn, i, u, r, n, _, _, _, ht, _, _, _, _, _ => by simp [TxM] at ht
  | _ :: _, [], b, dk, dn, i, u, r, n, _, _, _, ht, _, _, _, _, _ => by simp [TxM] at ht
  | k :: ks, x :: xs, b, dk, dn, i, u, r, n, hx, hk, hnd, ht, hd, hb1, hn, h0, hc => by
    rw [TxM] at ht
    obtain ⟨w, w', w1, w2, s, u', hw, hw', hw1, hw2, rfl, hs, hu⟩ := ht
    rw [Dr] at hn
    rw [Ba] at hc ⊢
    have hx1 := hx x (by simp)
    have hk1 := hk k (by simp)
    have hp := MV x
    have hkn : k ∉ dk := fun h => by
      rw [List.nodup_append] at hnd
      exact hnd.2.2 k h k (by simp) rfl
    have rest : ∀ (j : Nat) (w3 : List UInt8) (wt : Int), wt = 2 ∨ wt = 3 → AllWs w3 → l.drop j = w3 ++ (BP k ++ (w1 ++ 58 :: (w2 ++ (s ++ (u' ++ r))))) → Run N l j (inA st out (EQ dk dn) wt n) (j + w3.length + (BP k).length + w1.length + 1 + w2.length + s.length + u'.length) (QC st out (EQ (dk ++ k :: ks) (dn ++ x :: xs)) (n + ((ED x + Ba xs : Nat) : Int))) := by
      intro j w3 wt hwt hw3 hj
      have hlen : j + (w3 ++ (BP k ++ (w1 ++ 58 :: (w2 ++ (s ++ (u' ++ r)))))).length = l.length := by
        rcases MM hj with e | e
        · simp [BP] at e
        · exact e
      simp only [List.length_append] at hlen
      have hq1 : 2 ≤ (BP k).length := by simp [BP]
      have r0 : Run N l j (inA st out (EQ dk dn) wt n) (j + w3.length + (BP k).length) (inA st out (EQ (dk ++ [k]) dn) 4 n) := by
        refine PM hb hN (t := ApiToken.mk 3 k ((j + w3.length : Nat) : Int)) (by omega) ?_ (by omega) rfl (by rw [QJ hwt, if_neg hkn])
        rw [KG hj hw3 (fun c r' e => by simp [BP] at e; rw [← e.1]; decide), M9 hk1.1 (by omega)]
      have hj1 := Dp (Dp hj)
      have r1 := FD (N := N) hb hN (p := inA st out (EQ (dk ++ [k]) dn) 4 n) (q := inA st out (EQ (dk ++ [k]) dn) 0 n) hw1 (c := 58) (by decide) (by decide) hj1 fun pos => Pt
      have hj2 : l.drop (j + w3.length + (BP k).length + w1.length + 1) = w2 ++ (s ++ (u' ++ r)) := by
        have := Dp (a := w1 ++ [58]) (b := w2 ++ (s ++ (u' ++ r))) (by simpa using hj1)
        simpa [Nat.add_assoc] using this
      have r2 := ih x _ (inA st out (EQ (dk ++ [k]) dn) 0 n) w2 s (u' ++ r) hx1.1 hx1.2 hw2 hs hj2 (UA hu r) (.inl rfl) (by simp [inA]; omega) h0 (by simp only [inA]; omega)
      have e1 : CV { inA st out (EQ (dk ++ [k]) dn) 0 n with nodes := (inA st out (EQ (dk ++ [k]) dn) 0 n).nodes + ED x } x = inA st out (EQ (dk ++ [k]) (dn ++ [x])) 5 (n + ED x) := by
        show CV ⟨st ++ [EQ (dk ++ [k]) dn], 0, n + ED x, out⟩ x = _
        rw [KJ, Y8]; rfl
      rw [e1] at r2
      have hj3 := Dp (Dp hj2)
      have r3 := Ob hb hN hN2 ih st out ks xs false (dk ++ [k]) (dn ++ [x]) _ u' r (n + ED x) (fun y hy => hx y (by simp [hy])) (fun y hy => hk y (by simp [hy])) (by simpa using hnd) hu hj3 (fun h => by cases h) (by omega) (by omega) (by omega)
      have e2 : (n + (ED x : Int)) + (Ba xs : Int) = n + ((ED x + Ba xs : Nat) : Int) := by omega
      rw [e2, List.append_assoc, List.append_assoc] at r3
      exact r0.trans (r1.trans (r2.trans r3))
    cases b
    · simp only [Bool.false_eq_true, if_false, List.append_assoc, List.cons_append] at hd ⊢
      have r1 := FD (N := N) hb hN (p := inA st out (EQ dk dn) 5 n) (q := inA st out (EQ dk dn) 2 n) (c := 44) hw (by decide) (by decide) hd fun pos => Lt
      have hd2 := Dp (a := w ++ [44]) (b := w' ++ (BP k ++ (w1 ++ 58 :: (w2 ++ (s ++ (u' ++ r)))))) (by simpa using hd)
      have r2 := rest _ w' 2 (.inl rfl) hw' hd2
      have ea : i + (w ++ [44]).length = i + w.length + 1 := by simp; omega
      rw [ea] at r2
      have e : i + w.length + 1 + w'.length + (BP k).length + w1.length + 1 + w2.length + s.length + u'.length = i + (w ++ 44 :: (w' ++ (BP k ++ (w1 ++ 58 :: (w2 ++ (s ++ u')))))).length := by simp; omega
      rw [e] at r2
      exact r1.trans r2
    · simp only [if_true] at hd ⊢
      have r2 := rest i w 3 (.inr rfl) hw (by simpa using hd)
      have e : i + w.length + (BP k).length + w1.length + 1 + w2.length + s.length + u'.length = i + (w ++ (BP k ++ (w1 ++ 58 :: (w2 ++ (s ++ u'))))).length := by simp; omega
      rw [e] at r2
      exact r2
theorem Px (hb : l.length ≤ 1048576) (hN : l.length + 3000 ≤ N) : ∀ e : Nat, AFs N l e
  | 0 => fun v i p w t r h => by have := h.pos; omega
  | e + 1 => fun v i p w t r h hs hw htx hd hr hwant hnest h0 hc => by
    have ih := Px hb hN e
    have ht := h.text; have hsub := h.sub; have hkl := h.klen
    have hb' : l.length ≤ 2 ^ 40 := by omega
    rw [GA] at hc ⊢
    rw [JZ] at hnest
    cases NP hs with
    | word k hk =>
      have key : ∀ (x : List UInt8), isWord x = true → t = x → Kt x = k → Run N l i p (i + w.length + t.length) (CV { p with nodes := p.nodes + ((1 + Ba [] : Nat) : Int) } ⟨k, [], [], []⟩) := by
        intro x hx e hj
        subst e
        have hne : t ≠ [] := fun e => by rw [e] at hx; simp [isWord] at hx
        refine NH hb' (by omega) (t := fun pos => ApiToken.mk 5 t pos) hw hne (fun c r' e => ?_) hd (fun pos => AED hx hr) hwant (fun _ => .inr (.inr rfl)) (fun _ e => by cases e) (fun _ => ?_) (by simpa [Ba] using hc)
        · unfold isWord at hx
          simp only [Bool.or_eq_true, beq_iff_eq] at hx
          rcases hx with rfl | rfl | rfl <;> (cases e; decide)
        · show (if ((5 : Int) == 4) = true then _ else if ((5 : Int) == 5) = true then _ else _) = _
          rw [if_neg (by decide), if_pos (by decide), hj]
      rw [TxV] at htx
      rcases hk with rfl | rfl | rfl
      · exact key _ (by decide) htx (by decide)
      · exact key _ (by decide) htx (by decide)
      · exact key _ (by decide) htx (by decide)
    | num s hn =>
      rw [TxV] at htx
      simp only [show ((4 : Int) == 1) = false from rfl, show ((4 : Int) == 2) = false from rfl, show ((4 : Int) == 3) = false from rfl, show ((4 : Int) == 4) = true from rfl, Bool.false_eq_true, if_false, if_true] at htx
      subst htx
      simp only at ht
      unfold AAY Ya at hn
      by_cases hc2 : t ≠ [] ∧ Ck t = t.length
      · rw [if_pos hc2] at hn
        simp only [Bool.and_eq_true, beq_iff_eq] at hn
        obtain ⟨n1, _, _⟩ := U1 (N := N) hc2.1 hc2.2 (by omega) (by omega)
        refine NH hb' (by omega) (t := fun pos => ApiToken.mk 4 t pos) hw hc2.1 (fun c r' e => ?_) hd (fun pos => AGT hc2.1 hc2.2 hr) hwant (fun _ => .inr (.inl rfl)) (fun _ _ => ⟨n1, hn.1⟩) (fun _ => ?_) (by simpa [Ba] using hc)
        · obtain ⟨c0, r0, e0, hc0⟩ := Xf hc2.1 hc2.2
          rw [e0] at e
          cases e
          exact (Xk hc0).1
        · show (⟨4, (NB N t).1, [], []⟩ : ApiValue) = _
          rw [hn.2]
      · rw [if_neg hc2] at hn; simp at hn
    | str s hv =>
      rw [TxV] at htx
      simp only [show ((5 : Int) == 1) = false from rfl, show ((5 : Int) == 2) = false from rfl, show ((5 : Int) == 3) = false from rfl, show ((5 : Int) == 4) = false from rfl, show ((5 : Int) == 5) = true from rfl, Bool.false_eq_true, if_false, if_true] at htx
      subst htx
      simp only at ht
      refine NH hb' (by omega) (t := fun pos => ApiToken.mk 3 s pos) hw (by simp [BP]) (fun c r' e => by simp [BP] at e; rw [← e.1]; decide) hd (fun pos => M9 hv (by omega)) hwant (fun _ => .inl rfl) (fun _ e => by cases e) (fun _ => rfl) (by simpa [Ba] using hc)
    | arr xs hx =>
      rw [TxV] at htx
      simp only [show ((6 : Int) == 1) = false from rfl, show ((6 : Int) == 2) = false from rfl, show ((6 : Int) == 3) = false from rfl, show ((6 : Int) == 4) = false from rfl, show ((6 : Int) == 5) = false from rfl, show ((6 : Int) == 7) = false from rfl, Bool.false_eq_true, if_false] at htx
      obtain ⟨u, rfl, hu⟩ := htx
      simp only [show ((6 : Int) == 6) = true from rfl, Bool.true_or, if_true] at hnest
      simp only at hsub hc
      obtain ⟨st, wt, nd, out⟩ := p
      simp only at h0 hc hnest
      rw [List.cons_append] at hd
      have r1 := FD (N := N) hb' (by omega) (p := ⟨st, wt, nd, out⟩) (q := inA st out (Lm []) 1 (nd + 1)) (c := 91) hw (by decide) (by decide) hd fun pos => by
        rw [NG 91 (.inl rfl) (Md hwant rfl), if_pos rfl, Nb (by omega), if_neg (by omega)]; rfl
      have hd2 : l.drop (i + w.length + 1) = u ++ r := by
        have := Dp (a := w ++ [91]) (b := u ++ r) (by simpa using hd)
        simpa [Nat.add_assoc] using this
      have r2 := SQ hb' (by omega) ih st out xs true [] _ u r (nd + 1) (fun x hm => ⟨hsub x hm, hx x hm⟩) hu hd2 (fun _ => rfl) (by omega) (by omega) (by omega)
      have e1 : nd + 1 + (Ba xs : Int) = nd + ((1 + Ba xs : Nat) : Int) := by omega
      have e2 : i + w.length + 1 + u.length = i + w.length + (91 :: u).length := by simp; omega
      rw [e1, e2] at r2
      rw [← KJ st out _ wt] at r2
      exact r1.trans r2
    | obj ks xs hl hdk hx =>
      rw [TxV] at htx
      simp only [show ((7 : Int) == 1) = false from rfl, show ((7 : Int) == 2) = false from rfl, show ((7 : Int) == 3) = false from rfl, show ((7 : Int) == 4) = false from rfl, show ((7 : Int) == 5) = false from rfl, show ((7 : Int) == 7) = true from rfl, Bool.false_eq_true, if_false, if_true] at htx
      obtain ⟨u, rfl, hu⟩ := htx
      simp only [show ((7 : Int) == 7) = true from rfl, Bool.or_true, if_true] at hnest
      simp only at hsub hc hkl
      obtain ⟨st, wt, nd, out⟩ := p
      simp only at h0 hc hnest
      rw [List.cons_append] at hd
      have r1 := FD (N := N) hb' (by omega) (p := ⟨st, wt, nd, out⟩) (q := inA st out (EQ [] []) 3 (nd + 1)) (c := 123) hw (by decide) (by decide) hd fun pos => by
        rw [NG 123 (.inr rfl) (Md hwant rfl), if_neg (by decide), Nb (by omega), if_neg (by omega)]; rfl
      have hd2 : l.drop (i + w.length + 1) = u ++ r := by
        have := Dp (a := w ++ [123]) (b := u ++ r) (by simpa using hd)
        simpa [Nat.add_assoc] using this
      have hall := R4 hdk
      have r2 := Ob hb' (by omega) (by omega) ih st out ks xs true [] [] _ u r (nd + 1) (fun x hm => ⟨hsub x hm, hx x hm⟩) (fun k hk => ⟨hall k hk, hkl k hk⟩) (by simpa using OW hdk) hu hd2 (fun _ => rfl) (by omega) (by omega) (by omega)
      have e1 : nd + 1 + (Ba xs : Int) = nd + ((1 + Ba xs : Nat) : Int) := by omega
      have e2 : i + w.length + 1 + u.length = i + w.length + (123 :: u).length := by simp; omega
      rw [e1, e2] at r2
      rw [← KJ st out _ wt] at r2
      exact r1.trans r2
end
end Go.VM
namespace Go.VM
section
variable {N : Nat} {l : List UInt8}
end
end Go.VM
namespace Go.VM
theorem AllWs.app {a b : List UInt8} (h : AllWs a) (k : AllWs b) : AllWs (a ++ b) := fun c hc => by
  rcases List.mem_append.1 hc with e | e
  · exact h c e
  · exact k c e
theorem TxI.pre {b : Bool} {xs : List ApiValue} {u w : List UInt8} (hw : AllWs w) (h : TxI b xs u) : TxI b xs (w ++ u) := by
  cases xs with
  | nil =>
    rw [TxI] at h ⊢
    obtain ⟨w', h1, rfl⟩ := h
    exact ⟨w ++ w', hw.app h1, by simp⟩
  | cons x xs =>
    rw [TxI] at h ⊢
    obtain ⟨w1, w2, s, u', h1, h2, rfl, h3, h4⟩ := h
    refine ⟨w ++ w1, w2, s, u', hw.app h1, h2, ?_, h3, h4⟩
    cases b <;> simp
theorem TxM.pre {b : Bool} {ks : List (List UInt8)} {xs : List ApiValue} {u w : List UInt8} (hw : AllWs w) (h : TxM b ks xs u) : TxM b ks xs (w ++ u) := by
  cases ks with
  | nil =>
    cases xs with
    | nil =>
      rw [TxM] at h ⊢
      obtain ⟨w', h1, rfl⟩ := h
      exact ⟨w ++ w', hw.app h1, by simp⟩
    | cons x xs => simp [TxM] at h
  | cons k ks =>
    cases xs with
    | nil => simp [TxM] at h
    | cons x xs =>
      rw [TxM] at h ⊢
      obtain ⟨w1, w2, w3, w4, s, u', h1, h2, h3, h4, rfl, h5, h6⟩ := h
      refine ⟨w ++ w1, w2, w3, w4, s, u', hw.app h1, h2, h3, h4, ?_, h5, h6⟩
      cases b <;> simp
section
variable {N : Nat} {l : List UInt8}
theorem AIz {xs : List ApiValue} {u : List UInt8} (h : TxI true xs u) : TxV ⟨6, [], [], xs⟩ (91 :: u) := by
  rw [TxV]
  simp only [show ((6 : Int) == 1) = false from rfl, show ((6 : Int) == 2) = false from rfl, show ((6 : Int) == 3) = false from rfl, show ((6 : Int) == 4) = false from rfl, show ((6 : Int) == 5) = false from rfl, show ((6 : Int) == 7) = false from rfl, Bool.false_eq_true, if_false]
  exact ⟨u, rfl, h⟩
theorem AI1 {ks : List (List UInt8)} {xs : List ApiValue} {u : List UInt8} (h : TxM true ks xs u) : TxV ⟨7, [], ks, xs⟩ (123 :: u) := by
  rw [TxV]
  simp only [show ((7 : Int) == 1) = false from rfl, show ((7 : Int) == 2) = false from rfl, show ((7 : Int) == 3) = false from rfl, show ((7 : Int) == 4) = false from rfl, show ((7 : Int) == 5) = false from rfl, show ((7 : Int) == 7) = true from rfl, Bool.false_eq_true, if_false, if_true]
  exact ⟨u, rfl, h⟩
theorem AJB (xs : List ApiValue) : wrV ⟨6, [], [], xs⟩ = 91 :: (wrI true xs ++ [93]) := by rw [wrV]; rfl
theorem AIV (ks : List (List UInt8)) (xs : List ApiValue) : wrV ⟨7, [], ks, xs⟩ = 123 :: (wrM true ks xs ++ [125]) := by rw [wrV]; rfl
theorem Qf {v : ApiValue} (h : (v.kind == 6) = false ∧ (v.kind == 7) = false) (hs : Shp N v) : TxV v (wrV v) := by
  cases hs with
  | word k hk => rcases hk with rfl | rfl | rfl <;> (rw [TxV, wrV]; rfl)
  | num s _ => rw [TxV, wrV]; rfl
  | str s _ => rw [TxV, wrV]; rfl
  | arr xs _ => cases h.1
  | obj ks xs _ _ _ => cases h.2
theorem Uj : ∀ (e : Nat) (v : ApiValue), okW e v → Ed N v = true → TxV v (wrV v)
  | 0, v, h, _ => by have := h.pos; omega
  | e + 1, v, h, hs => by
    have hsub := h.sub
    cases NP hs with
    | word k hk => exact Qf (N := N) ⟨by rcases hk with rfl | rfl | rfl <;> rfl, by rcases hk with rfl | rfl | rfl <;> rfl⟩ (.word k hk)
    | num s hn => exact Qf (N := N) ⟨rfl, rfl⟩ (.num s hn)
    | str s hn => exact Qf (N := N) ⟨rfl, rfl⟩ (.str s hn)
    | arr xs hx =>
      simp only at hsub
      rw [AJB]
      refine AIz ?_
      have key : ∀ (b : Bool) (ys : List ApiValue), (∀ y, y ∈ ys → okW e y ∧ Ed N y = true) → TxI b ys (wrI b ys ++ [93]) := by
        intro b ys
        induction ys generalizing b with
        | nil => intro _; rw [TxI, wrI]; exact ⟨[], GH, rfl⟩
        | cons y ys ih =>
          intro hy
          rw [TxI, wrI]
          refine ⟨[], [], wrV y, wrI false ys ++ [93], GH, GH, ?_, Uj e y (hy y (by simp)).1 (hy y (by simp)).2, ih false fun z hz => hy z (by simp [hz])⟩
          cases b <;> simp
      exact key true xs fun y hy => ⟨hsub y hy, hx y hy⟩
    | obj ks xs hl hd hx =>
      simp only at hsub
      rw [AIV]
      refine AI1 ?_
      have key : ∀ (b : Bool) (ys : List ApiValue) (qs : List (List UInt8)), qs.length = ys.length → (∀ y, y ∈ ys → okW e y ∧ Ed N y = true) → TxM b qs ys (wrM b qs ys ++ [125]) := by
        intro b ys
        induction ys generalizing b with
        | nil =>
          intro qs hq _
          have : qs = [] := List.length_eq_zero_iff.1 (by simpa using hq)
          subst this
          rw [TxM, wrM]
          · exact ⟨[], GH, rfl⟩
          · intros; simp_all
        | cons y ys ih =>
          intro qs hq hy
          cases qs with
          | nil => simp at hq
          | cons q qs =>
            rw [TxM, wrM]
            refine ⟨[], [], [], [], wrV y, wrM false qs ys ++ [125], GH, GH, GH, GH, ?_, Uj e y (hy y (by simp)).1 (hy y (by simp)).2, ih false qs (by simpa using hq) fun z hz => hy z (by simp [hz])⟩
            cases b <;> simp
      exact key true xs ks hl fun y hy => ⟨hsub y hy, hx y hy⟩
theorem AHU {w : List UInt8} (h : AllWs w) : Stop w := by
  cases w with
  | nil => exact AEt
  | cons c w => exact GN (by unfold Rs; rw [h c (by simp)]; simp)
theorem Yo {e : Nat} {v : ApiValue} {w t w' : List UInt8} (hv : okW e v) (hs : Ed N v = true) (hn : GK v ≤ 64) (hc : ED v ≤ 20000) (hw : AllWs w) (hw' : AllWs w') (ht : TxV v t) (hl : (w ++ (t ++ w')).length ≤ 1048576) (hN : 2000000 ≤ N) (hN2 : N ≤ 1099511627776) :
    Ca N (w ++ (t ++ w')) = some (v, ((w ++ (t ++ w')).length : Int), 0) := by
  unfold Ca
  rw [if_neg (by omega), if_neg (by omega)]
  generalize hL : w ++ (t ++ w') = l at *
  have hrun := Px (N := N) (l := l) hl (by omega) e v 0 ⟨[], 0, 0, BM⟩ w t w' hv hs hw ht (by rw [List.drop_zero, hL]) (AHU hw') (.inl rfl) (by simpa using hn) (by decide) (by simp only []; omega)
  obtain ⟨E, h1, h2⟩ := hrun N (by omega)
  have hlen : w.length + (t.length + w'.length) = l.length := by rw [← hL]; simp
  obtain ⟨E, rfl⟩ : ∃ k, E = k + 1 := ⟨E - 1, by omega⟩
  have hd : CV { (⟨[], 0, 0, BM⟩ : JPsr) with nodes := (0 : Int) + ED v } v = ⟨[], 6, (0 : Int) + ED v, v⟩ := rfl
  rw [show ((0 : Nat) : Int) = 0 from rfl] at h2
  rw [h2, hd, NL (by omega) (by omega) E _ (by omega)]
  have hnx : J7 N l (0 + w.length + t.length) = (ApiToken.mk 1 [] ((l.length : Nat) : Int), ((l.length : Nat) : Int), 0) := by
    have hdrop : l.drop (0 + w.length + t.length) = w' ++ [] := by
      rw [← hL, List.append_nil, show 0 + w.length + t.length = w.length + t.length by omega, ← List.drop_drop, List.drop_left, List.drop_left]
    rw [KG hdrop hw' (fun c r e => by cases e)]
    show (ApiToken.mk 1 [] _, _, (0 : Int)) = _
    have : 0 + w.length + t.length + w'.length = l.length := by omega
    rw [this]
  rw [hnx, if_neg (by simp), AAb]
  unfold DN
  rw [if_neg (by simp [De])]
  simp
end
end Go.VM
namespace Go.VM
def ER : ApiValue := ⟨1, [], [], []⟩
def Bj (ks : List (List UInt8)) : List ApiValue := ks.map fun _ => ER
section
variable {N : Nat} {l : List UInt8}
theorem U4 : Ed N ER = true := rfl
theorem Qk : okW 1 ER := .mk _ (by simp [ER]) (by simp [ER]) (by simp [ER]) (by simp [ER]) (by simp [ER])
theorem AGK : TxV ER (wrV ER) := by rw [ER, TxV, wrV]; rfl
theorem WC : ED ER = 1 := rfl
theorem ACu : GK ER = 0 := rfl
theorem ABT (ks : List (List UInt8)) : Stop (wrM false ks (Bj ks) ++ [125]) := by
  cases ks with
  | nil => rw [Bj, List.map_nil, wrM]; · exact GN (by decide)
           · intros; simp_all
  | cons k ks => rw [Bj, List.map_cons, wrM]; exact GN (by decide)
theorem SN (hb : l.length ≤ 1048576) (hN : l.length + 3000 ≤ N) : ∀ (ks dk : List (List UInt8)) (b : Bool) (dn : List ApiValue) (i : Nat) (n : Int), (∀ k, k ∈ ks → (Cf N k).isSome = true ∧ k.length ≤ 300) → dk.Nodup → ¬ (dk ++ ks).Nodup → l.drop i = wrM b ks (Bj ks) ++ [125] → 0 ≤ n → n + ks.length ≤ 20000 →
    ∀ E, l.length + 2 ≤ E + i → ∃ pos, F8 N l E i (inA [] BM (EQ dk dn) (if b then 3 else 5) n) = some (BM, pos, 143)
  | [], dk, b, dn, i, n, _, hd, hnd, _, _, _ => absurd (by simpa using hd) hnd
  | k :: ks, dk, b, dn, i, n, hk, hd, hnd, ht, h0, hc => by
    have hb' : l.length ≤ 2 ^ 40 := by omega
    have hN' : l.length + 10 ≤ N := by omega
    have hk1 := hk k (by simp)
    simp only [List.length_cons] at hc
    rw [Bj, List.map_cons, wrM, ← Bj] at ht
    have rest : ∀ (j : Nat) (wt : Int), wt = 2 ∨ wt = 3 → l.drop j = BP k ++ (58 :: (wrV ER ++ (wrM false ks (Bj ks) ++ [125]))) → ∀ E, l.length + 2 ≤ E + j → ∃ pos, F8 N l E j (inA [] BM (EQ dk dn) wt n) = some (BM, pos, 143) := by
      intro j wt hwt hj E hE
      have hq1 : 2 ≤ (BP k).length := by simp [BP]
      have hlen : j + (BP k ++ (58 :: (wrV ER ++ (wrM false ks (Bj ks) ++ [125])))).length = l.length := by
        rcases MM hj with e | e
        · simp [BP] at e
        · exact e
      simp only [List.length_append] at hlen
      have htok : J7 N l j = (ApiToken.mk 3 k ((j : Nat) : Int), ((j + (BP k).length : Nat) : Int), 0) := by
        rw [KG (w := []) (t := BP k ++ (58 :: (wrV ER ++ (wrM false ks (Bj ks) ++ [125])))) hj GH (fun c r' e => by simp [BP] at e; rw [← e.1]; decide), List.length_nil, Nat.add_zero, M9 hk1.1 (by omega)]
      by_cases hin : k ∈ dk
      · obtain ⟨E, rfl⟩ : ∃ e, E = e + 1 := ⟨E - 1, by omega⟩
        rw [NL hb' hN' E j (by omega), htok, if_neg (by simp), AAb, QJ hwt, if_pos hin, Option.bind_some, if_pos (by simp)]
        exact ⟨_, rfl⟩
      · have r0 : Run N l j (inA [] BM (EQ dk dn) wt n) (j + (BP k).length) (inA [] BM (EQ (dk ++ [k]) dn) 4 n) :=
          PM hb' hN' (by omega) htok (by omega) rfl (by rw [QJ hwt, if_neg hin])
        have hj1 := Dp hj
        have r1 := FD (N := N) hb' hN' (p := inA [] BM (EQ (dk ++ [k]) dn) 4 n) (q := inA [] BM (EQ (dk ++ [k]) dn) 0 n) (w := []) GH (c := 58) (by decide) (by decide) hj1 fun pos => Pt
        have hj2 : l.drop (j + (BP k).length + ([] : List UInt8).length + 1) = [] ++ (wrV ER ++ (wrM false ks (Bj ks) ++ [125])) := by
          have := Dp (a := [58]) (b := wrV ER ++ (wrM false ks (Bj ks) ++ [125])) hj1
          simpa [Nat.add_assoc] using this
        have r2 := Px hb hN 1 ER _ (inA [] BM (EQ (dk ++ [k]) dn) 0 n) [] (wrV ER) (wrM false ks (Bj ks) ++ [125]) Qk U4 GH AGK hj2 (ABT ks) (.inl rfl) (by simp [inA, ACu]) h0 (by simp only [inA, WC]; omega)
        have e1 : CV { inA [] BM (EQ (dk ++ [k]) dn) 0 n with nodes := (inA [] BM (EQ (dk ++ [k]) dn) 0 n).nodes + ED ER } ER = inA [] BM (EQ (dk ++ [k]) (dn ++ [ER])) 5 (n + 1) := by
          show CV ⟨[] ++ [EQ (dk ++ [k]) dn], 0, n + 1, BM⟩ ER = _
          rw [KJ, Y8]; rfl
        rw [e1] at r2
        have hj3 := Dp (Dp hj2)
        obtain ⟨E', f1, f2⟩ := (r0.trans (r1.trans r2)) E hE
        obtain ⟨pos, f3⟩ := SN hb hN ks (dk ++ [k]) false (dn ++ [ER]) _ (n + 1) (fun y hy => hk y (by simp [hy])) (by rw [List.nodup_append]; exact ⟨hd, by simp, fun a ha b hb e => by simp at hb; subst hb; exact hin (e ▸ ha)⟩) (by simpa using hnd) hj3 (by omega) (by omega) E' f1
        exact ⟨pos, f2.trans f3⟩
    cases b
    · simp only [Bool.false_eq_true, if_false, List.append_assoc, List.cons_append, List.nil_append] at ht ⊢
      intro E hE
      have r1 := FD (N := N) hb' hN' (p := inA [] BM (EQ dk dn) 5 n) (q := inA [] BM (EQ dk dn) 2 n) (w := []) (c := 44) GH (by decide) (by decide) ht fun pos => Lt
      have hd2 := Dp (a := [44]) (b := BP k ++ (58 :: (wrV ER ++ (wrM false ks (Bj ks) ++ [125])))) (by simpa using ht)
      obtain ⟨E', f1, f2⟩ := r1 E hE
      obtain ⟨pos, f3⟩ := rest (i + 1) 2 (.inl rfl) (by simpa using hd2) E' f1
      exact ⟨pos, f2.trans f3⟩
    · simp only [if_true, List.append_assoc, List.cons_append, List.nil_append] at ht ⊢
      exact rest i 3 (.inr rfl) (by simpa using ht)
theorem Vw {ks : List (List UInt8)} (hk : ∀ k, k ∈ ks → (Cf N k).isSome = true ∧ k.length ≤ 300) (hnd : ¬ ks.Nodup) (hks : ks.length ≤ 100) (hl : (123 :: (wrM true ks (Bj ks) ++ [125])).length ≤ 1048576) (hN : 2000000 ≤ N) (hN2 : N ≤ 1099511627776) :
    ∃ pos, Ca N (123 :: (wrM true ks (Bj ks) ++ [125])) = some (BM, pos, 143) := by
  unfold Ca
  rw [if_neg (by omega), if_neg (by omega)]
  generalize hL : 123 :: (wrM true ks (Bj ks) ++ [125]) = L at *
  have hpos : 0 < L.length := by rw [← hL]; simp
  have r1 := FD (N := N) (l := L) (by omega) (by omega) (i := 0) (p := ⟨[], 0, 0, BM⟩) (q := inA [] BM (EQ [] []) 3 1) (w := []) (c := 123) (r := wrM true ks (Bj ks) ++ [125]) GH (by decide) (by decide) (by rw [List.drop_zero, ← hL]; rfl) fun pos => by
    rw [NG 123 (.inr rfl) (Md (.inl rfl) rfl), if_neg (by decide), Nb (by simp), if_neg (by omega)]; rfl
  obtain ⟨E', f1, f2⟩ := r1 N (by omega)
  obtain ⟨pos, f3⟩ := SN (N := N) (l := L) hl (by omega) ks [] true [] _ 1 hk (by simp) (by simpa using hnd) (by rw [← hL]; rfl) (by omega) (by omega) E' f1
  exact ⟨pos, f2.trans f3⟩
theorem ABY {ks : List (List UInt8)} {x y : Nat} {k : List UInt8} (hx : ks[x]? = some k) (hy : y < ks.length) (hne : x ≠ y) : ¬ (ks.set y k).Nodup := by
  intro h
  have h1 : (ks.set y k)[x]? = some k := by rw [List.getElem?_set_ne (by omega)]; exact hx
  have h2 : (ks.set y k)[y]? = some k := by rw [List.getElem?_set_self hy]
  have hxl : x < (ks.set y k).length := (List.getElem?_eq_some_iff.1 h1).1
  have hyl : y < (ks.set y k).length := by simpa using hy
  have e1 : (ks.set y k)[x] = k := by rw [List.getElem?_eq_getElem hxl] at h1; exact Option.some.inj h1
  have e2 : (ks.set y k)[y] = k := by rw [List.getElem?_eq_getElem hyl] at h2; exact Option.some.inj h2
  have hp := List.pairwise_iff_getElem.1 h
  rcases Nat.lt_or_gt_of_ne hne with q | q
  · exact hp x y hxl hyl q (e1.trans e2.symm)
  · exact hp y x hyl hxl q (e2.trans e1.symm)
theorem AE8 {k : List UInt8} (hN : 2000 ≤ N) (hk : (Cf N k).isSome = true ∧ k.length ≤ 300) : Fh N (ApiValue.mk 5 k [] []) = some (BP k, 0) := by
  have hw : okW 70 (⟨5, k, [], []⟩ : ApiValue) := .mk _ (by simpa using hk.2) (by simp) (by simp) (by simp) (by simp)
  have hs : Ed N ⟨5, k, [], []⟩ = true := (Shp.str k hk.1).b
  rw [SV hN hw (by rw [GA]; simp [Ba]), if_pos (by rw [UW, hs]; simp [GK, Dr]), Kn (by decide), wrV]
  rfl
theorem ME (hN : 2000 ≤ N) (kf : List UInt8 → Option Bool) : ∀ (ks : List (List UInt8)) (i : Nat) (b : Bool) (t : List UInt8), (b = true ↔ i = 0) → (∀ k, k ∈ ks → (Cf N k).isSome = true ∧ k.length ≤ 300) → t.length + 2000 * ks.length ≤ 100000 → Gi N kf ks (i : Int) t = kf (t ++ wrM b ks (Bj ks))
  | [], i, b, t, _, _, _ => by
    rw [Gi, Bj, List.map_nil, wrM, List.append_nil]
    intros; simp_all
  | k :: ks, i, b, t, hb, hk, ht => by
    have hk1 := hk k (by simp)
    have hq := Io k
    simp only [List.length_cons] at ht
    have hnl : wrV ER = [110, 117, 108, 108] := by rw [ER, wrV]; rfl
    rw [Gi, AE8 hN hk1, Option.bind_some, Bj, List.map_cons, wrM, hnl]
    dsimp only
    cases b
    · have hi : i ≠ 0 := fun e => by have := hb.2 e; cases this
      rw [if_pos (by simp; omega), AL (by unfold Ac; simp; omega), AL (by unfold Ac; simp; omega), AL (by unfold Ac; simp; omega), show (i : Int) + 1 = ((i + 1 : Nat) : Int) by simp,
        ME hN kf ks (i + 1) false _ (by simp) (fun y hy => hk y (by simp [hy])) (by simp; omega)]
      simp [Bj]
    · have hi : i = 0 := hb.1 rfl
      rw [if_neg (by simp; omega), AL (by unfold Ac; simp; omega), AL (by unfold Ac; simp; omega), show (i : Int) + 1 = ((i + 1 : Nat) : Int) by simp,
        ME hN kf ks (i + 1) false _ (by simp) (fun y hy => hk y (by simp [hy])) (by simp; omega)]
      simp [Bj]
theorem XR (kf : List (List UInt8) × List ApiValue → Option Bool) : ∀ (xs ks : List (List UInt8)) (vs : List ApiValue), ks ++ xs ≠ [] → ks.length + xs.length ≤ 100 → vs.length = ks.length → Lb N kf xs ks vs = kf (ks ++ xs, vs ++ Bj xs)
  | [], ks, vs, h, _, _ => by rw [Lb, AL (by simpa using h)]; simp [Bj]
  | k :: xs, ks, vs, h, hl, hv => by
    simp only [List.length_cons] at hl
    rw [Lb, AL (Kj (by omega)), AL (Y0 (by omega)), XR kf xs _ _ (by simp) (by simp; omega) (by simp [hv])]
    simp [Bj, ER]
end
theorem AGY : Jl 1099511627776 = some true := by kernel_rfl
theorem ADE {N : Nat} (l : List (List UInt8)) (n m : Nat) (hn : n ≤ 1000) (hm : m ≤ 100000) : ∃ b, Gb N l n m = some b ∧ (b = true → l.length ≤ n ∧ ∀ s, s ∈ l → s.length ≤ m) := by
  have loop : ∀ (k : Unit → Option Bool) (xs : List (List UInt8)), Br N (m : Int) k xs = k () ∧ (∀ s, s ∈ xs → s.length ≤ m) ∨ Br N (m : Int) k xs = some false := by
    intro k xs
    induction xs with
    | nil => rw [Br]; exact .inl ⟨rfl, by simp⟩
    | cons x xs ih =>
      rw [Br]
      by_cases h : decide ((x.length : Int) > (m : Int)) = true
      · rw [if_pos h]; exact .inr rfl
      · rw [if_neg h]
        simp only [decide_eq_true_eq] at h
        rcases ih with ⟨e, h2⟩ | e
        · refine .inl ⟨e, fun s hs => ?_⟩
          rcases List.mem_cons.1 hs with rfl | hs
          · omega
          · exact h2 s hs
        · exact .inr e
  unfold Gb
  by_cases h : decide ((l.length : Int) > (n : Int)) = true
  · rw [if_pos h]; exact ⟨false, rfl, fun e => by cases e⟩
  · rw [if_neg h]
    simp only [decide_eq_true_eq] at h
    rw [AO, JC (by omega)]
    rcases loop _ l with ⟨e, h2⟩ | e
    · rw [e]; exact ⟨true, rfl, fun _ => ⟨by omega, h2⟩⟩
    · rw [e]; exact ⟨false, rfl, fun e => by cases e⟩
theorem MR (ks : List (List UInt8)) {P : Prop} (_ : P) (i : Int) (hi : (Lit.int .u8 i).wf = true) (j : Int) (hj : (Lit.int .u8 j).wf = true) : Ew 1099511627776 ks i j = some true := by
  have hi' := wf_u8 hi
  have hj' := wf_u8 hj
  obtain ⟨x, rfl⟩ := Int.eq_ofNat_of_zero_le hi'.1
  obtain ⟨y, rfl⟩ := Int.eq_ofNat_of_zero_le hj'.1
  unfold Ew
  rw [AGY, Option.bind_some, if_pos rfl]
  by_cases h0 : ks = []
  · rw [if_pos (by simp [h0])]
  have hpos : 0 < ks.length := List.length_pos_iff.2 h0
  rw [if_neg (by simp; exact h0)]
  obtain ⟨b, e1, hb⟩ := ADE (N := 1099511627776) ks 12 40 (by omega) (by omega)
  rw [show (12 : Int) = ((12 : Nat) : Int) from rfl, show (40 : Int) = ((40 : Nat) : Int) from rfl, e1, Option.bind_some]
  cases b
  · rfl
  obtain ⟨hl, hk⟩ := hb rfl
  rw [if_pos rfl, AL (by omega), JC (by omega), XR _ ks [] [] (by simpa using h0) (by simp; omega) rfl, FN (by omega), FN (by omega)]
  simp only [List.nil_append]
  have ex : ((x : Nat) : Int).tmod (ks.length : Int) = ((x % ks.length : Nat) : Int) := rfl
  have ey : ((y : Nat) : Int).tmod (ks.length : Int) = ((y % ks.length : Nat) : Int) := rfl
  have hx : x % ks.length < ks.length := Nat.mod_lt _ hpos
  have hy : y % ks.length < ks.length := Nat.mod_lt _ hpos
  rw [ex, ey]
  generalize x % ks.length = x at *
  generalize y % ks.length = y at *
  have hnl : (Bj ks).length = ks.length := by simp [Bj]
  have hv : okW 70 (ApiValue.mk 7 [] ks (Bj ks)) := .mk _ (by simp) (by simp only []; omega) (fun k h => by have := hk k h; omega) (by simp only []; omega) fun z hz => by
    simp only [Bj, List.mem_map] at hz
    obtain ⟨_, _, rfl⟩ := hz
    exact Qk.mono _ (by omega)
  have hcs : ∀ l : List (List UInt8), Ba (Bj l) = l.length := fun l => by
    induction l with
    | nil => rfl
    | cons a l ih => rw [Bj, List.map_cons, Ba, ← Bj, ih, WC, List.length_cons]; omega
  have hc : ED (ApiValue.mk 7 [] ks (Bj ks)) = 1 + ks.length := by rw [GA]; simp only [hcs]
  unfold PI
  rw [SV (N := 1099511627776) (by omega) hv (by omega), Option.bind_some]
  cases hcv : UW 1099511627776 (ApiValue.mk 7 [] ks (Bj ks))
  · rfl
  simp only [if_true]
  rw [if_neg (by decide)]
  by_cases hxy : x = y
  · rw [if_pos (by simp [hxy])]
  rw [if_neg (by simp; omega)]
  have hn : GK (ApiValue.mk 7 [] ks (Bj ks)) ≤ 64 := by unfold UW at hcv; rw [Bool.and_eq_true, decide_eq_true_eq] at hcv; exact hcv.1
  have hs : Ed 1099511627776 (ApiValue.mk 7 [] ks (Bj ks)) = true := by unfold UW at hcv; rw [Bool.and_eq_true] at hcv; exact hcv.2
  have hdk : Iz 1099511627776 ks = true := by
    have := hs
    rw [Ed] at this
    simp only [show ((7 : Int) == 1) = false from rfl, show ((7 : Int) == 2) = false from rfl, show ((7 : Int) == 3) = false from rfl, show ((7 : Int) == 4) = false from rfl, show ((7 : Int) == 5) = false from rfl, show ((7 : Int) == 6) = false from rfl, show ((7 : Int) == 7) = true from rfl, Bool.false_eq_true, if_false, if_true, Bool.or_self, Bool.and_eq_true] at this
    exact this.1.2
  have hall := R4 hdk
  have hks : ∀ k, k ∈ ks → (Cf 1099511627776 k).isSome = true ∧ k.length ≤ 300 := fun k h => ⟨hall k h, by have := hk k h; omega⟩
  obtain ⟨o1, o2, o3, o4⟩ := Mi (N := 1099511627776) 70 _ hv hs
  have hlw := Nu (N := 1099511627776) 70 _ o1 o2
  rw [o3, hc] at hlw
  unfold Sl
  rw [K3, List.getElem?_eq_getElem hx, Option.bind_some, AL (by omega), JC (by omega), Int.toNat_natCast]
  have hset : ∀ k, k ∈ ks.set y ks[x] → (Cf 1099511627776 k).isSome = true ∧ k.length ≤ 300 := fun k h => by
    rcases List.mem_or_eq_of_mem_set h with h | rfl
    · exact hks k h
    · exact hks _ (List.getElem_mem hx)
  have hsl : (ks.set y ks[x]).length = ks.length := List.length_set ..
  rw [show (0 : Int) = ((0 : Nat) : Int) from rfl, ME (N := 1099511627776) (by omega) _ (ks.set y ks[x]) 0 true [] (by simp) hset (by simp only [List.length_nil]; omega), List.nil_append]
  unfold ND
  have hp := Yo (N := 1099511627776) (w := []) (w' := []) o1 o2 (by rw [o4]; exact hn) (by rw [o3, hc]; omega) GH GH (Uj 70 _ o1 o2) (by simp only [List.nil_append, List.append_nil]; omega) (by omega) (by omega)
  simp only [List.nil_append, List.append_nil] at hp
  rw [hp, Option.bind_some]
  have hmem : ∀ z, z ∈ Bj (ks.set y ks[x]) → okW 1 z ∧ Ed 1099511627776 z = true := fun z hz => by
    simp only [Bj, List.mem_map] at hz
    obtain ⟨_, _, rfl⟩ := hz
    exact ⟨Qk, U4⟩
  have hml := AAk (N := 1099511627776) (e := 1) (xs := Bj (ks.set y ks[x])) (ks := ks.set y ks[x]) true (fun k h => (hset k h).2) hmem
  rw [hcs, hsl] at hml
  obtain ⟨pos, hq⟩ := Vw (N := 1099511627776) (ks := ks.set y ks[x]) hset (ABY (List.getElem?_eq_getElem hx) hy hxy) (by omega) (by simp only [List.length_cons, List.length_append, List.length_nil]; omega) (by omega) (by omega)
  rw [AL (by unfold Ac; simp only [List.length_cons, List.length_nil]; omega), AL (by unfold Ac; simp only [List.length_append, List.length_cons, List.length_nil]; omega), List.singleton_append, List.cons_append, hq, Option.bind_some]
  have hkl : (FW (ApiValue.mk 7 [] ks (Bj ks))).keys.length = ks.length := by
    rw [AAc]; exact (HV ks).length_eq
  rw [if_pos (by simp), if_pos (by rw [hkl]; simp), if_pos (by simp)]
  rfl
end Go.VM
