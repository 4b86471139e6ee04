import Derived.Test.YtbmilkoebhmnnaaGreatDoorL5
import Derived.KernelRfl
set_option linter.unusedVariables false
set_option linter.unusedSimpArgs false
namespace Go.VM
def Run (N : Nat) (l : List UInt8) (i : Nat) (p : JPsr) (j : Nat) (q : JPsr) : Prop := ∀ E, l.length + 2 ≤ E + i → ∃ E', l.length + 2 ≤ E' + j ∧ Fp N l E i p = Fp N l E' j q
theorem Run.trans {N : Nat} {l : List UInt8} {i j k : Nat} {p q r : JPsr} (h : Run N l i p j q) (h2 : Run N l j q k r) : Run N l i p k r := fun E hE => by
  obtain ⟨E', e1, e2⟩ := h E hE
  obtain ⟨E2, f1, f2⟩ := h2 E' e1
  exact ⟨E2, f1, e2.trans f2⟩
mutual
def TxV : ApiValue → List UInt8 → Prop
  | ⟨kind, text, keys, items⟩, t =>
    if kind == 1 then t = [110, 117, 108, 108] else if kind == 2 then t = [102, 97, 108, 115, 101] else if kind == 3 then t = [116, 114, 117, 101] else if kind == 4 then t = text
    else if kind == 5 then t = BI text else if kind == 7 then ∃ u, t = 123 :: u ∧ TxM true keys items u else ∃ u, t = 91 :: u ∧ TxI true items u
def TxI : Bool → List ApiValue → List UInt8 → Prop
  | _, [], t => ∃ w, AllWs w ∧ t = w ++ [93]
  | b, x :: xs, t => ∃ w w' s u, AllWs w ∧ AllWs w' ∧ t = (if b then w else w ++ 44 :: w') ++ (s ++ u) ∧ TxV x s ∧ TxI false xs u
def TxM : Bool → List (List UInt8) → List ApiValue → List UInt8 → Prop
  | _, [], [], t => ∃ w, AllWs w ∧ t = w ++ [125]
  | b, k :: ks, x :: xs, t => ∃ w w' w1 w2 s u, AllWs w ∧ AllWs w' ∧ AllWs w1 ∧ AllWs w2 ∧ t = (if b then w else w ++ 44 :: w') ++ (BI k ++ (w1 ++ 58 :: (w2 ++ (s ++ u)))) ∧ TxV x s ∧ TxM false ks xs u
  | _, _, _, _ => False
end
section
variable {N : Nat} {l : List UInt8}
theorem VK (hb : l.length ≤ 2 ^ 40) (hN : l.length + 10 ≤ N) {i j : Nat} {p q : JPsr} {t : ApiToken} (hi : i ≤ l.length) (ht : Kk N l i = (t, (j : Int), 0)) (hj : i < j) (hk : (t.kind == 1) = false) (hq : CE N p t = some (q, 0)) : Run N l i p j q := fun E hE => by
  obtain ⟨E, rfl⟩ : ∃ e, E = e + 1 := ⟨E - 1, by omega⟩
  refine ⟨E, by omega, ?_⟩
  rw [TI hb hN E i hi, ht, if_neg (by simp), Ow, hq, Option.bind_some, if_neg (by simp), hk]
  rfl
theorem QH {i : Nat} {t : List UInt8} (h : l.drop i = t) : t = [] ∨ i + t.length = l.length := by
  have := congrArg List.length h
  rw [List.length_drop] at this
  by_cases h0 : t = []
  · exact .inl h0
  · have : 0 < t.length := List.length_pos_iff.2 h0
    right; omega
theorem Dw {i : Nat} {a b : List UInt8} (h : l.drop i = a ++ b) : l.drop (i + a.length) = b := by rw [← List.drop_drop, h, List.drop_left]
theorem Qp {p : JPsr} {t : ApiToken} (hw : p.want = 0 ∨ p.want = 1) (ho : Fg t = true) : Dk p t = true := by
  unfold Dk
  rcases hw with h | h <;> simp [h, ho]
theorem Ha (hb : l.length ≤ 2 ^ 40) (hN : l.length + 10 ≤ N) {i : Nat} {w r : List UInt8} {c : UInt8} {p q : JPsr} (hw : AllWs w) (hc : Jg.contains c = true) (hws : wsB c = false) (h : l.drop i = w ++ c :: r) (hq : ∀ pos : Int, CE N p (ApiToken.mk 2 [c] pos) = some (q, 0)) : Run N l i p (i + w.length + 1) q := by
  have hlen : i + (w ++ c :: r).length = l.length := by rcases QH h with e | e; simp at e; exact e
  refine VK hb hN (by omega) ?_ (by omega) rfl (hq ((i + w.length : Nat) : Int))
  rw [NF h hw (fun c' r' e => by cases e; exact hws), ACk hc]
theorem Ny (hb : l.length ≤ 2 ^ 40) (hN : l.length + 10 ≤ N) {i : Nat} {w s r : List UInt8} {p : JPsr} {t : Int → ApiToken} {v : ApiValue} (hw : AllWs w) (hs0 : s ≠ []) (hws : ∀ c r', s ++ r = c :: r' → wsB c = false) (h : l.drop i = w ++ (s ++ r)) (ht : ∀ pos : Nat, LZ N pos (s ++ r) = (t pos, ((pos + s.length : Nat) : Int), 0))
    (hwant : p.want = 0 ∨ p.want = 1) (hk : ∀ pos, (t pos).kind = 3 ∨ (t pos).kind = 4 ∨ (t pos).kind = 5) (hn : ∀ pos, (t pos).kind = 4 → BX N (t pos).text = some (N7 N (t pos).text) ∧ (N7 N (t pos).text).2 = 0) (hv : ∀ pos, ABS N (t pos) = v)
    (h0 : p.nodes + 1 ≤ 20000) : Run N l i p (i + w.length + s.length) (CX { p with nodes := p.nodes + 1 } v) := by
  have hpos : 0 < s.length := List.length_pos_iff.2 hs0
  have hlen : i + (w ++ (s ++ r)).length = l.length := by
    rcases QH h with e | e
    · simp at e; exact absurd e.2.1 hs0
    · exact e
  simp only [List.length_append] at hlen
  have hopen : ∀ pos, Fg (t pos) = true := fun pos => by unfold Fg; rcases hk pos with e | e | e <;> simp [e]
  refine VK hb hN (t := t ((i + w.length : Nat) : Int)) (by omega) ?_ (by omega) (by rcases hk ((i + w.length : Nat) : Int) with e | e | e <;> rw [e] <;> rfl) ?_
  · rw [NF h hw hws, ht]
  · obtain ⟨st, wt, nd, out⟩ := p
    rw [AAZ hwant (Qp hwant (hopen _)) (hk _) fun e => (hn _ e).1, if_neg (fun e => e.2 (hn _ e.1).2), hv, AEv, if_neg (by simp only at h0; omega)]
    exact congrArg some (congrArg (·, (0 : Int)) (Ql ⟨st, 0, nd + 1, out⟩ wt v).symm)
theorem M9 (st : List ApiValue) (out v : ApiValue) (w n : Int) : CX ⟨st, w, n, out⟩ v = Nb st out v n := Ql ⟨st, 0, n, out⟩ w v
theorem AAe : ∀ {xs : List ApiValue} {u : List UInt8}, TxI false xs u → ∀ r, Stop (u ++ r)
  | [], u, h, r => by
    rw [TxI] at h
    obtain ⟨w, hw, rfl⟩ := h
    rw [List.append_assoc]
    exact Stop.ws hw (Ij (by decide))
  | x :: xs, u, h, r => by
    rw [TxI] at h
    obtain ⟨w, w', s, u', hw, _, rfl, _, _⟩ := h
    simp only [Bool.false_eq_true, if_false, List.append_assoc, List.cons_append]
    exact Stop.ws hw (Ij (by decide))
theorem Uk : ∀ {ks : List (List UInt8)} {xs : List ApiValue} {u : List UInt8}, TxM false ks xs u → ∀ r, Stop (u ++ r)
  | [], [], u, h, r => by
    rw [TxM] at h
    obtain ⟨w, hw, rfl⟩ := h
    rw [List.append_assoc]
    exact Stop.ws hw (Ij (by decide))
  | k :: ks, x :: xs, u, h, r => by
    rw [TxM] at h
    obtain ⟨w, w', w1, w2, s, u', hw, _, _, _, rfl, _, _⟩ := h
    simp only [Bool.false_eq_true, if_false, List.append_assoc, List.cons_append]
    exact Stop.ws hw (Ij (by decide))
  | [], x :: xs, u, h, r => by simp [TxM] at h
  | k :: ks, [], u, h, r => by simp [TxM] at h
def AGq (N : Nat) (l : List UInt8) (e : Nat) : Prop := ∀ (v : ApiValue) (i : Nat) (p : JPsr) (w t r : List UInt8), okW e v → E5 N v = true → AllWs w → TxV v t → l.drop i = w ++ (t ++ r) → Stop r → (p.want = 0 ∨ p.want = 1) → p.stack.length + Gx v ≤ 64 → 0 ≤ p.nodes → p.nodes + EA v ≤ 20000 →
  Run N l i p (i + w.length + t.length) (CX { p with nodes := p.nodes + EA v } v)
theorem TE (hb : l.length ≤ 2 ^ 40) (hN : l.length + 10 ≤ N) {e : Nat} (ih : AGq N l e) (st : List ApiValue) (out : ApiValue) : ∀ (xs : List ApiValue) (b : Bool) (dn : List ApiValue) (i : Nat) (u r : List UInt8) (n : Int), (∀ x, x ∈ xs → okW e x ∧ E5 N x = true) → TxI b xs u → l.drop i = u ++ r → (b = true → dn = []) → st.length + 1 + ED xs ≤ 64 → 0 ≤ n → n + Bf xs ≤ 20000 →
    Run N l i (inA st out (L8 dn) (if b then 1 else 5) n) (i + u.length) (Nb st out (L8 (dn ++ xs)) (n + Bf xs))
  | [], b, dn, i, u, r, n, _, ht, hd, _, _, _, _ => by
    rw [TxI] at ht
    obtain ⟨w, hw, rfl⟩ := ht
    rw [Bf, List.append_nil]
    have := Ha (N := N) hb hN (p := inA st out (L8 dn) (if b then 1 else 5) n) (q := Nb st out (L8 dn) n) (c := 93) (r := r) hw (by decide) (by decide) (by simpa using hd) fun pos => QU (v := L8 dn) (by cases b <;> simp)
    simpa [Nat.add_assoc] using this
  | x :: xs, b, dn, i, u, r, n, hx, ht, hd, hb1, hn, h0, hc => by
    rw [TxI] at ht
    obtain ⟨w, w', s, u', hw, hw', rfl, hs, hu⟩ := ht
    rw [ED] at hn
    rw [Bf] at hc ⊢
    have hx1 := hx x (by simp)
    have hp := Mh x
    have rest : ∀ (j : Nat) (w2 : List UInt8) (wt : Int), wt = 0 ∨ wt = 1 → AllWs w2 → l.drop j = w2 ++ (s ++ (u' ++ r)) → Run N l j (inA st out (L8 dn) wt n) (j + w2.length + s.length + u'.length) (Nb st out (L8 (dn ++ x :: xs)) (n + ((EA x + Bf xs : Nat) : Int))) := by
      intro j w2 wt hwt hw2 hj
      have r1 := ih x j (inA st out (L8 dn) wt n) w2 s (u' ++ r) hx1.1 hx1.2 hw2 hs hj (AAe hu r) hwt (by simp [inA]; omega) h0 (by simp only [inA]; omega)
      have e1 : CX { inA st out (L8 dn) wt n with nodes := (inA st out (L8 dn) wt n).nodes + EA x } x = inA st out (L8 (dn ++ [x])) 5 (n + EA x) := by
        show CX ⟨st ++ [L8 dn], wt, n + EA x, out⟩ x = _
        rw [M9, AGh]; rfl
      rw [e1] at r1
      have hj2 : l.drop (j + w2.length + s.length) = u' ++ r := Dw (Dw hj)
      have r2 := TE hb hN ih st out xs false (dn ++ [x]) (j + w2.length + s.length) u' r (n + EA x) (fun y hy => hx y (by simp [hy])) hu hj2 (fun h => by cases h) (by omega) (by omega) (by omega)
      have e2 : (n + (EA x : Int)) + (Bf xs : Int) = n + ((EA x + Bf xs : Nat) : Int) := by omega
      rw [e2, List.append_assoc] at r2
      exact r1.trans r2
    cases b
    · simp only [Bool.false_eq_true, if_false, List.append_assoc, List.cons_append] at hd ⊢
      have r1 := Ha (N := N) hb hN (p := inA st out (L8 dn) 5 n) (q := inA st out (L8 dn) 0 n) (c := 44) (r := w' ++ (s ++ (u' ++ r))) hw (by decide) (by decide) hd fun pos => Qh
      have hd2 : l.drop (i + w.length + 1) = w' ++ (s ++ (u' ++ r)) := by
        have := Dw (a := w ++ [44]) (b := w' ++ (s ++ (u' ++ r))) (by simpa using hd)
        simpa [Nat.add_assoc] using this
      have r2 := rest (i + w.length + 1) w' 0 (.inl rfl) hw' hd2
      have e : i + w.length + 1 + w'.length + s.length + u'.length = i + (w ++ 44 :: (w' ++ (s ++ u'))).length := by simp; omega
      rw [e] at r2
      exact r1.trans r2
    · simp only [if_true] at hd ⊢
      have r2 := rest i w 1 (.inr rfl) hw (by simpa using hd)
      have e : i + w.length + s.length + u'.length = i + (w ++ (s ++ u')).length := by simp; omega
      rw [e] at r2
      exact r2
theorem O1 (hb : l.length ≤ 2 ^ 40) (hN : l.length + 10 ≤ N) (hN2 : 2000 ≤ N) {e : Nat} (ih : AGq N l e) (st : List ApiValue) (out : ApiValue) : ∀ (ks : List (List UInt8)) (xs : List ApiValue) (b : Bool) (dk : List (List UInt8)) (dn : List ApiValue) (i : Nat) (u r : List UInt8) (n : Int), (∀ x, x ∈ xs → okW e x ∧ E5 N x = true) → (∀ k, k ∈ ks → (Dh N k).isSome = true ∧ k.length ≤ 300) → (dk ++ ks).Nodup → TxM b ks xs u → l.drop i = u ++ r → (b = true → dn = []) → st.length + 1 + ED xs ≤ 64 → 0 ≤ n → n + Bf xs ≤ 20000 →
    Run N l i (inA st out (GZ dk dn) (if b then 3 else 5) n) (i + u.length) (Nb st out (GZ (dk ++ ks) (dn ++ xs)) (n + Bf xs))
  | [], [], b, dk, dn, i, u, r, n, _, _, _, ht, hd, _, _, _, _ => by
    rw [TxM] at ht
    obtain ⟨w, hw, rfl⟩ := ht
    rw [Bf, List.append_nil, List.append_nil]
    have := Ha (N := N) hb hN (p := inA st out (GZ dk dn) (if b then 3 else 5) n) (q := Nb st out (GZ dk dn) n) (c := 125) (r := r) hw (by decide) (by decide) (by simpa using hd) fun pos => QU (v := GZ dk dn) (by cases b <;> simp)
    simpa [Nat.add_assoc] using this
  | [], _ :: _, b, dk, dn, i, u, r, n, _, _, _, ht, _, _, _, _, _ => by simp [TxM] at ht
  | _ :: _, [], b, dk, dn, i, u, r, n, _, _, _, ht, _, _, _, _, _ => by simp [TxM] at ht
  | k :: ks, x :: xs, b, dk, dn, i, u, r, n, hx, hk, hnd, ht, hd, hb1, hn, h0, hc => by
    rw [TxM] at ht
    obtain ⟨w, w', w1, w2, s, u', hw, hw', hw1, hw2, rfl, hs, hu⟩ := ht
    rw [ED] at hn
    rw [Bf] at hc ⊢
    have hx1 := hx x (by simp)
    have hk1 := hk k (by simp)
    have hp := Mh x
    have hkn : k ∉ dk := fun h => by
      rw [List.nodup_append] at hnd
      exact hnd.2.2 k h k (by simp) rfl
    have rest : ∀ (j : Nat) (w3 : List UInt8) (wt : Int), wt = 2 ∨ wt = 3 → AllWs w3 → l.drop j = w3 ++ (BI k ++ (w1 ++ 58 :: (w2 ++ (s ++ (u' ++ r))))) → Run N l j (inA st out (GZ dk dn) wt n) (j + w3.length + (BI k).length + w1.length + 1 + w2.length + s.length + u'.length) (Nb st out (GZ (dk ++ k :: ks) (dn ++ x :: xs)) (n + ((EA x + Bf xs : Nat) : Int))) := by
      intro j w3 wt hwt hw3 hj
      have hlen : j + (w3 ++ (BI k ++ (w1 ++ 58 :: (w2 ++ (s ++ (u' ++ r)))))).length = l.length := by
        rcases QH hj with e | e
        · simp [BI] at e
        · exact e
      simp only [List.length_append] at hlen
      have hq1 : 2 ≤ (BI k).length := by simp [BI]
      have r0 : Run N l j (inA st out (GZ dk dn) wt n) (j + w3.length + (BI k).length) (inA st out (GZ (dk ++ [k]) dn) 4 n) := by
        refine VK hb hN (t := ApiToken.mk 3 k ((j + w3.length : Nat) : Int)) (by omega) ?_ (by omega) rfl (by rw [AGp hwt, if_neg hkn])
        rw [NF hj hw3 (fun c r' e => by simp [BI] at e; rw [← e.1]; decide), Sd hk1.1 (by omega)]
      have hj1 := Dw (Dw hj)
      have r1 := Ha (N := N) hb hN (p := inA st out (GZ (dk ++ [k]) dn) 4 n) (q := inA st out (GZ (dk ++ [k]) dn) 0 n) hw1 (c := 58) (by decide) (by decide) hj1 fun pos => AAj
      have hj2 : l.drop (j + w3.length + (BI k).length + w1.length + 1) = w2 ++ (s ++ (u' ++ r)) := by
        have := Dw (a := w1 ++ [58]) (b := w2 ++ (s ++ (u' ++ r))) (by simpa using hj1)
        simpa [Nat.add_assoc] using this
      have r2 := ih x _ (inA st out (GZ (dk ++ [k]) dn) 0 n) w2 s (u' ++ r) hx1.1 hx1.2 hw2 hs hj2 (Uk hu r) (.inl rfl) (by simp [inA]; omega) h0 (by simp only [inA]; omega)
      have e1 : CX { inA st out (GZ (dk ++ [k]) dn) 0 n with nodes := (inA st out (GZ (dk ++ [k]) dn) 0 n).nodes + EA x } x = inA st out (GZ (dk ++ [k]) (dn ++ [x])) 5 (n + EA x) := by
        show CX ⟨st ++ [GZ (dk ++ [k]) dn], 0, n + EA x, out⟩ x = _
        rw [M9, AGh]; rfl
      rw [e1] at r2
      have hj3 := Dw (Dw hj2)
      have r3 := O1 hb hN hN2 ih st out ks xs false (dk ++ [k]) (dn ++ [x]) _ u' r (n + EA x) (fun y hy => hx y (by simp [hy])) (fun y hy => hk y (by simp [hy])) (by simpa using hnd) hu hj3 (fun h => by cases h) (by omega) (by omega) (by omega)
      have e2 : (n + (EA x : Int)) + (Bf xs : Int) = n + ((EA x + Bf xs : Nat) : Int) := by omega
      rw [e2, List.append_assoc, List.append_assoc] at r3
      exact r0.trans (r1.trans (r2.trans r3))
    cases b
    · simp only [Bool.false_eq_true, if_false, List.append_assoc, List.cons_append] at hd ⊢
      have r1 := Ha (N := N) hb hN (p := inA st out (GZ dk dn) 5 n) (q := inA st out (GZ dk dn) 2 n) (c := 44) hw (by decide) (by decide) hd fun pos => Qh
      have hd2 := Dw (a := w ++ [44]) (b := w' ++ (BI k ++ (w1 ++ 58 :: (w2 ++ (s ++ (u' ++ r)))))) (by simpa using hd)
      have r2 := rest _ w' 2 (.inl rfl) hw' hd2
      have ea : i + (w ++ [44]).length = i + w.length + 1 := by simp; omega
      rw [ea] at r2
      have e : i + w.length + 1 + w'.length + (BI k).length + w1.length + 1 + w2.length + s.length + u'.length = i + (w ++ 44 :: (w' ++ (BI k ++ (w1 ++ 58 :: (w2 ++ (s ++ u')))))).length := by simp; omega
      rw [e] at r2
      exact r1.trans r2
    · simp only [if_true] at hd ⊢
      have r2 := rest i w 3 (.inr rfl) hw (by simpa using hd)
      have e : i + w.length + (BI k).length + w1.length + 1 + w2.length + s.length + u'.length = i + (w ++ (BI k ++ (w1 ++ 58 :: (w2 ++ (s ++ u'))))).length := by simp; omega
      rw [e] at r2
      exact r2
theorem YC (hb : l.length ≤ 1048576) (hN : l.length + 3000 ≤ N) : ∀ e : Nat, AGq N l e
  | 0 => fun v i p w t r h => by have := h.pos; omega
  | e + 1 => fun v i p w t r h hs hw htx hd hr hwant hnest h0 hc => by
    have ih := YC hb hN e
    have ht := h.text; have hsub := h.sub; have hkl := h.klen
    have hb' : l.length ≤ 2 ^ 40 := by omega
    rw [Gu] at hc ⊢
    rw [Jm] at hnest
    cases Jw hs with
    | word k hk =>
      have key : ∀ (x : List UInt8), isWord x = true → t = x → LU x = k → Run N l i p (i + w.length + t.length) (CX { p with nodes := p.nodes + ((1 + Bf [] : Nat) : Int) } ⟨k, [], [], []⟩) := by
        intro x hx e hj
        subst e
        have hne : t ≠ [] := fun e => by rw [e] at hx; simp [isWord] at hx
        refine Ny hb' (by omega) (t := fun pos => ApiToken.mk 5 t pos) hw hne (fun c r' e => ?_) hd (fun pos => AEr hx hr) hwant (fun _ => .inr (.inr rfl)) (fun _ e => by cases e) (fun _ => ?_) (by simpa [Bf] using hc)
        · unfold isWord at hx
          simp only [Bool.or_eq_true, beq_iff_eq] at hx
          rcases hx with rfl | rfl | rfl <;> (cases e; decide)
        · show (if ((5 : Int) == 4) = true then _ else if ((5 : Int) == 5) = true then _ else _) = _
          rw [if_neg (by decide), if_pos (by decide), hj]
      rw [TxV] at htx
      rcases hk with rfl | rfl | rfl
      · exact key _ (by decide) htx (by decide)
      · exact key _ (by decide) htx (by decide)
      · exact key _ (by decide) htx (by decide)
    | num s hn =>
      rw [TxV] at htx
      simp only [show ((4 : Int) == 1) = false from rfl, show ((4 : Int) == 2) = false from rfl, show ((4 : Int) == 3) = false from rfl, show ((4 : Int) == 4) = true from rfl, Bool.false_eq_true, if_false, if_true] at htx
      subst htx
      simp only at ht
      unfold Si TP at hn
      by_cases hc2 : t ≠ [] ∧ Ci t = t.length
      · rw [if_pos hc2] at hn
        simp only [Bool.and_eq_true, beq_iff_eq] at hn
        obtain ⟨n1, _, _⟩ := X9 (N := N) hc2.1 hc2.2 (by omega) (by omega)
        refine Ny hb' (by omega) (t := fun pos => ApiToken.mk 4 t pos) hw hc2.1 (fun c r' e => ?_) hd (fun pos => AHq hc2.1 hc2.2 hr) hwant (fun _ => .inr (.inl rfl)) (fun _ _ => ⟨n1, hn.1⟩) (fun _ => ?_) (by simpa [Bf] using hc)
        · obtain ⟨c0, r0, e0, hc0⟩ := Zk hc2.1 hc2.2
          rw [e0] at e
          cases e
          exact (XT hc0).1
        · show (⟨4, (N7 N t).1, [], []⟩ : ApiValue) = _
          rw [hn.2]
      · rw [if_neg hc2] at hn; simp at hn
    | str s hv =>
      rw [TxV] at htx
      simp only [show ((5 : Int) == 1) = false from rfl, show ((5 : Int) == 2) = false from rfl, show ((5 : Int) == 3) = false from rfl, show ((5 : Int) == 4) = false from rfl, show ((5 : Int) == 5) = true from rfl, Bool.false_eq_true, if_false, if_true] at htx
      subst htx
      simp only at ht
      refine Ny hb' (by omega) (t := fun pos => ApiToken.mk 3 s pos) hw (by simp [BI]) (fun c r' e => by simp [BI] at e; rw [← e.1]; decide) hd (fun pos => Sd hv (by omega)) hwant (fun _ => .inl rfl) (fun _ e => by cases e) (fun _ => rfl) (by simpa [Bf] using hc)
    | arr xs hx =>
      rw [TxV] at htx
      simp only [show ((6 : Int) == 1) = false from rfl, show ((6 : Int) == 2) = false from rfl, show ((6 : Int) == 3) = false from rfl, show ((6 : Int) == 4) = false from rfl, show ((6 : Int) == 5) = false from rfl, show ((6 : Int) == 7) = false from rfl, Bool.false_eq_true, if_false] at htx
      obtain ⟨u, rfl, hu⟩ := htx
      simp only [show ((6 : Int) == 6) = true from rfl, Bool.true_or, if_true] at hnest
      simp only at hsub hc
      obtain ⟨st, wt, nd, out⟩ := p
      simp only at h0 hc hnest
      rw [List.cons_append] at hd
      have r1 := Ha (N := N) hb' (by omega) (p := ⟨st, wt, nd, out⟩) (q := inA st out (L8 []) 1 (nd + 1)) (c := 91) hw (by decide) (by decide) hd fun pos => by
        rw [SQ 91 (.inl rfl) (Qp hwant rfl), if_pos rfl, Sw (by omega), if_neg (by omega)]; rfl
      have hd2 : l.drop (i + w.length + 1) = u ++ r := by
        have := Dw (a := w ++ [91]) (b := u ++ r) (by simpa using hd)
        simpa [Nat.add_assoc] using this
      have r2 := TE hb' (by omega) ih st out xs true [] _ u r (nd + 1) (fun x hm => ⟨hsub x hm, hx x hm⟩) hu hd2 (fun _ => rfl) (by omega) (by omega) (by omega)
      have e1 : nd + 1 + (Bf xs : Int) = nd + ((1 + Bf xs : Nat) : Int) := by omega
      have e2 : i + w.length + 1 + u.length = i + w.length + (91 :: u).length := by simp; omega
      rw [e1, e2] at r2
      rw [← M9 st out _ wt] at r2
      exact r1.trans r2
    | obj ks xs hl hdk hx =>
      rw [TxV] at htx
      simp only [show ((7 : Int) == 1) = false from rfl, show ((7 : Int) == 2) = false from rfl, show ((7 : Int) == 3) = false from rfl, show ((7 : Int) == 4) = false from rfl, show ((7 : Int) == 5) = false from rfl, show ((7 : Int) == 7) = true from rfl, Bool.false_eq_true, if_false, if_true] at htx
      obtain ⟨u, rfl, hu⟩ := htx
      simp only [show ((7 : Int) == 7) = true from rfl, Bool.or_true, if_true] at hnest
      simp only at hsub hc hkl
      obtain ⟨st, wt, nd, out⟩ := p
      simp only at h0 hc hnest
      rw [List.cons_append] at hd
      have r1 := Ha (N := N) hb' (by omega) (p := ⟨st, wt, nd, out⟩) (q := inA st out (GZ [] []) 3 (nd + 1)) (c := 123) hw (by decide) (by decide) hd fun pos => by
        rw [SQ 123 (.inr rfl) (Qp hwant rfl), if_neg (by decide), Sw (by omega), if_neg (by omega)]; rfl
      have hd2 : l.drop (i + w.length + 1) = u ++ r := by
        have := Dw (a := w ++ [123]) (b := u ++ r) (by simpa using hd)
        simpa [Nat.add_assoc] using this
      have hall := ADw hdk
      have r2 := O1 hb' (by omega) (by omega) ih st out ks xs true [] [] _ u r (nd + 1) (fun x hm => ⟨hsub x hm, hx x hm⟩) (fun k hk => ⟨hall k hk, hkl k hk⟩) (by simpa using OV hdk) hu hd2 (fun _ => rfl) (by omega) (by omega) (by omega)
      have e1 : nd + 1 + (Bf xs : Int) = nd + ((1 + Bf xs : Nat) : Int) := by omega
      have e2 : i + w.length + 1 + u.length = i + w.length + (123 :: u).length := by simp; omega
      rw [e1, e2] at r2
      rw [← M9 st out _ wt] at r2
      exact r1.trans r2
end
end Go.VM
namespace Go.VM
section
variable {N : Nat} {l : List UInt8}
theorem MR.vq {X : Option (ApiValue × Int × Int)} {st : List ApiValue} {out v : ApiValue} {p q : Ref14Parser} (h : MR N l X (Nb st out v) q) (hf : p.fail = 0) (ha : q.at_ = p.at_) : VQ N l X st out p (v, q) := ⟨h, by rw [ha]; exact Int.le_refl _, fun _ => hf⟩
end
end Go.VM
namespace Go.VM
theorem AllWs.app {a b : List UInt8} (h : AllWs a) (k : AllWs b) : AllWs (a ++ b) := fun c hc => by
  rcases List.mem_append.1 hc with e | e
  · exact h c e
  · exact k c e
theorem TxI.pre {b : Bool} {xs : List ApiValue} {u w : List UInt8} (hw : AllWs w) (h : TxI b xs u) : TxI b xs (w ++ u) := by
  cases xs with
  | nil =>
    rw [TxI] at h ⊢
    obtain ⟨w', h1, rfl⟩ := h
    exact ⟨w ++ w', hw.app h1, by simp⟩
  | cons x xs =>
    rw [TxI] at h ⊢
    obtain ⟨w1, w2, s, u', h1, h2, rfl, h3, h4⟩ := h
    refine ⟨w ++ w1, w2, s, u', hw.app h1, h2, ?_, h3, h4⟩
    cases b <;> simp
theorem TxM.pre {b : Bool} {ks : List (List UInt8)} {xs : List ApiValue} {u w : List UInt8} (hw : AllWs w) (h : TxM b ks xs u) : TxM b ks xs (w ++ u) := by
  cases ks with
  | nil =>
    cases xs with
    | nil =>
      rw [TxM] at h ⊢
      obtain ⟨w', h1, rfl⟩ := h
      exact ⟨w ++ w', hw.app h1, by simp⟩
    | cons x xs => simp [TxM] at h
  | cons k ks =>
    cases xs with
    | nil => simp [TxM] at h
    | cons x xs =>
      rw [TxM] at h ⊢
      obtain ⟨w1, w2, w3, w4, s, u', h1, h2, h3, h4, rfl, h5, h6⟩ := h
      refine ⟨w ++ w1, w2, w3, w4, s, u', hw.app h1, h2, h3, h4, ?_, h5, h6⟩
      cases b <;> simp
section
variable {N : Nat} {l : List UInt8}
theorem AFx {xs : List ApiValue} {u : List UInt8} (h : TxI true xs u) : TxV ⟨6, [], [], xs⟩ (91 :: u) := by
  rw [TxV]
  simp only [show ((6 : Int) == 1) = false from rfl, show ((6 : Int) == 2) = false from rfl, show ((6 : Int) == 3) = false from rfl, show ((6 : Int) == 4) = false from rfl, show ((6 : Int) == 5) = false from rfl, show ((6 : Int) == 7) = false from rfl, Bool.false_eq_true, if_false]
  exact ⟨u, rfl, h⟩
theorem AFl {ks : List (List UInt8)} {xs : List ApiValue} {u : List UInt8} (h : TxM true ks xs u) : TxV ⟨7, [], ks, xs⟩ (123 :: u) := by
  rw [TxV]
  simp only [show ((7 : Int) == 1) = false from rfl, show ((7 : Int) == 2) = false from rfl, show ((7 : Int) == 3) = false from rfl, show ((7 : Int) == 4) = false from rfl, show ((7 : Int) == 5) = false from rfl, show ((7 : Int) == 7) = true from rfl, Bool.false_eq_true, if_false, if_true]
  exact ⟨u, rfl, h⟩
theorem AGU (xs : List ApiValue) : wrV ⟨6, [], [], xs⟩ = 91 :: (wrI true xs ++ [93]) := by rw [wrV]; rfl
theorem AHO (ks : List (List UInt8)) (xs : List ApiValue) : wrV ⟨7, [], ks, xs⟩ = 123 :: (wrM true ks xs ++ [125]) := by rw [wrV]; rfl
theorem Me {v : ApiValue} (h : (v.kind == 6) = false ∧ (v.kind == 7) = false) (hs : Shp N v) : TxV v (wrV v) := by
  cases hs with
  | word k hk => rcases hk with rfl | rfl | rfl <;> (rw [TxV, wrV]; rfl)
  | num s _ => rw [TxV, wrV]; rfl
  | str s _ => rw [TxV, wrV]; rfl
  | arr xs _ => cases h.1
  | obj ks xs _ _ _ => cases h.2
theorem Un : ∀ (e : Nat) (v : ApiValue), okW e v → E5 N v = true → TxV v (wrV v)
  | 0, v, h, _ => by have := h.pos; omega
  | e + 1, v, h, hs => by
    have hsub := h.sub
    cases Jw hs with
    | word k hk => exact Me (N := N) ⟨by rcases hk with rfl | rfl | rfl <;> rfl, by rcases hk with rfl | rfl | rfl <;> rfl⟩ (.word k hk)
    | num s hn => exact Me (N := N) ⟨rfl, rfl⟩ (.num s hn)
    | str s hn => exact Me (N := N) ⟨rfl, rfl⟩ (.str s hn)
    | arr xs hx =>
      simp only at hsub
      rw [AGU]
      refine AFx ?_
      have key : ∀ (b : Bool) (ys : List ApiValue), (∀ y, y ∈ ys → okW e y ∧ E5 N y = true) → TxI b ys (wrI b ys ++ [93]) := by
        intro b ys
        induction ys generalizing b with
        | nil => intro _; rw [TxI, wrI]; exact ⟨[], Fh, rfl⟩
        | cons y ys ih =>
          intro hy
          rw [TxI, wrI]
          refine ⟨[], [], wrV y, wrI false ys ++ [93], Fh, Fh, ?_, Un e y (hy y (by simp)).1 (hy y (by simp)).2, ih false fun z hz => hy z (by simp [hz])⟩
          cases b <;> simp
      exact key true xs fun y hy => ⟨hsub y hy, hx y hy⟩
    | obj ks xs hl hd hx =>
      simp only at hsub
      rw [AHO]
      refine AFl ?_
      have key : ∀ (b : Bool) (ys : List ApiValue) (qs : List (List UInt8)), qs.length = ys.length → (∀ y, y ∈ ys → okW e y ∧ E5 N y = true) → TxM b qs ys (wrM b qs ys ++ [125]) := by
        intro b ys
        induction ys generalizing b with
        | nil =>
          intro qs hq _
          have : qs = [] := List.length_eq_zero_iff.1 (by simpa using hq)
          subst this
          rw [TxM, wrM]
          · exact ⟨[], Fh, rfl⟩
          · intros; simp_all
        | cons y ys ih =>
          intro qs hq hy
          cases qs with
          | nil => simp at hq
          | cons q qs =>
            rw [TxM, wrM]
            refine ⟨[], [], [], [], wrV y, wrM false qs ys ++ [125], Fh, Fh, Fh, Fh, ?_, Un e y (hy y (by simp)).1 (hy y (by simp)).2, ih false qs (by simpa using hq) fun z hz => hy z (by simp [hz])⟩
            cases b <;> simp
      exact key true xs ks hl fun y hy => ⟨hsub y hy, hx y hy⟩
theorem AIB {w : List UInt8} (h : AllWs w) : Stop w := by
  cases w with
  | nil => exact AEd
  | cons c w => exact Ij (by unfold TF; rw [h c (by simp)]; simp)
theorem Pw {e : Nat} {v : ApiValue} {w t w' : List UInt8} (hv : okW e v) (hs : E5 N v = true) (hn : Gx v ≤ 64) (hc : EA v ≤ 20000) (hw : AllWs w) (hw' : AllWs w') (ht : TxV v t) (hl : (w ++ (t ++ w')).length ≤ 1048576) (hN : 2000000 ≤ N) (hN2 : N ≤ 1099511627776) :
    Ce N (w ++ (t ++ w')) = some (v, ((w ++ (t ++ w')).length : Int), 0) := by
  unfold Ce
  rw [if_neg (by omega), if_neg (by omega)]
  generalize hL : w ++ (t ++ w') = l at *
  have hrun := YC (N := N) (l := l) hl (by omega) e v 0 ⟨[], 0, 0, DY⟩ w t w' hv hs hw ht (by rw [List.drop_zero, hL]) (AIB hw') (.inl rfl) (by simpa using hn) (by decide) (by simp only []; omega)
  obtain ⟨E, h1, h2⟩ := hrun N (by omega)
  have hlen : w.length + (t.length + w'.length) = l.length := by rw [← hL]; simp
  obtain ⟨E, rfl⟩ : ∃ k, E = k + 1 := ⟨E - 1, by omega⟩
  have hd : CX { (⟨[], 0, 0, DY⟩ : JPsr) with nodes := (0 : Int) + EA v } v = ⟨[], 6, (0 : Int) + EA v, v⟩ := rfl
  rw [show ((0 : Nat) : Int) = 0 from rfl] at h2
  rw [h2, hd, TI (by omega) (by omega) E _ (by omega)]
  have hnx : Kk N l (0 + w.length + t.length) = (ApiToken.mk 1 [] ((l.length : Nat) : Int), ((l.length : Nat) : Int), 0) := by
    have hdrop : l.drop (0 + w.length + t.length) = w' ++ [] := by
      rw [← hL, List.append_nil, show 0 + w.length + t.length = w.length + t.length by omega, ← List.drop_drop, List.drop_left, List.drop_left]
    rw [NF hdrop hw' (fun c r e => by cases e)]
    show (ApiToken.mk 1 [] _, _, (0 : Int)) = _
    have : 0 + w.length + t.length + w'.length = l.length := by omega
    rw [this]
  rw [hnx, if_neg (by simp), Ow]
  unfold CE
  rw [if_neg (by simp [Dk])]
  simp
end
end Go.VM
namespace Go.VM
def J8 (c : UInt8) : Bool := c == 44 || c == 58 || c == 91 || c == 93 || c == 123 || c == 125
section
variable {N : Nat} {l : List UInt8} {sp : List Int}
def SRun (N : Nat) (l : List UInt8) (sp : List Int) (i : Nat) (ins : Bool) (o : List UInt8) (j : Nat) (ins' : Bool) : Prop :=
  ∀ (k2 : List Int → Option (List UInt8)) (k : Nat) (out : List Int), l.length < k + i → out.length ≤ 3 * i → ∃ k', l.length < k' + j ∧ out.length + o.length ≤ 3 * j ∧ Ay N l sp k2 k out ins (i : Int) = Ay N l sp k2 k' (out ++ o.map AL) ins' (j : Int)
theorem SRun.trans {i j k : Nat} {a b c : Bool} {o o' : List UInt8} (h : SRun N l sp i a o j b) (h2 : SRun N l sp j b o' k c) : SRun N l sp i a (o ++ o') k c := fun k2 f out hf ho => by
  obtain ⟨f1, e1, e2, e3⟩ := h k2 f out hf ho
  obtain ⟨f2, g1, g2, g3⟩ := h2 k2 f1 (out ++ o.map AL) e1 (by simpa using e2)
  refine ⟨f2, g1, ?_, ?_⟩
  · simp only [List.length_append, List.length_map] at g2 ⊢; omega
  · rw [e3, g3]; simp
theorem SRun.nil (i : Nat) (a : Bool) : SRun N l sp i a [] i a := fun k2 k out hf ho => ⟨k, hf, by simpa using ho, by simp⟩
theorem ABk {s : Nat} (hs : s = 1 ∨ s = 4) {k : Int} (hk : 0 ≤ k ∧ k ≤ 255) : ∃ c, idx ([32, 9, 13, 10] : List UInt8) (BM .i64 (H9 .i64 k s) 3) = some c ∧ wsB c = true := by
  have e1 : ((List.range 256).all fun n => match idx ([32, 9, 13, 10] : List UInt8) (BM .i64 (H9 .i64 (n : Int) 1) 3) with | some c => wsB c | none => false) = true := by kernel_rfl
  have e4 : ((List.range 256).all fun n => match idx ([32, 9, 13, 10] : List UInt8) (BM .i64 (H9 .i64 (n : Int) 4) 3) with | some c => wsB c | none => false) = true := by kernel_rfl
  obtain ⟨n, rfl⟩ := Int.eq_ofNat_of_zero_le hk.1
  have hn : n ∈ List.range 256 := by rw [List.mem_range]; omega
  rcases hs with rfl | rfl
  · have := List.all_eq_true.1 e1 n hn
    cases h : idx ([32, 9, 13, 10] : List UInt8) (BM .i64 (H9 .i64 ((n : Nat) : Int) ((1 : Nat) : Int)) 3) with
    | none => rw [show ((1 : Nat) : Int) = 1 from rfl] at h; rw [h] at this; cases this
    | some c => rw [show ((1 : Nat) : Int) = 1 from rfl] at h; rw [h] at this; exact ⟨c, rfl, this⟩
  · have := List.all_eq_true.1 e4 n hn
    cases h : idx ([32, 9, 13, 10] : List UInt8) (BM .i64 (H9 .i64 ((n : Nat) : Int) ((4 : Nat) : Int)) 3) with
    | none => rw [show ((4 : Nat) : Int) = 4 from rfl] at h; rw [h] at this; cases this
    | some c => rw [show ((4 : Nat) : Int) = 4 from rfl] at h; rw [h] at this; exact ⟨c, rfl, this⟩
theorem ACB (c : UInt8) : ((AL c == 44) || ((AL c == 58) || ((AL c == 91) || ((AL c == 93) || ((AL c == 123) || (AL c == 125)))))) = J8 c :=
  Co (f := fun n => (((n : Int) == 44) || (((n : Int) == 58) || (((n : Int) == 91) || (((n : Int) == 93) || (((n : Int) == 123) || ((n : Int) == 125))))))) (g := fun n => J8 (UInt8.ofNat n)) (by kernel_rfl) c |>.trans (by simp)
def MB (N : Nat) (l : List UInt8) (sp : List Int) (k2 : List Int → Option (List UInt8)) (k : Nat) (out : List Int) (c : UInt8) (i : Int) (j20 : Bool) (j24 : Int) : Option (List UInt8) :=
  AR (fun j33 : List Int => grd (Ba (j33.length + 1) 1) (if ((BM .i64 j24 8) == 8) = true then Option.bind (idx ([32, 9, 13, 10] : List UInt8) (BM .i64 (H9 .i64 j24 4) 3)) fun x38 => grd (Ba ((j33 ++ [(AL c)]).length + 1) 1) (Ay N l sp k2 k ((j33 ++ [(AL c)]) ++ [(AL x38)]) j20 (wr .i64 (i + 1))) else Ay N l sp k2 k (j33 ++ [(AL c)]) j20 (wr .i64 (i + 1)))) fun k34 =>
  if ((BM .i64 j24 1) == 1) = true then Option.bind (idx ([32, 9, 13, 10] : List UInt8) (BM .i64 (H9 .i64 j24 1) 3)) fun x37 => grd (Ba (out.length + 1) 1) (k34 (out ++ [(AL x37)])) else k34 out
theorem O0 {n : Nat} (h : n ≤ 4000000) : Ba n 1 := by unfold Ba; omega
theorem ADS (hb : l.length ≤ 1000000) {k2 : List Int → Option (List UInt8)} {k : Nat} {out : List Int} {c : UInt8} {i : Nat} (hi : i < l.length) (ho : out.length ≤ 3 * i) {j20 : Bool} {j24 : Int} {a b : UInt8}
    (ha : idx ([32, 9, 13, 10] : List UInt8) (BM .i64 (H9 .i64 j24 1) 3) = some a) (hb' : idx ([32, 9, 13, 10] : List UInt8) (BM .i64 (H9 .i64 j24 4) 3) = some b) :
    MB N l sp k2 k out c (i : Int) j20 j24 = Ay N l sp k2 k (out ++ ((if (BM .i64 j24 1 == 1) = true then [a] else []) ++ c :: (if (BM .i64 j24 8 == 8) = true then [b] else [])).map AL) j20 ((i + 1 : Nat) : Int) := by
  unfold MB
  simp only [AP]
  have e : wr .i64 ((i : Int) + 1) = ((i + 1 : Nat) : Int) := by rw [Ar (by omega)]; simp
  rw [e, ha, hb', Option.bind_some]
  cases BM .i64 j24 1 == 1
  · simp only [Bool.false_eq_true, if_false]
    rw [AO (O0 (by omega))]
    cases BM .i64 j24 8 == 8
    · simp
    · simp only [if_true, Option.bind_some]
      rw [AO (O0 (by simp; omega))]
      simp
  · simp only [if_true]
    rw [AO (O0 (by omega)), AO (O0 (by simp; omega))]
    cases BM .i64 j24 8 == 8
    · simp
    · simp only [if_true, Option.bind_some]
      rw [AO (O0 (by simp; omega))]
      simp
theorem AA0 {k2 : List Int → Option (List UInt8)} {k : Nat} {out : List Int} {c : UInt8} {i : Nat} {r : List UInt8} (h : l.drop i = c :: r) (hlt : i < l.length) : Ay N l sp k2 (k + 1) out false (i : Int) = (if J8 c = true then (if decide ((sp.length : Int) > 0) = true then grd ((sp.length : Int) ≠ 0) (Option.bind (idx sp ((i : Int).tmod (sp.length : Int))) fun x32 => MB N l sp k2 k out c (i : Int) (AL c == 34) (wr .i64 x32)) else MB N l sp k2 k out c (i : Int) (AL c == 34) 0) else MB N l sp k2 k out c (i : Int) (AL c == 34) 0) := by
  have c0 : decide ((i : Int) < (l.length : Int)) = true := by simp; omega
  rw [Ay, if_pos c0]
  simp only [AP]
  rw [head_drop h, Option.bind_some]
  have hs := ACB c
  unfold MB
  simp only [AP, Bool.false_eq_true, if_false, Bool.not_false]
  cases h44 : AL c == 44
  · cases h58 : AL c == 58
    · cases h91 : AL c == 91
      · cases h93 : AL c == 93
        · cases h123 : AL c == 123
          · rw [h44, h58, h91, h93, h123] at hs
            simp only [Bool.false_or] at hs
            rw [← hs]
            cases AL c == 125 <;> cases AL c == 34 <;> simp only [Bool.false_eq_true, if_false, if_true]
          · rw [h123] at hs; simp only [Bool.or_true, Bool.true_or] at hs; rw [← hs]; cases AL c == 34 <;> simp only [Bool.false_eq_true, if_false, if_true]
        · rw [h93] at hs; simp only [Bool.or_true, Bool.true_or] at hs; rw [← hs]; cases AL c == 34 <;> simp only [Bool.false_eq_true, if_false, if_true]
      · rw [h91] at hs; simp only [Bool.or_true, Bool.true_or] at hs; rw [← hs]; cases AL c == 34 <;> simp only [Bool.false_eq_true, if_false, if_true]
    · rw [h58] at hs; simp only [Bool.or_true, Bool.true_or] at hs; rw [← hs]; cases AL c == 34 <;> simp only [Bool.false_eq_true, if_false, if_true]
  · rw [h44] at hs; simp only [Bool.or_true, Bool.true_or] at hs; rw [← hs]; cases AL c == 34 <;> simp only [Bool.false_eq_true, if_false, if_true]
theorem b34 (c : UInt8) : (AL c == 34) = (c == 34) := Co (f := fun n => ((n : Int) == 34)) (g := fun n => (UInt8.ofNat n == 34)) (by kernel_rfl) c |>.trans (by simp)
theorem b92 (c : UInt8) : (AL c == 92) = (c == 92) := Co (f := fun n => ((n : Int) == 92)) (g := fun n => (UInt8.ofNat n == 92)) (by kernel_rfl) c |>.trans (by simp)
theorem Gw (hb : l.length ≤ 1000000) (hsp : ∀ a, a ∈ sp → 0 ≤ a ∧ a ≤ 255) {i : Nat} {c : UInt8} {r : List UInt8} (h : l.drop i = c :: r) (hi : i ≤ l.length) : ∃ w w', AllWs w ∧ AllWs w' ∧ (J8 c = false → w = [] ∧ w' = []) ∧ SRun N l sp i false (w ++ c :: w') (i + 1) (c == 34) := by
  have hlen := BG h hi
  simp only [List.length_cons] at hlen
  have hj : ∃ j24 : Int, (∀ (k2 : List Int → Option (List UInt8)) (k : Nat) (out : List Int), Ay N l sp k2 (k + 1) out false (i : Int) = MB N l sp k2 k out c (i : Int) (c == 34) j24) ∧ 0 ≤ j24 ∧ j24 ≤ 255 ∧ (J8 c = false → j24 = 0) := by
    cases hs : J8 c
    · refine ⟨0, fun k2 k out => ?_, by omega, by omega, fun _ => rfl⟩
      rw [AA0 h (by omega), hs, if_neg (by decide), b34]
    · by_cases hz : sp = []
      · refine ⟨0, fun k2 k out => ?_, by omega, by omega, fun h => by cases h⟩
        rw [AA0 h (by omega), hs, if_pos rfl, hz, if_neg (by simp), b34]
      · have hp : 0 < sp.length := List.length_pos_iff.2 hz
        have hm : i % sp.length < sp.length := Nat.mod_lt _ hp
        have e : idx sp ((i : Int).tmod (sp.length : Int)) = some (sp[i % sp.length]) := by
          rw [show (i : Int).tmod (sp.length : Int) = ((i % sp.length : Nat) : Int) from rfl, K8, List.getElem?_eq_getElem hm]
        have hv := hsp _ (List.getElem_mem hm)
        refine ⟨sp[i % sp.length], fun k2 k out => ?_, hv.1, hv.2, fun h => by cases h⟩
        rw [AA0 h (by omega), hs, if_pos rfl, if_pos (by simp; omega), AO (by omega), e, Option.bind_some, Ar (by omega), b34]
  obtain ⟨j24, hj1, hj2, hj3, hj4⟩ := hj
  obtain ⟨a, ha1, ha2⟩ := ABk (s := 1) (.inl rfl) ⟨hj2, hj3⟩
  obtain ⟨b, hb1, hb2⟩ := ABk (s := 4) (.inr rfl) ⟨hj2, hj3⟩
  rw [show ((1 : Nat) : Int) = 1 from rfl] at ha1
  rw [show ((4 : Nat) : Int) = 4 from rfl] at hb1
  refine ⟨if (BM .i64 j24 1 == 1) = true then [a] else [], if (BM .i64 j24 8 == 8) = true then [b] else [], ?_, ?_, ?_, ?_⟩
  · split
    · intro x hx; simp only [List.mem_singleton] at hx; rw [hx]; exact ha2
    · exact Fh
  · split
    · intro x hx; simp only [List.mem_singleton] at hx; rw [hx]; exact hb2
    · exact Fh
  · intro hs
    rw [hj4 hs]
    exact ⟨rfl, rfl⟩
  · intro k2 k out hk ho
    obtain ⟨k, rfl⟩ : ∃ k', k = k' + 1 := ⟨k - 1, by omega⟩
    refine ⟨k, by omega, ?_, ?_⟩
    · simp only [List.length_append, List.length_cons]
      have e1 : (if (BM .i64 j24 1 == 1) = true then [a] else []).length ≤ 1 := by split <;> simp
      have e2 : (if (BM .i64 j24 8 == 8) = true then [b] else []).length ≤ 1 := by split <;> simp
      omega
    · rw [hj1, ADS hb (by omega) ho ha1 hb1]
theorem ABe (hb : l.length ≤ 1000000) {i : Nat} {c : UInt8} {r : List UInt8} (h : l.drop i = c :: r) (hi : i ≤ l.length) (hc : c ≠ 92) : SRun N l sp i true [c] (i + 1) (!(c == 34)) := by
  have hlen := BG h hi
  simp only [List.length_cons] at hlen
  intro k2 k out hk ho
  obtain ⟨k, rfl⟩ : ∃ k', k = k' + 1 := ⟨k - 1, by omega⟩
  refine ⟨k, by omega, by simp; omega, ?_⟩
  have c0 : decide ((i : Int) < (l.length : Int)) = true := by simp; omega
  have e92 : (AL c == 92) = false := by rw [b92]; simpa using hc
  have e : wr .i64 ((i : Int) + 1) = ((i + 1 : Nat) : Int) := by rw [Ar (by omega)]; simp
  have z1 : (BM .i64 0 1 == 1) = false := by decide
  have z8 : (BM .i64 0 8 == 8) = false := by decide
  rw [Ay, if_pos c0]
  simp only [AP]
  rw [head_drop h, Option.bind_some]
  simp only [e92, Bool.false_eq_true, if_false, if_true, z1, z8, Bool.not_true, e]
  rw [← b34]
  cases AL c == 34
  · simp only [Bool.false_eq_true, if_false]
    rw [AO (O0 (by omega))]; simp
  · simp only [if_true]
    rw [AO (O0 (by omega))]; simp
theorem AGy (hb : l.length ≤ 1000000) {i : Nat} {d : UInt8} {r : List UInt8} (h : l.drop i = 92 :: d :: r) (hi : i ≤ l.length) : SRun N l sp i true [92, d] (i + 2) true := by
  have hlen := BG h hi
  simp only [List.length_cons] at hlen
  intro k2 k out hk ho
  obtain ⟨k, rfl⟩ : ∃ k', k = k' + 1 := ⟨k - 1, by omega⟩
  refine ⟨k, by omega, by simp; omega, ?_⟩
  have c0 : decide ((i : Int) < (l.length : Int)) = true := by simp; omega
  have e : wr .i64 ((i : Int) + 1) = ((i + 1 : Nat) : Int) := by rw [Ar (by omega)]; simp
  have e2 : wr .i64 (((i + 1 : Nat) : Int) + 1) = ((i + 2 : Nat) : Int) := by rw [Ar (by omega)]; omega
  have h2 : l.drop (i + 1) = d :: r := by rw [← List.drop_drop, h]; rfl
  have e92 : (AL (92 : UInt8) == 92) = true := by decide
  rw [Ay, if_pos c0]
  simp only [AP]
  rw [head_drop h, Option.bind_some]
  simp only [e92, Bool.false_eq_true, if_false, if_true, e]
  rw [head_drop h2, Option.bind_some, AO (O0 (by omega)), e2]
  simp
end
end Go.VM
namespace Go.VM
def Oh (c : UInt8) : Bool := !J8 c && !(c == 34)
theorem AGN (c : UInt8) : (!Ca c || Oh c) = true := Co (f := fun n => (!Ca (UInt8.ofNat n) || Oh (UInt8.ofNat n))) (g := fun _ => true) (by kernel_rfl) c |> fun h => by simpa using h
theorem AAP {c : UInt8} (h : Ca c = true) : Oh c = true := by have := AGN c; rw [h] at this; simpa using this
theorem AFM {N : Nat} {s : List UInt8} (h : Si N s = true) : ∀ c, c ∈ s → Oh c = true := by
  unfold Si TP at h
  by_cases hn : s ≠ [] ∧ Ci s = s.length
  · obtain ⟨sg, W, F, FR, P, EX, hp⟩ := OE hn.1 hn.2
    have dig : ∀ {a : List UInt8}, a.all Ca = true → ∀ c, c ∈ a → Oh c = true := fun h c hc => AAP (List.all_eq_true.1 h c hc)
    have pw : ∀ c, c ∈ P → Oh c = true := by
      rcases hp.pw with e | ⟨sn, D, e, hs, _, hd⟩
      · rw [e]; simp
      · intro c hc
        rw [e] at hc
        rcases List.mem_append.1 hc with hc | hc
        · rcases hs with rfl | rfl | rfl
          · cases hc
          · simp only [List.mem_singleton] at hc; rw [hc]; decide
          · simp only [List.mem_singleton] at hc; rw [hc]; decide
        · exact dig hd c hc
    intro c hc
    rw [hp.eq] at hc
    simp only [List.mem_append] at hc
    rcases hc with hc | hc | hc | hc
    · rcases hp.sg with e | e
      · rw [e] at hc; cases hc
      · rw [e] at hc; simp only [List.mem_singleton] at hc; rw [hc]; decide
    · exact dig hp.Wd c hc
    · rcases hp.fr with ⟨e1, e2⟩ | e
      · rw [e1] at hc; cases hc
      · rw [e] at hc
        rcases List.mem_cons.1 hc with rfl | hc
        · decide
        · exact dig hp.Fd c hc
    · rcases hp.ex with ⟨e1, e2⟩ | e | e
      · rw [e1] at hc; cases hc
      · rw [e] at hc
        rcases List.mem_cons.1 hc with rfl | hc
        · decide
        · exact pw c hc
      · rw [e] at hc
        rcases List.mem_cons.1 hc with rfl | hc
        · decide
        · exact pw c hc
  · rw [if_neg hn] at h; simp at h
section
variable {N : Nat} {l : List UInt8} {sp : List Int}
theorem QL (hb : l.length ≤ 1000000) (hsp : ∀ a, a ∈ sp → 0 ≤ a ∧ a ≤ 255) : ∀ (s r : List UInt8) (i : Nat), (∀ c, c ∈ s → Oh c = true) → l.drop i = s ++ r → i ≤ l.length → SRun N l sp i false s (i + s.length) false
  | [], r, i, _, _, _ => SRun.nil i false
  | c :: s, r, i, h, hd, hi => by
    have hc := h c (by simp)
    unfold Oh at hc
    rw [Bool.and_eq_true, Bool.not_eq_true', Bool.not_eq_true'] at hc
    obtain ⟨w, w', _, _, h0, h1⟩ := Gw (N := N) hb hsp hd hi
    obtain ⟨rfl, rfl⟩ := h0 hc.1
    rw [hc.2] at h1
    have hlen := BG hd hi
    simp only [List.length_append, List.length_cons] at hlen
    have h2 : l.drop (i + 1) = s ++ r := by rw [← List.drop_drop, hd]; rfl
    have := h1.trans (QL hb hsp s r (i + 1) (fun x hx => h x (by simp [hx])) h2 (by omega))
    simpa [Nat.add_assoc, Nat.add_comm, Nat.add_left_comm] using this
theorem run_in (hb : l.length ≤ 1000000) : ∀ (s r : List UInt8) (i : Nat), (∀ c, c ∈ s → (c == 92 || c == 34) = false) → l.drop i = s ++ r → i ≤ l.length → SRun N l sp i true s (i + s.length) true
  | [], r, i, _, _, _ => SRun.nil i true
  | c :: s, r, i, h, hd, hi => by
    have hc := h c (by simp)
    rw [Bool.or_eq_false_iff] at hc
    have hlen := BG hd hi
    simp only [List.length_append, List.length_cons] at hlen
    have h1 := ABe (N := N) (sp := sp) hb hd hi (by simpa using hc.1)
    rw [hc.2] at h1
    have h2 : l.drop (i + 1) = s ++ r := by rw [← List.drop_drop, hd]; rfl
    have := h1.trans (run_in hb s r (i + 1) (fun x hx => h x (by simp [hx])) h2 (by omega))
    simpa [Nat.add_assoc, Nat.add_comm, Nat.add_left_comm] using this
theorem AGu (c : UInt8) : (∃ x, qB c = [x] ∧ (x == 92 || x == 34) = false) ∨ ∃ d s, qB c = 92 :: d :: s ∧ (∀ x, x ∈ s → (x == 92 || x == 34) = false) := by
  have h : ((match qB c with | [x] => !(x == 92 || x == 34) | y :: d :: s => y == 92 && s.all fun x => !(x == 92 || x == 34) | _ => false) : Bool) = true :=
    Co (f := fun n => (match qN n with | [x] => !(x == 92 || x == 34) | y :: d :: s => y == 92 && s.all fun x => !(x == 92 || x == 34) | _ => false)) (g := fun _ => true) (by kernel_rfl) c
  match hq : qB c, h with
  | [], h => cases h
  | [x], h => left; exact ⟨x, rfl, by simpa using h⟩
  | y :: d :: s, h =>
    right
    simp only [Bool.and_eq_true, beq_iff_eq, List.all_eq_true] at h
    exact ⟨d, s, by rw [h.1], fun x hx => by have := h.2 x hx; simpa using this⟩
theorem AL2 (hb : l.length ≤ 1000000) (c : UInt8) (r : List UInt8) (i : Nat) (hd : l.drop i = qB c ++ r) (hi : i ≤ l.length) : SRun N l sp i true (qB c) (i + (qB c).length) true := by
  rcases AGu c with ⟨x, e, h⟩ | ⟨d, s, e, h⟩
  · rw [e] at hd ⊢
    exact run_in hb [x] r i (fun y hy => by simp only [List.mem_singleton] at hy; rw [hy]; exact h) hd hi
  · rw [e] at hd ⊢
    have hlen := BG hd hi
    simp only [List.cons_append, List.length_append, List.length_cons] at hlen
    have h1 := AGy (N := N) (sp := sp) hb hd hi
    have h2 : l.drop (i + 2) = s ++ r := by rw [← List.drop_drop, hd]; rfl
    have := h1.trans (run_in hb s r (i + 2) h h2 (by omega))
    simpa [Nat.add_assoc, Nat.add_comm, Nat.add_left_comm] using this
theorem AF0 (hb : l.length ≤ 1000000) : ∀ (s r : List UInt8) (i : Nat), l.drop i = s.flatMap qB ++ r → i ≤ l.length → SRun N l sp i true (s.flatMap qB) (i + (s.flatMap qB).length) true
  | [], r, i, _, _ => SRun.nil i true
  | c :: s, r, i, hd, hi => by
    rw [List.flatMap_cons] at hd ⊢
    rw [List.append_assoc] at hd
    have hlen := BG hd hi
    simp only [List.length_append] at hlen
    have h1 := AL2 (N := N) (sp := sp) hb c _ i hd hi
    have h2 : l.drop (i + (qB c).length) = s.flatMap qB ++ r := Dw hd
    have := h1.trans (AF0 hb s r (i + (qB c).length) h2 (by omega))
    rw [List.length_append, ← Nat.add_assoc]
    exact this
theorem Sk (hb : l.length ≤ 1000000) (hsp : ∀ a, a ∈ sp → 0 ≤ a ∧ a ≤ 255) (s r : List UInt8) (i : Nat) (hd : l.drop i = BI s ++ r) (hi : i ≤ l.length) : SRun N l sp i false (BI s) (i + (BI s).length) false := by
  have hlen := BG hd hi
  have e : BI s ++ r = 34 :: (s.flatMap qB ++ 34 :: r) := by simp [BI]
  have el : (BI s).length = 1 + ((s.flatMap qB).length + 1) := by simp [BI]; omega
  rw [List.length_append, el] at hlen
  rw [e] at hd
  obtain ⟨w, w', _, _, h0, h1⟩ := Gw (N := N) hb hsp hd hi
  obtain ⟨rfl, rfl⟩ := h0 (by decide)
  have h2 : l.drop (i + 1) = s.flatMap qB ++ 34 :: r := by rw [← List.drop_drop, hd]; rfl
  have h3 := AF0 (N := N) (sp := sp) hb s _ (i + 1) h2 (by omega)
  have h4 : l.drop (i + 1 + (s.flatMap qB).length) = 34 :: r := Dw h2
  have h5 := ABe (N := N) (sp := sp) hb h4 (by omega) (by decide)
  have := (h1.trans h3).trans h5
  rw [el, ← Nat.add_assoc, ← Nat.add_assoc]
  exact this
theorem SRun.cast {i j j' : Nat} {a b : Bool} {o o' : List UInt8} (h : SRun N l sp i a o j b) (ho : o = o') (hj : j = j') : SRun N l sp i a o' j' b := by subst ho; subst hj; exact h
def SpV (N : Nat) (l : List UInt8) (sp : List Int) (v : ApiValue) : Prop := ∀ (r : List UInt8) (i : Nat), l.drop i = wrV v ++ r → i ≤ l.length → ∃ w t w', AllWs w ∧ AllWs w' ∧ TxV v t ∧ SRun N l sp i false (w ++ (t ++ w')) (i + (wrV v).length) false
theorem WC (hb : l.length ≤ 1000000) (hsp : ∀ a, a ∈ sp → 0 ≤ a ∧ a ≤ 255) : ∀ (xs : List ApiValue) (b : Bool) (r : List UInt8) (i : Nat), (∀ x, x ∈ xs → SpV N l sp x) → l.drop i = wrI b xs ++ 93 :: r → i ≤ l.length → ∃ u w, TxI b xs u ∧ AllWs w ∧ SRun N l sp i false (u ++ w) (i + ((wrI b xs).length + 1)) false
  | [], b, r, i, _, hd, hi => by
    rw [wrI] at hd ⊢
    obtain ⟨w, w', h1, h2, _, h4⟩ := Gw (N := N) hb hsp hd hi
    exact ⟨w ++ [93], w', by rw [TxI]; exact ⟨w, h1, rfl⟩, h2, by simpa using h4⟩
  | x :: xs, b, r, i, hx, hd, hi => by
    have hlen := BG hd hi
    rw [wrI] at hd hlen ⊢
    have key : ∀ (j : Nat), l.drop j = wrV x ++ (wrI false xs ++ 93 :: r) → j ≤ l.length → j + (wrV x).length ≤ l.length → ∃ w t w' u w2, AllWs w ∧ AllWs w' ∧ AllWs w2 ∧ TxV x t ∧ TxI false xs u ∧ SRun N l sp j false (w ++ (t ++ (w' ++ (u ++ w2)))) (j + ((wrV x).length + ((wrI false xs).length + 1))) false := fun j hd hj hj2 => by
      obtain ⟨w, t, w', a1, a2, a3, a4⟩ := hx x (by simp) _ j hd hj
      obtain ⟨u, w2, b1, b2, b3⟩ := WC hb hsp xs false r (j + (wrV x).length) (fun y hy => hx y (by simp [hy])) (Dw hd) hj2
      refine ⟨w, t, w', u, w2, a1, a2, b2, a3, b1, ?_⟩
      exact (a4.trans b3).cast (by simp) (by omega)
    cases b
    · simp only [Bool.false_eq_true, if_false, List.append_assoc, List.length_append, List.length_cons, List.length_nil, List.singleton_append, List.cons_append] at hd hlen ⊢
      obtain ⟨c, c', h1, h2, _, h4⟩ := Gw (N := N) hb hsp hd hi
      obtain ⟨w, t, w', u, w2, a1, a2, a3, a4, a5, a6⟩ := key (i + 1) (by rw [← List.drop_drop, hd]; rfl) (by omega) (by omega)
      refine ⟨c ++ 44 :: (c' ++ w) ++ (t ++ (w' ++ u)), w2, ?_, a3, ?_⟩
      · rw [TxI]
        exact ⟨c, c' ++ w, t, w' ++ u, h1, h2.app a1, by simp, a4, a5.pre a2⟩
      · exact (h4.trans a6).cast (by simp) (by omega)
    · simp only [if_true, List.nil_append, List.append_assoc, List.length_append, List.length_cons] at hd hlen ⊢
      obtain ⟨w, t, w', u, w2, a1, a2, a3, a4, a5, a6⟩ := key i hd hi (by omega)
      refine ⟨w ++ (t ++ (w' ++ u)), w2, ?_, a3, ?_⟩
      · rw [TxI]
        exact ⟨w, [], t, w' ++ u, a1, Fh, by simp, a4, a5.pre a2⟩
      · exact a6.cast (by simp) (by omega)
theorem X8 (hb : l.length ≤ 1000000) (hsp : ∀ a, a ∈ sp → 0 ≤ a ∧ a ≤ 255) : ∀ (ks : List (List UInt8)) (xs : List ApiValue) (b : Bool) (r : List UInt8) (i : Nat), ks.length = xs.length → (∀ x, x ∈ xs → SpV N l sp x) → l.drop i = wrM b ks xs ++ 125 :: r → i ≤ l.length → ∃ u w, TxM b ks xs u ∧ AllWs w ∧ SRun N l sp i false (u ++ w) (i + ((wrM b ks xs).length + 1)) false
  | [], [], b, r, i, _, _, hd, hi => by
    have e0 : wrM b [] [] = [] := by rw [wrM]; intros; simp_all
    rw [e0] at hd ⊢
    obtain ⟨w, w', h1, h2, _, h4⟩ := Gw (N := N) hb hsp hd hi
    exact ⟨w ++ [125], w', by rw [TxM]; exact ⟨w, h1, rfl⟩, h2, by simpa using h4⟩
  | k :: ks, x :: xs, b, r, i, hk, hx, hd, hi => by
    have hlen := BG hd hi
    rw [wrM] at hd hlen ⊢
    have key : ∀ (j : Nat), l.drop j = BI k ++ (58 :: (wrV x ++ (wrM false ks xs ++ 125 :: r))) → j ≤ l.length → j + (BI k).length + 1 + (wrV x).length ≤ l.length → ∃ c c' w t w' u w2, AllWs c ∧ AllWs c' ∧ AllWs w ∧ AllWs w' ∧ AllWs w2 ∧ TxV x t ∧ TxM false ks xs u ∧ SRun N l sp j false (BI k ++ (c ++ 58 :: (c' ++ w ++ (t ++ (w' ++ (u ++ w2)))))) (j + ((BI k).length + (1 + ((wrV x).length + ((wrM false ks xs).length + 1))))) false := fun j hd hj hj2 => by
      have q1 := Sk (N := N) hb hsp k _ j hd hj
      have hd2 := Dw hd
      obtain ⟨c, c', h1, h2, _, h4⟩ := Gw (N := N) hb hsp hd2 (by omega)
      have hd3 : l.drop (j + (BI k).length + 1) = wrV x ++ (wrM false ks xs ++ 125 :: r) := by rw [← List.drop_drop, hd2]; rfl
      obtain ⟨w, t, w', a1, a2, a3, a4⟩ := hx x (by simp) _ _ hd3 (by omega)
      obtain ⟨u, w2, b1, b2, b3⟩ := X8 hb hsp ks xs false r (j + (BI k).length + 1 + (wrV x).length) (by simpa using hk) (fun y hy => hx y (by simp [hy])) (Dw hd3) hj2
      refine ⟨c, c', w, t, w', u, w2, h1, h2, a1, a2, b2, a3, b1, ?_⟩
      exact (((q1.trans h4).trans a4).trans b3).cast (by simp) (by omega)
    cases b
    · simp only [Bool.false_eq_true, if_false, List.append_assoc, List.length_append, List.length_cons, List.length_nil, List.singleton_append, List.cons_append] at hd hlen ⊢
      obtain ⟨d, d', g1, g2, _, g4⟩ := Gw (N := N) hb hsp hd hi
      obtain ⟨c, c', w, t, w', u, w2, h1, h2, a1, a2, a3, a4, a5, a6⟩ := key (i + 1) (by rw [← List.drop_drop, hd]; rfl) (by omega) (by omega)
      refine ⟨d ++ 44 :: d' ++ (BI k ++ (c ++ 58 :: (c' ++ w ++ (t ++ (w' ++ u))))), w2, ?_, a3, ?_⟩
      · rw [TxM]
        exact ⟨d, d', c, c' ++ w, t, w' ++ u, g1, g2, h1, h2.app a1, by simp, a4, a5.pre a2⟩
      · exact (g4.trans a6).cast (by simp) (by omega)
    · simp only [if_true, List.nil_append, List.append_assoc, List.length_append, List.length_cons, List.cons_append] at hd hlen ⊢
      obtain ⟨c, c', w, t, w', u, w2, h1, h2, a1, a2, a3, a4, a5, a6⟩ := key i hd hi (by omega)
      refine ⟨BI k ++ (c ++ 58 :: (c' ++ w ++ (t ++ (w' ++ u)))), w2, ?_, a3, ?_⟩
      · rw [TxM]
        exact ⟨[], [], c, c' ++ w, t, w' ++ u, Fh, Fh, h1, h2.app a1, by simp, a4, a5.pre a2⟩
      · exact a6.cast (by simp) (by omega)
theorem L6 (hb : l.length ≤ 1000000) (hsp : ∀ a, a ∈ sp → 0 ≤ a ∧ a ≤ 255) : ∀ (e : Nat) (v : ApiValue), okW e v → E5 N v = true → SpV N l sp v
  | 0, v, h, _ => by have := h.pos; omega
  | e + 1, v, h, hs => by
    have hsub := h.sub
    intro r i hd hi
    have hlen := BG hd hi
    have plain : (v.kind == 6) = false ∧ (v.kind == 7) = false → SRun N l sp i false (wrV v) (i + (wrV v).length) false → ∃ w t w', AllWs w ∧ AllWs w' ∧ TxV v t ∧ SRun N l sp i false (w ++ (t ++ w')) (i + (wrV v).length) false :=
      fun h1 h2 => ⟨[], wrV v, [], Fh, Fh, Me (N := N) h1 (Jw hs), by simpa using h2⟩
    cases Jw hs with
    | word k hk =>
      refine plain ⟨by rcases hk with rfl | rfl | rfl <;> rfl, by rcases hk with rfl | rfl | rfl <;> rfl⟩ (QL hb hsp _ r i ?_ hd hi)
      rcases hk with rfl | rfl | rfl <;> rw [wrV] <;> decide
    | num s hn =>
      refine plain ⟨rfl, rfl⟩ (QL hb hsp _ r i ?_ hd hi)
      rw [show wrV ⟨4, s, [], []⟩ = s by rw [wrV]; rfl]
      exact AFM hn
    | str s hn =>
      refine plain ⟨rfl, rfl⟩ ?_
      have e : wrV ⟨5, s, [], []⟩ = BI s := by rw [wrV]; rfl
      rw [e] at hd ⊢
      exact Sk hb hsp s r i hd hi
    | arr xs hx =>
      simp only at hsub
      rw [AGU] at hd hlen ⊢
      simp only [List.cons_append, List.append_assoc, List.singleton_append, List.length_cons, List.length_append] at hd hlen
      obtain ⟨c, c', h1, h2, _, h4⟩ := Gw (N := N) hb hsp hd hi
      obtain ⟨u, w, g1, g2, g3⟩ := WC hb hsp xs true r (i + 1) (fun x hm => L6 hb hsp e x (hsub x hm) (hx x hm)) (by rw [← List.drop_drop, hd]; rfl) (by omega)
      refine ⟨c, 91 :: (c' ++ u), w, h1, g2, AFx (g1.pre h2), ?_⟩
      exact (h4.trans g3).cast (by simp) (by simp only [List.length_cons, List.length_append, List.length_nil]; omega)
    | obj ks xs hl hdk hx =>
      simp only at hsub
      rw [AHO] at hd hlen ⊢
      simp only [List.cons_append, List.append_assoc, List.singleton_append, List.length_cons, List.length_append] at hd hlen
      obtain ⟨c, c', h1, h2, _, h4⟩ := Gw (N := N) hb hsp hd hi
      obtain ⟨u, w, g1, g2, g3⟩ := X8 hb hsp ks xs true r (i + 1) hl (fun x hm => L6 hb hsp e x (hsub x hm) (hx x hm)) (by rw [← List.drop_drop, hd]; rfl) (by omega)
      refine ⟨c, 123 :: (c' ++ u), w, h1, g2, AFl (g1.pre h2), ?_⟩
      exact (h4.trans g3).cast (by simp) (by simp only [List.length_cons, List.length_append, List.length_nil]; omega)
end
end Go.VM
