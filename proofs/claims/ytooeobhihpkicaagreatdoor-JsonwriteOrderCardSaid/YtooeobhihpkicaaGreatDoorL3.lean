import Derived.Test.YtooeobhihpkicaaGreatDoorL2
import Derived.KernelRfl
import Derived.Test.YtooeobhihpkicaaGreatDoorDefs
set_option linter.unusedVariables false
set_option linter.unusedSimpArgs false
namespace Go.VM
section
variable {N : Nat} {c : ApiValue} {d d' : List Int} {a b i j l0 : Nat}
theorem AGY (h : Row c d) (hab : a ≤ b) (hb : b ≤ d.length) (hN : b < N) : Ok (Av N d.length d a b c) fun d' => Sw a b d d' ∧ Asc' c a b d' := by
  by_cases e : a < b
  · exact AIF h e hb hN
  · have hbig := h.big
    unfold Av
    rw [show (a : Int) + 1 = ((a + 1 : Nat) : Int) by simp, JW (by omega), Aa (by omega), show (((b : Nat) : Int) - ((a + 1 : Nat) : Int)).toNat = 0 by omega, AQ]
    exact Ok.ret ⟨.refl d, fun p q h1 h2 h3 => by omega⟩
theorem Bel.sub {a' b' : Nat} (h : Bel c a b d) (ha : a' = a) (hb : b' ≤ b) : Bel c a' b' d := by
  subst ha
  rcases h with h | h
  · exact .inl h
  · exact .inr fun x x1 x2 => h x x1 (by omega)
theorem UK {m : Nat} (h1 : Asc' c a m d) (h2 : Asc' c (m + 1) b d) (lo : ∀ x, a ≤ x → x < m → ltI c (at0 d x) (at0 d m) = true) (hi : ∀ x, m < x → x < b → ltI c (at0 d m) (at0 d x) = true) : Asc' c a b d := by
  intro p q k1 k2 k3
  by_cases e1 : q < m
  · exact h1 p q k1 k2 e1
  · by_cases e2 : q = m
    · rw [e2]; exact lo p k1 (by omega)
    · by_cases e3 : p < m
      · exact Mw (lo p k1 e3) (hi q (by omega) k3)
      · by_cases e4 : p = m
        · rw [e4]; exact hi q (by omega) k3
        · exact h2 p q (by omega) k2 k3
theorem OY (hN : 2 * l0 + 10 ≤ N) (D' : Nat) (rec : Nat → List Int → Int → Int → Int → ApiValue → Option (List Int))
    (ih : ∀ (a b : Nat) (d : List Int) (lim : Int), a ≤ b → b ≤ l0 → b - a < D' → d.length = l0 → Row c d → Bel c a b d → Ok (rec l0 d (a : Int) (b : Int) lim c) fun d' => Sw a b d d' ∧ Asc' c a b d') :
    ∀ (k a b : Nat) (lim : Int) (w1 w2 : Bool) (d : List Int), a ≤ b → b ≤ l0 → b - a < k → b - a ≤ D' → d.length = l0 → Row c d → Bel c a b d →
    Ok (Ai N l0 c rec k (a : Int) (b : Int) lim w1 w2 d) fun d' => Sw a b d d' ∧ Asc' c a b d'
  | 0, a, b, lim, w1, w2, d, _, _, h, _, _, _, _ => by omega
  | k + 1, a, b, lim, w1, w2, d, hab, hb, hk, hD, hl, hr, hB => by
    have hbig := hr.big
    have eba : (b : Int) - (a : Int) = ((b - a : Nat) : Int) := by omega
    rw [Ai, eba, A8 (n := ((b - a : Nat) : Int)) (by omega)]
    by_cases h12 : b - a ≤ 12
    · rw [if_pos (by simp only [decide_eq_true_eq]; omega)]
      have := AGY (N := N) hr hab (by omega) (by omega)
      rw [hl] at this
      exact this.bind fun y h => Ok.ret h
    rw [if_neg (by simp only [decide_eq_true_eq]; omega)]
    by_cases hlim : lim = 0
    · rw [if_pos (by simp [hlim])]
      have := AGM (N := N) hr (by omega : a < b) (by omega) (by omega)
      rw [hl] at this
      exact this.bind fun y h => Ok.ret h
    rw [if_neg (by simp [hlim])]
    have got : ∀ d1, Sw a b d d1 → d1.length = l0 ∧ Row c d1 ∧ Bel c a b d1 := fun d1 h => ⟨by rw [h.len]; exact hl, h.row (by omega) hr, h.bel (by omega) hB⟩
    refine Ok.meet (fun j6 => Sw a b d j6.2) ?_ ?_
    · rintro ⟨lim', d1⟩ hs1
      obtain ⟨hl1, hr1, hB1⟩ := got d1 hs1
      dsimp only
      have hpv := AEB (N := N) hr1 (by omega : a + 12 < b) (by omega)
      rw [hl1] at hpv
      refine hpv.bind fun y12 hy => ?_
      obtain ⟨hy1, p, hp1, hp2, hp3⟩ := hy
      refine Ok.meet (fun j14 => (∃ p : Nat, j14.1 = (p : Int) ∧ a ≤ p ∧ p < b) ∧ Sw a b d j14.2.2) ?_ ?_
      · rintro ⟨p0, hint, d2⟩ ⟨⟨q, hq1, hq2, hq3⟩, hs2⟩
        dsimp only at hq1 hs2 ⊢
        subst hq1
        obtain ⟨hl2, hr2, hB2⟩ := got d2 hs2
        refine Ok.meet (fun j20 => Sw a b d j20) ?_ ?_
        · intro d3 hs3
          obtain ⟨hl3, hr3, hB3⟩ := got d3 hs3
          refine Ok.meet (fun j30 => j30 = false) ?_ ?_
          · rintro _ rfl
            rw [if_neg (by decide)]
            have hpt := AGi (N := N) hr3 hq2 hq3 (by omega) (by omega)
            rw [hl3] at hpt
            refine hpt.bind fun y40 hy40 => ?_
            obtain ⟨m, hm, hm1, hm2, hs4, hlo, hhi⟩ := hy40
            have hs4' := hs3.trans hs4
            obtain ⟨hl4, hr4, hB4⟩ := got _ hs4'
            rw [hm, show (m : Int) - (a : Int) = ((m - a : Nat) : Int) by omega, show (b : Int) - (m : Int) = ((b - m : Nat) : Int) by omega, show (m : Int) + 1 = ((m + 1 : Nat) : Int) by omega]
            rw [A8 (n := ((m - a : Nat) : Int)) (by omega), A8 (n := ((b - m : Nat) : Int)) (by omega), A8 (n := ((m + 1 : Nat) : Int)) (by omega)]
            generalize y40.2.2 = d4 at *
            have hBr : Bel c (m + 1) b d4 := .inr fun x x1 x2 => by rw [Nat.add_sub_cancel]; exact hhi x (by omega) x2
            split
            · refine (ih a m d4 lim' hm1 (by omega) (by omega) hl4 hr4 (hB4.sub rfl (by omega))).bind fun d5 h5 => ?_
              have hr5 := h5.1.row (by omega) hr4
              have hl5 : d5.length = l0 := by rw [h5.1.len]; exact hl4
              have o5 : ∀ x, m ≤ x → at0 d5 x = at0 d4 x := fun x hx => h5.1.out (by omega) (.inr hx)
              have hB5 : Bel c (m + 1) b d5 := .inr fun x x1 x2 => by rw [Nat.add_sub_cancel, o5 m (Nat.le_refl _), o5 x (by omega)]; exact hhi x (by omega) x2
              refine (OY hN D' rec ih k (m + 1) b lim' _ _ d5 (by omega) hb (by omega) (by omega) hl5 hr5 hB5).mono fun d6 h6 => ⟨hs4'.trans ((h5.1.mono (Nat.le_refl _) (by omega)).trans (h6.1.mono (by omega) (Nat.le_refl _))), ?_⟩
              have o6 : ∀ x, x < m + 1 → at0 d6 x = at0 d5 x := fun x hx => h6.1.out (by omega) (.inl hx)
              refine UK (m := m) (fun p q p1 p2 p3 => by rw [o6 p (by omega), o6 q (by omega)]; exact h5.2 p q p1 p2 p3) h6.2 (fun x x1 x2 => ?_) (fun x x1 x2 => ?_)
              · rw [o6 x (by omega), o6 m (by omega), o5 m (Nat.le_refl _)]
                exact h5.1.all (by omega) (p := fun v => ltI c v (at0 d4 m) = true) hlo x x1 x2
              · rw [o6 m (by omega), o5 m (Nat.le_refl _)]
                refine h6.1.all (by omega) (p := fun v => ltI c (at0 d4 m) v = true) (fun y y1 y2 => ?_) x (by omega) x2
                rw [o5 y (by omega)]; exact hhi y (by omega) y2
            · refine (ih (m + 1) b d4 lim' (by omega) hb (by omega) hl4 hr4 hBr).bind fun d5 h5 => ?_
              have hr5 := h5.1.row (by omega) hr4
              have hl5 : d5.length = l0 := by rw [h5.1.len]; exact hl4
              have o5 : ∀ x, x < m + 1 → at0 d5 x = at0 d4 x := fun x hx => h5.1.out (by omega) (.inl hx)
              have hB5 : Bel c a m d5 := by
                rcases hB4 with e | e
                · exact .inl e
                · refine .inr fun x x1 x2 => ?_
                  rw [o5 (a - 1) (by omega), o5 x (by omega)]; exact e x x1 (by omega)
              refine (OY hN D' rec ih k a m lim' _ _ d5 hm1 (by omega) (by omega) (by omega) hl5 hr5 hB5).mono fun d6 h6 => ⟨hs4'.trans ((h5.1.mono (by omega) (Nat.le_refl _)).trans (h6.1.mono (Nat.le_refl _) (by omega))), ?_⟩
              have o6 : ∀ x, m ≤ x → at0 d6 x = at0 d5 x := fun x hx => h6.1.out (by omega) (.inr hx)
              refine UK (m := m) h6.2 (fun p q p1 p2 p3 => by rw [o6 p (by omega), o6 q (by omega)]; exact h5.2 p q p1 p2 p3) (fun x x1 x2 => ?_) (fun x x1 x2 => ?_)
              · rw [o6 m (Nat.le_refl _), o5 m (by omega)]
                refine h6.1.all (by omega) (p := fun v => ltI c v (at0 d4 m) = true) (fun y y1 y2 => ?_) x x1 x2
                rw [o5 y (by omega)]; exact hlo y y1 y2
              · rw [o6 m (Nat.le_refl _), o6 x (by omega), o5 m (by omega)]
                exact h5.1.all (by omega) (p := fun v => ltI c (at0 d4 m) v = true) (fun y y1 y2 => hhi y (by omega) y2) x (by omega) x2
          · intro k31 hk31
            by_cases ha0 : 0 < a
            · have hc := cmp_eq (N := N) hr3
              have e1 : (a : Int) - 1 = ((a - 1 : Nat) : Int) := by omega
              rw [if_pos (by simp only [decide_eq_true_eq]; omega), e1]
              simp (disch := omega) only [A8, Aa, Jb, Option.bind_some, hc, Gj]
              refine hk31 _ ?_
              rcases hB3 with e | e
              · omega
              · rw [e q hq2 hq3]; rfl
            · rw [if_neg (by simp only [decide_eq_true_eq]; omega)]
              exact hk31 _ rfl
        · intro k21 hk21
          refine Ok.meet (fun _ => True) ?_ ?_
          · intro j24 _
            cases j24
            · rw [if_neg (by decide)]
              exact hk21 d2 hs2
            · rw [if_pos rfl]
              have hpi := AF4 (N := N) hr2 (by omega : a < b) (by omega) (by omega) hB2
              rw [hl2] at hpi
              refine hpi.bind fun y28 h28 => ?_
              cases e28 : y28.1
              · rw [if_neg (by decide)]
                exact hk21 _ (hs2.trans h28.1)
              · rw [if_pos rfl]
                exact Ok.ret ⟨hs2.trans h28.1, h28.2 e28⟩
          · intro k25 hk25
            split
            · split
              · exact hk25 _ trivial
              · exact hk25 _ trivial
            · exact hk25 _ trivial
      · intro k15 hk15
        split
        · have hrv := AHf (N := N) hr1 (by omega : a < b) (by omega) (by omega)
          rw [hl1] at hrv
          rw [hy1]
          refine hrv.bind fun d2 h2 => hk15 _ ⟨⟨b - 1 - (p - a), ?_, by omega, by omega⟩, hs1.trans h2⟩
          rw [hp1]
          dsimp only
          rw [show (b : Int) - 1 = ((b - 1 : Nat) : Int) by omega, show (p : Int) - (a : Int) = ((p - a : Nat) : Int) by omega, A8 (n := ((b - 1 : Nat) : Int)) (by omega), A8 (n := ((p - a : Nat) : Int)) (by omega), show ((b - 1 : Nat) : Int) - ((p - a : Nat) : Int) = ((b - 1 - (p - a) : Nat) : Int) by omega, A8 (by omega)]
        · refine hk15 _ ⟨⟨p, hp1, hp2, hp3⟩, ?_⟩
          dsimp only
          rw [hy1]; exact hs1
    · intro k7 hk7
      split
      · exact hk7 (lim, d) (.refl d)
      · have hbr := AEY (N := N) hr (by omega : a + 12 < b) (by omega) (by omega)
        rw [hl] at hbr
        exact hbr.bind fun y10 h10 => hk7 _ h10
theorem AD1 (hN : 2 * l0 + 10 ≤ N) : ∀ (D a b : Nat) (d : List Int) (lim : Int), a ≤ b → b ≤ l0 → b - a < D → d.length = l0 → Row c d → Bel c a b d →
    Ok (Ag N D l0 d (a : Int) (b : Int) lim c) fun d' => Sw a b d d' ∧ Asc' c a b d'
  | 0, a, b, d, lim, _, _, h, _, _, _ => by omega
  | D + 1, a, b, d, lim, hab, hb, hD, hl, hr, hB => by
    rw [Ag]
    exact OY hN D _ (fun a b d lim h1 h2 h3 h4 h5 h6 => AD1 hN D a b d lim h1 h2 h3 h4 h5 h6) N a b lim true true d hab hb (by omega) (by omega) hl hr hB
theorem AGw : ((List.range 2001).all fun n => (Gh N (wr .u64 (n : Int))).isSome) = true := by kernel_rfl
theorem AEc (hr : Row c d) (hN : 2 * d.length + 10 ≤ N) : Ok (Bg N d.length d c) fun d' => Sw 0 d.length d d' ∧ Asc' c 0 d.length d' := by
  have hbig := hr.big
  unfold Bg
  have := List.all_eq_true.1 (AGw (N := N)) d.length (List.mem_range.2 (by omega))
  obtain ⟨y, hy⟩ := Option.isSome_iff_exists.1 this
  rw [hy, Option.bind_some]
  refine (AD1 (N := N) hN N 0 d.length d y (by omega) (Nat.le_refl _) (by omega) rfl hr (.inl rfl)).bind fun d' h => Ok.ret h
end
def Je (n : Nat) : List Int := (List.range n).map fun i : Nat => (i : Int)
theorem FD (n : Nat) : (Je n).length = n := by simp [Je]
theorem YQ {n i : Nat} (h : i < n) : at0 (Je n) i = (i : Int) := by
  unfold at0 Je
  rw [List.getD_eq_getElem?_getD, List.getElem?_map, List.getElem?_range h]; rfl
theorem AEV (n : Nat) : Je (n + 1) = Je n ++ [(n : Int)] := by simp [Je, List.range_succ]
section
variable {N : Nat} {c : ApiValue}
theorem AGF (hn : c.keys.Nodup) (hb : c.keys.length ≤ 2000) : Row c (Je c.keys.length) := by
  refine ⟨by rw [FD]; exact hb, fun i hi => ?_, fun i j hi hj hne => ?_⟩
  · rw [FD] at hi
    rw [YQ hi]; exact ⟨by omega, by omega⟩
  · rw [FD] at hi hj
    rw [YQ hi, YQ hj]
    unfold ltI kth
    rw [Int.toNat_natCast, Int.toNat_natCast]
    simp only [List.getD_eq_getElem?_getD, List.getElem?_eq_getElem hi, List.getElem?_eq_getElem hj, Option.getD_some]
    rcases YY c.keys[i] c.keys[j] with e | e | e
    · exact .inl e
    · have hp := List.pairwise_iff_getElem.1 hn
      rcases Nat.lt_or_gt_of_ne hne with q | q
      · exact absurd e (hp i j hi hj q)
      · exact absurd e.symm (hp j i hj hi q)
    · exact .inr e
theorem Oz {k2 : List Int → Option (List Int)} (hb : c.items.length ≤ 1000000) : ∀ (m i : Nat), i + m = c.items.length → CO N c k2 m (i : Int) (Je i ++ List.replicate m 0) = k2 (Je c.items.length)
  | 0, i, h => by
    rw [CO, List.replicate_zero, List.append_nil, show i = c.items.length by omega]
  | m + 1, i, h => by
    rw [CO, show (c.items.length : Int).toNat = c.items.length from Int.toNat_natCast _, Int.toNat_natCast, Aa (by omega), Aa (by simp [FD]), show (i : Int) + 1 = ((i + 1 : Nat) : Int) by omega]
    have e : (Je i ++ List.replicate (m + 1) (0 : Int)).set i (i : Int) = Je (i + 1) ++ List.replicate m 0 := by
      rw [List.set_append_right _ _ (by rw [FD]; exact Nat.le_refl _), FD, Nat.sub_self, List.replicate_succ, List.set_cons_zero, AEV, List.append_assoc]; rfl
    rw [e]
    exact Oz hb m (i + 1) (by omega)
theorem RA {K : List Int → Option (List Int)} (hb : c.items.length ≤ 1000000) : grd (Ou (c.items.length : Int) 8) (grd ((-4611686018427387904 : Int) ≤ 0 ∧ ((((c.items.length : Int).toNat : Int)) : Int) ≤ 4611686018427387904) (CO N c K (((((c.items.length : Int).toNat : Int)) : Int) - 0).toNat 0 (List.replicate (c.items.length : Int).toNat 0))) = K (Je c.items.length) := by
  have e : (c.items.length : Int).toNat = c.items.length := Int.toNat_natCast _
  rw [Aa (by unfold Ou; omega), e, Aa (by omega), show ((c.items.length : Int) - 0).toNat = c.items.length by omega]
  exact Oz hb c.items.length 0 (by omega)
theorem Zr (hk : (c.kind == 7) = false) (hb : c.items.length ≤ 1000000) : Di N c = some (Je c.items.length) := by
  unfold Di
  simp only [Au]
  rw [RA hb, hk, if_neg (by decide), Int.toNat_natCast, FD, Aa rfl]
theorem AG3 {d : List Int} (h : Asc' c 0 d.length d) : Asc (d.map (kth c)) := by
  unfold Asc
  rw [List.pairwise_map, List.pairwise_iff_getElem]
  intro i j hi hj hij
  have := h i j (by omega) hij hj
  rw [O0 hi, O0 hj] at this
  unfold ltI at this
  unfold leB
  rw [this]; simp
theorem ADR (hl : c.keys.length = c.items.length) : (Je c.items.length).map (kth c) = c.keys := by
  refine List.ext_getElem (by simp [FD, hl]) fun i h1 h2 => ?_
  rw [List.getElem_map]
  have hi : i < c.items.length := by omega
  have : (Je c.items.length)[i]'(by rw [FD]; exact hi) = (i : Int) := by simp [Je]
  rw [this, kth, Int.toNat_natCast, List.getD_eq_getElem?_getD, List.getElem?_eq_getElem h2]; rfl
theorem Z6 (hk : (c.kind == 7) = true) (hl : c.keys.length = c.items.length) (hn : c.keys.Nodup) (hb : c.keys.length ≤ 2000) (hN : 10000 ≤ N) : Ok (Di N c) fun l => l.map (kth c) = Gw c.keys ∧ l.Perm (Je c.items.length) := by
  have hr := AGF hn hb
  rw [hl] at hr
  have hs := AEc (N := N) hr (by rw [FD]; omega)
  rw [FD] at hs
  unfold Di
  simp only [Au]
  rw [RA (by omega), hk, if_pos rfl, Int.toNat_natCast]
  refine hs.bind fun d' h => ?_
  have hlen : d'.length = c.items.length := by rw [h.1.len, FD]
  rw [Aa hlen]
  have hperm := h.1.perm (by rw [FD]; exact Nat.le_refl _)
  refine Ok.ret ⟨?_, hperm⟩
  refine Pp ?_ (AG3 (by rw [hlen]; exact h.2)) (Mt _)
  have := hperm.map (kth c)
  rw [ADR hl] at this
  exact this.trans (H5 _).symm
end
end Go.VM
namespace Go.VM
def zeroV : ApiValue := ApiValue.mk 0 [] [] []
def Jc : List (List UInt8) → List ApiValue → List UInt8 → ApiValue × Bool
  | k :: ks, x :: xs, key => if k == key then (x, true) else Jc ks xs key
  | _, _, _ => (zeroV, false)
mutual
def Ho : ApiValue → Nat
  | ⟨_, _, _, items⟩ => 1 + Ez items
def Ez : List ApiValue → Nat
  | [] => 0
  | x :: xs => Ho x + Ez xs
end
theorem IJ (v : ApiValue) : Ho v = 1 + Ez v.items := by cases v; rw [Ho]
inductive okW : Nat → ApiValue → Prop
  | mk {d : Nat} (v : ApiValue) (ht : v.text.length ≤ 300) (hk : v.keys.length ≤ 910) (hl : ∀ k, k ∈ v.keys → k.length ≤ 300) (hi : v.items.length ≤ 900) (h : ∀ x, x ∈ v.items → okW d x) : okW (d + 1) v
section
variable {N : Nat}
theorem okW.text {d : Nat} {v : ApiValue} : okW d v → v.text.length ≤ 300 | .mk _ h _ _ _ _ => h
theorem okW.keys {d : Nat} {v : ApiValue} : okW d v → v.keys.length ≤ 910 | .mk _ _ h _ _ _ => h
theorem okW.klen {d : Nat} {v : ApiValue} : okW d v → ∀ k, k ∈ v.keys → k.length ≤ 300 | .mk _ _ _ h _ _ => h
theorem okW.items {d : Nat} {v : ApiValue} : okW d v → v.items.length ≤ 900 | .mk _ _ _ _ h _ => h
theorem okW.sub {d : Nat} {v : ApiValue} : okW (d + 1) v → ∀ x, x ∈ v.items → okW d x | .mk _ _ _ _ _ h => h
theorem okW.pos {d : Nat} {v : ApiValue} : okW d v → 0 < d | .mk _ _ _ _ _ _ => by omega
theorem okW.mono {d : Nat} {v : ApiValue} (h : okW d v) : ∀ e, d ≤ e → okW e v := by
  induction h with
  | mk v ht hk hl hi h ih =>
    intro e he
    obtain ⟨e', rfl⟩ : ∃ e', e = e' + 1 := ⟨e - 1, by omega⟩
    exact .mk v ht hk hl hi fun x hx => ih x hx e' (by omega)
theorem Oe (k6 : Unit → Option Int) : ∀ (l : List (List UInt8)), (Da N k6 l = k6 () ∧ ∀ k, k ∈ l → k.length ≤ 300) ∨ Da N k6 l = some (-1)
  | [] => by rw [Da]; exact .inl ⟨rfl, by simp⟩
  | x :: l => by
    rw [Da]
    split
    · exact .inr rfl
    · rename_i hx
      rcases Oe k6 l with h | h
      · refine .inl ⟨h.1, fun k hk => ?_⟩
        rcases List.mem_cons.1 hk with rfl | hk
        · simp only [decide_eq_true_eq] at hx; omega
        · exact h.2 k hk
      · exact .inr h
theorem OT (dn : Nat) (rc : ApiValue → Int → Int → Option Int) (hd : dn ≤ 900) : ∀ (l : List ApiValue) (ln : Nat), ln ≤ 900 →
    (∀ x, x ∈ l → ∀ n : Nat, n ≤ 900 → ∃ r : Int, rc x n dn = some r ∧ r ≤ n ∧ (0 ≤ r → okW dn x ∧ r + Ho x = n)) →
    ∃ r : Int, DY N ((dn + 1 : Nat) : Int) rc (fun j => some j) l (ln : Int) = some r ∧ r ≤ ln ∧ (0 ≤ r → (∀ x, x ∈ l → okW dn x) ∧ r + Ez l = ln)
  | [], ln, _, _ => by rw [DY]; exact ⟨ln, rfl, by omega, by simp [Ez]⟩
  | x :: l, ln, hln, hr => by
    obtain ⟨r, e1, e2, e3⟩ := hr x (by simp) ln hln
    rw [DY, show wr .i64 (((dn + 1 : Nat) : Int) - 1) = (dn : Int) by rw [A8 (by omega)]; omega, e1, Option.bind_some]
    split
    · exact ⟨-1, rfl, by omega, by omega⟩
    · rename_i hn
      have hn' : 0 ≤ r := by simpa using hn
      obtain ⟨rn, rfl⟩ := Int.eq_ofNat_of_zero_le hn'
      obtain ⟨r2, f1, f2, f3⟩ := OT dn rc hd l rn (by omega) (fun y hy => hr y (by simp [hy]))
      refine ⟨r2, f1, by omega, fun h => ⟨fun y hy => ?_, ?_⟩⟩
      · rcases List.mem_cons.1 hy with rfl | hy
        · exact (e3 hn').1
        · exact (f3 h).1 y hy
      · have := (e3 hn').2; have := (f3 h).2; rw [Ez]; omega
theorem ZL : ∀ (D : Nat) (v : ApiValue) (ln dn : Nat), dn < D → dn ≤ 900 → ln ≤ 900 → ∃ r : Int, EN N D v ln dn = some r ∧ r ≤ ln ∧ (0 ≤ r → okW dn v ∧ r + Ho v = ln)
  | 0, _, _, _, h, _, _ => by omega
  | D + 1, v, ln, dn, hd, hdn, hl => by
    rw [EN, Au]
    simp only [Au, if_true]
    have none : ∃ r : Int, some (-1 : Int) = some r ∧ r ≤ (ln : Int) ∧ (0 ≤ r → okW dn v ∧ r + Ho v = ln) := ⟨-1, rfl, by omega, by omega⟩
    split
    · exact none
    · split
      · exact none
      · split
        · exact none
        · split
          · exact none
          · rename_i h1 h2 h3 h4
            simp only [decide_eq_true_eq] at h1 h2 h3 h4
            by_cases h5 : decide ((v.items.length : Int) > (ln : Int)) = true
            · rw [if_pos h5]; exact none
            · rw [if_neg h5]
              simp only [decide_eq_true_eq] at h5
              rw [A8 (by omega)] at h4
              obtain ⟨l1, rfl⟩ : ∃ l1, ln = l1 + 1 := ⟨ln - 1, by omega⟩
              obtain ⟨d1, rfl⟩ : ∃ d1, dn = d1 + 1 := ⟨dn - 1, by omega⟩
              rw [Z5 (by omega), show wr .i64 (((l1 + 1 : Nat) : Int) - 1) = (l1 : Int) by rw [A8 (by omega)]; omega]
              rcases Oe (N := N) (fun _ => grd (Bi v.items.length) (DY N ((d1 + 1 : Nat) : Int) (EN N D) (fun j => some j) v.items (l1 : Int))) v.keys with e1 | e1
              · rw [e1.1, Z5 (by omega)]
                obtain ⟨r, f1, f2, f3⟩ := OT (N := N) d1 (EN N D) (by omega) v.items l1 (by omega) (fun x hx n hn => ZL D x n d1 (by omega) (by omega) hn)
                exact ⟨r, f1, by omega, fun h => ⟨.mk _ (by omega) (by omega) e1.2 (by omega) (f3 h).1, by have := (f3 h).2; rw [IJ]; omega⟩⟩
              · rw [e1]; exact none
theorem AEt (hN : 71 ≤ N) (v : ApiValue) (n : Nat) (hn : n ≤ 800) : ∃ b, I4 N v n = some b ∧ (b = true → okW 70 v ∧ Ho v ≤ n) := by
  obtain ⟨r, e1, e2, e3⟩ := ZL (N := N) N v n 70 (by omega) (by omega) (by omega)
  refine ⟨decide (r ≥ 0), ?_, fun h => ?_⟩
  · unfold I4
    rw [show (70 : Int) = ((70 : Nat) : Int) from rfl, e1]; rfl
  · have h0 : 0 ≤ r := by simpa using h
    have := e3 h0
    exact ⟨this.1, by omega⟩
inductive okD : Nat → ApiValue → Prop
  | mk {d : Nat} (v : ApiValue) (hk : v.keys.length ≤ 4611686018427387904) (hi : v.items.length ≤ 4611686018427387904) (h : ∀ x, x ∈ v.items → okD d x) : okD (d + 1) v
theorem okW.d {d : Nat} {v : ApiValue} (h : okW d v) : okD d v := by
  induction h with
  | mk v ht hk hl hi h ih => exact .mk v (by omega) (by omega) ih
end
end Go.VM
namespace Go.VM
section
variable {N : Nat}
theorem VC : ∀ (l : List UInt8) (c : UInt8), Go.Lib.indexByte l c = if l.contains c = true then (((l.takeWhile (· != c)).length : Nat) : Int) else -1
  | [], c => rfl
  | x :: l, c => by
    have ih := VC l c
    rw [Go.Lib.indexByte, List.contains_cons]
    by_cases e : x = c
    · subst e; simp
    · have e1 : (c == x) = false := by simpa using fun h : c = x => e h.symm
      have e2 : (x == c) = false := by simpa using e
      have e3 : (x != c) = true := by simpa using e
      rw [e1, e2, Bool.false_or, List.takeWhile_cons, e3]
      simp only [Bool.false_eq_true, if_false, if_true, List.length_cons]
      by_cases k : l.contains c = true
      · rw [if_pos k] at ih
        rw [if_pos k, ih]
        have : (((((l.takeWhile (· != c)).length : Nat) : Int)) == -1) = false := by
          simp only [beq_eq_false_iff_ne, ne_eq]; omega
        rw [this]; simp
      · rw [if_neg k] at ih
        rw [if_neg k, ih]; rfl
theorem Ye {α : Type} (p : α → Bool) (l : List α) : l.drop (l.takeWhile p).length = l.dropWhile p := by
  have := List.takeWhile_append_dropWhile (p := p) (l := l)
  conv => lhs; rw [← this]
  rw [List.drop_append, List.drop_of_length_le (by rw [this]; exact Nat.le_refl _), this]
  simp
def QE (c : UInt8) (l : List UInt8) : List UInt8 × List UInt8 × Bool := if l.contains c = true then (l.takeWhile (· != c), (l.dropWhile (· != c)).drop 1, true) else (l, [], false)
theorem AEI {c : UInt8} : ∀ {l : List UInt8}, l.contains c = true → (l.takeWhile (· != c)).length < l.length
  | [], h => by cases h
  | x :: l, h => by
    rw [List.takeWhile_cons]
    by_cases e : x = c
    · subst e; simp
    · have e3 : (x != c) = true := by simpa using e
      rw [List.contains_cons] at h
      have e1 : (c == x) = false := by simpa using fun h : c = x => e h.symm
      rw [e1, Bool.false_or] at h
      rw [e3]
      have := AEI h
      simp only [if_true, List.length_cons]; omega
theorem AET (c : UInt8) (l : List UInt8) (hb : l.length ≤ 2 ^ 60) : strings_Cut N l [c] = some (QE c l) := by
  unfold strings_Cut Dv DW QE
  have hk : ∀ k : Bool → Option Int, (if ((([c] : List UInt8).length : Int) == 0) = true then k true else k ([c] == l)) = k ([c] == l) := fun k => rfl
  have hI : (AZ (fun j1 : Bool => if j1 = true then some (0 : Int) else if ((([c] : List UInt8).length : Int) == 1) = true then Option.bind (idx [c] 0) fun x5 => Option.bind (Bq N l (Ap x5)) fun y6 => some y6 else if decide ((([c] : List UInt8).length : Int) ≥ (l.length : Int)) = true then some (-1) else none) fun k2 => if ((([c] : List UInt8).length : Int) == 0) = true then k2 true else k2 ([c] == l)) = some (Go.Lib.indexByte l c) := by
    refine (CZ (a := [c] == l) fun k => rfl).trans ?_
    by_cases h : ([c] == l) = true
    · have : l = [c] := by have := beq_iff_eq.1 h; exact this.symm
      subst this
      simp [Go.Lib.indexByte]
    · rw [if_neg h, if_pos (by rfl), show idx [c] 0 = some c from rfl, Option.bind_some]
      unfold Bq
      rw [Jo]; rfl
  rw [hI, Option.bind_some, VC]
  by_cases h : l.contains c = true
  · have hlt := AEI h
    simp only [h, if_true]
    generalize hn : (l.takeWhile (· != c)).length = n at *
    have w : wr .i64 ((n : Int) + (([c] : List UInt8).length : Int)) = ((n + 1 : Nat) : Int) := by rw [A8 (by simp <;> omega)]; simp
    rw [if_pos (by simp), show (0 : Int) = ((0 : Nat) : Int) from rfl, FE l 0 n (by omega) (by omega), Option.bind_some, w, FE l (n + 1) l.length (by omega) (by omega), Option.bind_some, Option.bind_some]
    rw [List.drop_zero, Nat.sub_zero, ← hn, MC, List.take_of_length_le (by simp), ← List.drop_drop, Ye]
  · rw [if_neg h, if_neg h, if_neg (by decide), Option.bind_some]
theorem Me (x c : UInt8) : (Ap x == Ap c) = (x == c) := by
  by_cases h : x = c
  · subst h; simp
  · have : ¬ x.toNat = c.toNat := fun e => h (UInt8.toNat_inj.1 e)
    have h2 : (x == c) = false := by simpa using h
    rw [h2]; simp only [Ap, beq_eq_false_iff_ne, ne_eq]; omega
theorem I8 {α : Type} (x : α) (l : List α) : sub (x :: l) 1 (((x :: l).length : Nat) : Int) = some l := by
  have := FE (x :: l) 1 (x :: l).length (by simp) (Nat.le_refl _)
  rw [show (1 : Int) = ((1 : Nat) : Int) from rfl, this]
  simp
theorem Pn (c : UInt8) (k2 : List UInt8 → Option (List UInt8)) : ∀ (l : List UInt8) (k : Nat), l.length < k → CS N (Ap c) k2 k l = k2 (l.dropWhile (· == c))
  | [], k + 1, _ => by rw [CS, Au]; rfl
  | x :: l, k + 1, h => by
    simp only [List.length_cons] at h
    rw [CS, Au, if_pos (by simp <;> omega), show idx (x :: l) 0 = some x from rfl, Option.bind_some, Me, List.dropWhile_cons]
    try dsimp only
    cases x == c
    · rfl
    · rw [if_pos rfl, I8, Option.bind_some, Pn c k2 l k (by omega)]; rfl
theorem AE2 (c : UInt8) (l : List UInt8) (hc : c.toNat < 128) (hN : l.length < N) : DR N l [c] = some (l.dropWhile (· == c)) := by
  unfold DR
  refine (CZ (a := l == []) fun k => ?_).trans ?_
  · cases l == [] <;> rfl
  try dsimp only
  by_cases h : l = []
  · subst h; rfl
  · rw [if_neg (by simpa using h)]
    have : (Ap c < 128) := by simp only [Ap]; omega
    refine (CZ (a := true) fun k => ?_).trans ?_
    · rw [if_pos (by rfl), show idx [c] 0 = some c from rfl, Option.bind_some, decide_eq_true this]
    try dsimp only
    rw [if_pos rfl, show idx [c] 0 = some c from rfl, Option.bind_some]
    unfold strings_trimLeftByte
    rw [Au, Pn c _ l N hN]; rfl
def Hq (p : UInt8 → Bool) (l : List UInt8) : List UInt8 := (l.reverse.dropWhile p).reverse
theorem MF (p : UInt8 → Bool) (l : List UInt8) (x : UInt8) : Hq p (l ++ [x]) = if p x = true then Hq p l else l ++ [x] := by
  unfold Hq
  rw [List.reverse_append, List.reverse_cons, List.reverse_nil, List.nil_append, List.singleton_append, List.dropWhile_cons]
  split <;> simp
theorem Pj (p : UInt8 → Bool) (l : List UInt8) : (Hq p l).length ≤ l.length := by
  unfold Hq
  have := (List.dropWhile_sublist p (l := l.reverse)).length_le
  simpa using this
theorem XY {α : Type} (l : List α) (x : α) (hb : l.length ≤ 2 ^ 60) : sub (l ++ [x]) 0 (wr .i64 ((((l ++ [x]).length : Nat) : Int) - 1)) = some l := by
  rw [A8 (by simp <;> omega), show (((l ++ [x]).length : Nat) : Int) - 1 = (l.length : Int) by simp, show (0 : Int) = ((0 : Nat) : Int) from rfl, FE _ 0 l.length (by omega) (by simp)]
  simp
theorem U8 {α : Type} (l : List α) (x : α) (hb : l.length ≤ 2 ^ 60) : idx (l ++ [x]) (wr .i64 ((((l ++ [x]).length : Nat) : Int) - 1)) = some x := by
  rw [A8 (by simp <;> omega), show (((l ++ [x]).length : Nat) : Int) - 1 = (l.length : Int) by simp, OH]
  simp
theorem PS (c : UInt8) (k2 : List UInt8 → Option (List UInt8)) : ∀ (n : Nat) (l : List UInt8), l.length = n → n ≤ 2 ^ 60 → ∀ k : Nat, n < k → CG N (Ap c) k2 k l = k2 (Hq (· == c) l)
  | 0, l, hl, hb, k + 1, _ => by
    have : l = [] := List.length_eq_zero_iff.1 hl
    subst this
    rw [CG, Au]; rfl
  | n + 1, l, hl, hb, k + 1, h => by
    obtain ⟨l', x, rfl⟩ : ∃ l' x, l = l' ++ [x] := by
      have hne : l ≠ [] := fun e => by subst e; simp at hl
      exact ⟨l.dropLast, l.getLast hne, (List.dropLast_concat_getLast hne).symm⟩
    have hl' : l'.length = n := by simpa using hl
    rw [CG, Au, if_pos (by simp <;> omega), U8 l' x (by omega), Option.bind_some, Me, MF]
    try dsimp only
    cases x == c
    · rfl
    · rw [if_pos rfl, if_pos rfl, XY l' x (by omega), Option.bind_some, PS c k2 n l' hl' (by omega) k (by omega)]
theorem ADY (c : UInt8) (l : List UInt8) (hc : c.toNat < 128) (hb : l.length ≤ 2 ^ 60) (hN : l.length < N) : Eo N l [c] = some (Hq (· == c) l) := by
  unfold Eo
  refine (CZ (a := l == []) fun k => ?_).trans ?_
  · cases l == [] <;> rfl
  try dsimp only
  by_cases h : l = []
  · subst h; rfl
  · rw [if_neg (by simpa using h)]
    have : (Ap c < 128) := by simp only [Ap]; omega
    refine (CZ (a := true) fun k => ?_).trans ?_
    · rw [if_pos (by rfl), show idx [c] 0 = some c from rfl, Option.bind_some, decide_eq_true this]
    try dsimp only
    rw [if_pos rfl, show idx [c] 0 = some c from rfl, Option.bind_some]
    unfold strings_trimRightByte
    rw [Au, PS c _ _ l rfl hb N hN]; rfl
def UU (as : List Bool) (set : List UInt8) : Prop := as.length = 256 ∧ ∀ c : UInt8, as[c.toNat]? = some (set.contains c)
theorem U3 (k2 : List Bool → Option (List Bool × Bool)) (done : List UInt8) : ∀ (l : List UInt8) (done : List UInt8) (bn : List Bool), (∀ c ∈ l, c.toNat < 128) → UU bn done → ∃ as, Bn N k2 l bn = k2 as ∧ UU as (done ++ l)
  | [], done, bn, hl, hs => ⟨bn, by rw [Bn], by simpa using hs⟩
  | x :: l, done, bn, hl, hs => by
    have hx := hl x (by simp)
    have c1 : ¬ Ap x ≥ 128 := by simp only [Ap]; omega
    obtain ⟨as, h1, h2⟩ := U3 k2 done l (done ++ [x]) (bn.set x.toNat true) (fun c hc => hl c (by simp [hc])) ⟨by simp [hs.1], fun c => by
      rw [List.getElem?_set]
      by_cases e : x.toNat = c.toNat
      · have : x = c := UInt8.toNat_inj.1 e
        subst this
        rw [if_pos rfl, if_pos (by rw [hs.1]; exact x.toNat_lt)]
        simp
      · rw [if_neg e, hs.2 c]
        have : ¬ c = x := fun h => e (by rw [h])
        simp [this]⟩
    refine ⟨as, ?_, by simpa using h2⟩
    rw [Bn, if_neg (by simpa using c1), Aa (by simp only [Ap]; omega), Aa (by rw [hs.1]; simp only [Ap, Int.toNat_natCast]; omega)]
    exact h1
theorem ADL (set : List UInt8) (hl : ∀ c ∈ set, c.toNat < 128) (hb : set.length ≤ 1000) : ∃ as, strings_makeASCIISet N set = some (as, true) ∧ UU as set := by
  unfold strings_makeASCIISet
  rw [Au, Aa (by unfold Bi; omega)]
  obtain ⟨as, h1, h2⟩ := U3 (N := N) (fun j1 => grd (j1.length = 256) (some (j1, true))) [] set [] (Ty 256) hl ⟨OZ, fun c => by
    have := c.toNat_lt
    rw [Ty, List.getElem?_replicate, if_pos (by omega)]; rfl⟩
  exact ⟨as, by rw [h1, Aa h2.1], h2⟩
theorem We {as : List Bool} {set : List UInt8} (h : UU as set) (c : UInt8) : Ch N as (Ap c) = some (set.contains c, as) := by
  have := c.toNat_lt
  unfold Ch
  rw [Aa (by simp only [Ap]; omega), MP, OH, h.2 c]; rfl
theorem O1 (k2 : List UInt8 × List Bool → Option (List UInt8 × List Bool)) {as : List Bool} {set : List UInt8} (hs : UU as set) : ∀ (l : List UInt8) (k : Nat), l.length < k → CF N k2 k l as = k2 (l.dropWhile set.contains, as)
  | [], k + 1, _ => by rw [CF]; rfl
  | x :: l, k + 1, h => by
    simp only [List.length_cons] at h
    rw [CF, if_pos (by simp <;> omega), show idx (x :: l) 0 = some x from rfl, Option.bind_some, We hs, Option.bind_some, List.dropWhile_cons]
    try dsimp only
    cases set.contains x
    · rfl
    · rw [if_pos rfl, I8, Option.bind_some, O1 k2 hs l k (by omega)]; rfl
theorem ABz (l set : List UInt8) (h2 : 2 ≤ set.length) (hs : set.length ≤ 1000) (hl : ∀ c ∈ set, c.toNat < 128) (hN : l.length < N) : DR N l set = some (l.dropWhile set.contains) := by
  unfold DR
  have hne : set ≠ [] := fun e => by subst e; simp at h2
  refine (CZ (a := l == []) fun k => ?_).trans ?_
  · have : (set == []) = false := by simpa using hne
    rw [this]
    cases l == [] <;> rfl
  try dsimp only
  by_cases h : l = []
  · subst h; rfl
  · rw [if_neg (by simpa using h)]
    refine (CZ (a := false) fun k => ?_).trans ?_
    · rw [if_neg (by simp <;> omega)]
    try dsimp only
    obtain ⟨as, e1, e2⟩ := ADL (N := N) set hl hs
    rw [if_neg (by decide), e1, Option.bind_some, Aa OZ, Aa e2.1, if_pos rfl]
    unfold strings_trimLeftASCII
    rw [Au, O1 _ e2 l N hN]; rfl
theorem AGl (c : UInt8) (l : List UInt8) : strings_HasPrefix N l [c] = some (DN [c] l) := by
  unfold strings_HasPrefix Ct
  cases l with
  | nil => rfl
  | cons x l =>
    rw [if_pos (by simp <;> omega), show sub (x :: l) 0 ((([c] : List UInt8).length : Nat) : Int) = some [x] by
      rw [show (0 : Int) = ((0 : Nat) : Int) from rfl, FE _ 0 _ (by omega) (by simp)]; rfl, Option.bind_some, Option.bind_some]
    unfold DN
    by_cases h : x = c
    · subst h; simp
    · have h' : ¬ c = x := fun e => h e.symm
      simp [h]
def AG4 (n : Nat) : Nat := if 65 ≤ n ∧ n ≤ 90 then n + 32 else n
def Jp (c : UInt8) : UInt8 := UInt8.ofNat (AG4 c.toNat)
theorem WR (l : List UInt8) (hb : l.length ≤ 2 ^ 60) (k2 : List Int → Option (List UInt8)) : ∀ (t pre : List UInt8), l = pre ++ t → DC N l k2 t (pre.length : Int) (List.map Ap (pre.map Jp) ++ List.map Ap t) = k2 (List.map Ap (l.map Jp))
  | [], pre, h => by rw [DC, h]; simp
  | c :: t, pre, h => by
    have hlen : pre.length < l.length := by rw [h]; simp
    have hc := c.toNat_lt
    rw [DC]
    refine (CZ (a := List.map Ap (pre.map Jp) ++ (Ap (Jp c) :: List.map Ap t)) fun k7 => ?_).trans ?_
    · rw [Aa (by omega), List.map_cons]
      have hi : idx (List.map Ap (pre.map Jp) ++ Ap c :: List.map Ap t) (pre.length : Int) = some (Ap c) := by
        have := AFK (List.map Ap (pre.map Jp)) (List.map Ap t) (Ap c)
        simpa using this
      rw [hi, Option.bind_some]
      refine (CZ (a := decide (65 ≤ c.toNat ∧ c.toNat ≤ 90)) fun k12 => ?_).trans ?_
      · by_cases h1 : 65 ≤ c.toNat
        · have : (65 : Int) ≤ Ap c := by simp only [Ap]; omega
          rw [if_pos (decide_eq_true this)]
          congr 1
          simp only [Ap, h1, true_and]
          congr 1; simp only [eq_iff_iff]; omega
        · have : ¬ (65 : Int) ≤ Ap c := by simp only [Ap]; omega
          rw [if_neg (by simpa using this), decide_eq_false (fun h => h1 h.1)]
      try dsimp only
      by_cases h1 : 65 ≤ c.toNat ∧ c.toNat ≤ 90
      · rw [if_pos (decide_eq_true h1), Aa (by simp <;> omega)]
        have e : Jp c = UInt8.ofNat (c.toNat + 32) := by unfold Jp AG4; rw [if_pos h1]
        have e2 : Ap (Jp c) = wr .u8 (Ap c + 32) := by
          rw [e, AHJ (by simp only [Ap]; omega)]
          simp only [Ap]
          rw [toNat_ofNat (by omega)]; simp
        rw [← e2]
        congr 1
        simp
      · rw [if_neg (by simpa using h1)]
        have e : Jp c = c := by unfold Jp AG4; rw [if_neg h1]; simp
        rw [e]
    · try dsimp only
      have := WR l hb k2 t (pre ++ [c]) (by rw [h]; simp)
      rw [← ADo] at this
      rw [← this]
      simp
theorem lower_eq (l : List UInt8) (hb : l.length ≤ 2 ^ 60) : IR N l = some (l.map Jp) := by
  unfold IR
  rw [Au, Aa (by unfold Bi; omega)]
  have := WR (N := N) l hb (fun j1 => grd (l.length ≤ j1.length ∧ Bi l.length) (some (List.map IB (List.take l.length j1)))) l [] rfl
  simp only [List.map_nil, List.nil_append, List.length_nil] at this
  rw [show (0 : Int) = ((0 : Nat) : Int) from rfl, this, Aa (by unfold Bi; simp; omega), List.take_of_length_le (by simp)]
  congr 1
  induction l with
  | nil => rfl
  | cons c l ih => simp [Jo]
end
end Go.VM
namespace Go.VM
section
variable {N : Nat}
theorem Nh : ∀ l : List UInt8, List.map IB (List.map Ap l) = l
  | [] => rfl
  | c :: l => by rw [List.map_cons, List.map_cons, Jo, Nh l]
def Sz : Nat → Nat → List UInt8 → List UInt8
  | 0, _, acc => acc
  | k + 1, n, acc => if n / 10 = 0 then UInt8.ofNat (48 + n % 10) :: acc else Sz k (n / 10) (UInt8.ofNat (48 + n % 10) :: acc)
def fmtS (n : Nat) : List UInt8 := Sz 20 n []
theorem Ve : ∀ (k n : Nat) (acc : List UInt8), (Sz k n acc).length ≤ acc.length + k
  | 0, n, acc => by simp [Sz]
  | k + 1, n, acc => by
    rw [Sz]
    split
    · simp <;> omega
    · have := Ve k (n / 10) (UInt8.ofNat (48 + n % 10) :: acc)
      simp only [List.length_cons] at this; omega
theorem Wm (n : Nat) : (fmtS n).length ≤ 20 := by have := Ve 20 n []; simpa [fmtS] using this
theorem AHe (n : Nat) : wr .u64 ((n : Int).tdiv 10) = if n < 2 ^ 64 then ((n / 10 : Nat) : Int) else wr .u64 ((n : Int).tdiv 10) := by
  split
  · rw [Int.tdiv_eq_ediv_of_nonneg (by omega), K8 (by omega)]; simp
  · rfl
theorem AHP {n : Nat} (h : n < 2 ^ 64) : wr .u64 ((n : Int).tdiv 10) = ((n / 10 : Nat) : Int) := by rw [AHe, if_pos h]
theorem AHO {n : Nat} : wr .u64 (48 + (n : Int).tmod 10) = ((48 + n % 10 : Nat) : Int) := by
  rw [Int.tmod_eq_emod_of_nonneg (by omega), K8 (by omega)]; simp
theorem Ml : ∀ (k n : Nat) (acc : List UInt8), n < 10 ^ k → n < 2 ^ 64 → acc.length + k ≤ 1000 → ∀ m, k ≤ m → 0 < k → EA N m (n : Int) acc = some (Sz k n acc)
  | 0, n, acc, h, h2, ha, m, hm, hk => by omega
  | k + 1, n, acc, h, h2, ha, m + 1, hm, hk => by
    rw [EA, AHP h2, AHO, Sz]
    rw [Aa (by unfold Bi; simp <;> omega)]
    have e : (List.map IB [wr .u8 ((48 + n % 10 : Nat) : Int)] ++ acc) = UInt8.ofNat (48 + n % 10) :: acc := by
      rw [Yh, Nat.mod_eq_of_lt (show 48 + n % 10 < 256 by omega)]; rfl
    rw [e]
    by_cases c : n / 10 = 0
    · rw [if_pos (by rw [c]; rfl), if_pos c]
    · have c' : ¬ ((((n / 10 : Nat) : Int)) == 0) = true := by simp <;> omega
      rw [if_neg c', if_neg c]
      have hk2 : 0 < k := by
        cases k with
        | zero => simp at h; omega
        | succ => omega
      exact Ml k (n / 10) _ (by rw [Nat.pow_succ] at h; omega) (by omega) (by simp <;> omega) m (by omega) hk2
theorem PE (n : Nat) (h : n < 2 ^ 64) (hN : 20 ≤ N) : GU N (n : Int) = some (fmtS n) := by
  unfold GU fmtS
  exact Ml 20 n [] (by omega) h (by simp) N hN (by omega)
theorem WZ (a : Nat) (x : Int) (acc : List Int) : (List.replicate (a + 1) 0 ++ acc).set a x = List.replicate a 0 ++ x :: acc := by
  rw [List.replicate_succ', List.append_assoc]
  simp
theorem Mi (k2 : Int × Int × List Int → Option (List UInt8)) (R : List UInt8 → Option (List UInt8)) (hk : ∀ (n a : Nat) (acc : List UInt8), n < 10 → a ≤ 19 → acc.length + a = 19 → k2 ((n : Int), (a : Int), List.replicate (a + 1) 0 ++ acc.map Ap) = R (UInt8.ofNat (48 + n) :: acc)) :
    ∀ (j n a : Nat) (acc : List UInt8), n < 10 ^ (j + 1) → n < 2 ^ 64 → j ≤ a → a ≤ 19 → acc.length + a = 19 → ∀ m, j < m → Dq N k2 m (n : Int) (a : Int) (List.replicate (a + 1) 0 ++ acc.map Ap) = R (Sz (j + 1) n acc)
  | j, n, a, acc, h, h2, hj, ha, hl, 0, hm => by omega
  | j, n, a, acc, h, h2, hj, ha, hl, m + 1, hm => by
    rw [Dq, Sz]
    by_cases c : n / 10 = 0
    · have c' : ¬ (n : Int) ≥ 10 := by omega
      rw [if_neg (by simpa using c'), if_pos c, Nat.mod_eq_of_lt (by omega)]
      exact hk n a acc (by omega) ha hl
    · have c' : (n : Int) ≥ 10 := by omega
      rw [if_pos (decide_eq_true c'), if_neg c]
      obtain ⟨j, rfl⟩ : ∃ i, j = i + 1 := ⟨j - 1, by
        cases j with
        | zero => simp at h; omega
        | succ => omega⟩
      obtain ⟨a, rfl⟩ : ∃ i, a = i + 1 := ⟨a - 1, by omega⟩
      rw [Aa (by omega), Aa (by simp <;> omega), AHP h2, AHO, Yh, Nat.mod_eq_of_lt (show 48 + n % 10 < 256 by omega), A8 (by omega)]
      rw [show ((a + 1 : Nat) : Int) - 1 = (a : Int) by simp, Int.toNat_natCast, WZ]
      have e : List.replicate (a + 1) 0 ++ ((48 + n % 10 : Nat) : Int) :: List.map Ap acc = List.replicate (a + 1) 0 ++ List.map Ap (UInt8.ofNat (48 + n % 10) :: acc) := by
        rw [List.map_cons, MP, toNat_ofNat (by omega)]
      rw [e]
      exact Mi k2 R hk j (n / 10) a _ (by rw [Nat.pow_succ] at h; omega) (by omega) (by omega) (by omega) (by simp <;> omega) m (by omega)
theorem Ol (n : Nat) (h : n < 2 ^ 64) (hN : 20 ≤ N) : Fy N (n : Int) = some (fmtS n) := by
  unfold Fy fmtS
  rw [Au]
  refine Mi (N := N) _ some (fun n a acc hn ha hl => ?_) 19 n 19 [] (by omega) h (by omega) (by omega) rfl N (by omega)
  have w : wr .u8 (wr .u64 (48 + (n : Int))) = ((48 + n : Nat) : Int) := by
    rw [K8 (by omega), show (48 : Int) + (n : Int) = ((48 + n : Nat) : Int) by simp, Yh, Nat.mod_eq_of_lt (by omega)]
  simp only [Int.toNat_natCast, w]
  rw [WZ]
  rw [Aa (by omega), Aa (by simp <;> omega), Aa (by omega), Aa (by unfold Bi; simp <;> omega)]
  congr 1
  rw [List.drop_append, List.drop_of_length_le (by simp), List.length_replicate, Nat.sub_self, List.drop_zero, List.nil_append, List.take_of_length_le (by simp <;> omega), List.map_cons, Nh]
  rfl
end
end Go.VM
namespace Go.VM
structure NumP (s sg W F FR P EX : List UInt8) : Prop where
  eq : s = sg ++ (W ++ (FR ++ EX))
  sg : sg = [] ∨ sg = [45]
  Wd : W.all EE = true
  Wn : W ≠ []
  fr : (FR = [] ∧ F = []) ∨ FR = 46 :: F
  Fd : F.all EE = true
  ex : (EX = [] ∧ P = []) ∨ EX = 101 :: P ∨ EX = 69 :: P
  pw : P = [] ∨ ∃ sn D, P = sn ++ D ∧ (sn = [] ∨ sn = [43] ∨ sn = [45]) ∧ D ≠ [] ∧ D.all EE = true
theorem OO (t : List UInt8) : (t.take (Ee t)).all EE = true := by
  unfold Ee
  rw [MC]
  induction t with
  | nil => rfl
  | cons c t ih =>
    rw [List.takeWhile_cons]
    cases h : EE c
    · rfl
    · simp only [if_true, List.all_cons, h, Bool.true_and]; exact ih
theorem PH {k : UInt8} {t : List UInt8} (h : DN [k] t = true) : ∃ r, t = k :: r := by
  cases t with
  | nil => cases h
  | cons c r =>
    have : c = k := by simpa [DN] using h
    exact ⟨r, by rw [this]⟩
theorem WK {a b : UInt8} {t : List UInt8} (h : DN [a, b] t = true) : ∃ r, t = a :: r ∨ t = b :: r := by
  cases t with
  | nil => cases h
  | cons c r =>
    have : c = a ∨ c = b := by simpa [DN] using h
    rcases this with rfl | rfl
    · exact ⟨r, .inl rfl⟩
    · exact ⟨r, .inr rfl⟩
theorem AAA (t : List UInt8) : t.take (A7 t) = [] ∨ t.take (A7 t) = [45] := by
  unfold A7
  by_cases h : DN [45] t = true
  · rw [if_pos h]
    obtain ⟨r, rfl⟩ := PH h
    exact .inr rfl
  · rw [if_neg h]; exact .inl (by simp)
theorem AED (t : List UInt8) (h : DI t ≠ 0) : (t.take (DI t)).all EE = true ∧ t.take (DI t) ≠ [] := by
  have hle := OP t
  refine ⟨?_, fun e => ?_⟩
  · unfold DI
    by_cases h : DN [48] t = true
    · rw [if_pos h]
      obtain ⟨r, rfl⟩ := PH h
      rfl
    · rw [if_neg h]; exact OO t
  · have := congrArg List.length e
    rw [List.length_take, List.length_nil] at this
    omega
theorem AAZ (t : List UInt8) : ∃ F, ((t.take (Ef t) = [] ∧ F = []) ∨ t.take (Ef t) = 46 :: F) ∧ F.all EE = true := by
  unfold Ef
  by_cases h : DN [46] t = true ∧ 0 < Ee (t.drop 1)
  · rw [if_pos h]
    obtain ⟨r, rfl⟩ := PH h.1
    refine ⟨r.take (Ee r), .inr ?_, OO r⟩
    rw [Nat.add_comm]; rfl
  · rw [if_neg h]; exact ⟨[], .inl ⟨by simp, rfl⟩, rfl⟩
theorem ACo (t : List UInt8) : ∃ P, ((t.take (Jj t) = [] ∧ P = []) ∨ t.take (Jj t) = 101 :: P ∨ t.take (Jj t) = 69 :: P) ∧ (P = [] ∨ ∃ sn D, P = sn ++ D ∧ (sn = [] ∨ sn = [43] ∨ sn = [45]) ∧ D ≠ [] ∧ D.all EE = true) := by
  unfold Jj
  by_cases h : DN [101, 69] t = true ∧ 0 < Ee (t.drop (1 + IZ t))
  · rw [if_pos h]
    have key : ∀ (c : UInt8) (r : List UInt8), t = c :: r → ∃ P, t.take (1 + IZ t + Ee (t.drop (1 + IZ t))) = c :: P ∧ (P = [] ∨ ∃ sn D, P = sn ++ D ∧ (sn = [] ∨ sn = [43] ∨ sn = [45]) ∧ D ≠ [] ∧ D.all EE = true) := by
      rintro c r rfl
      have hr := h.2
      have hes : IZ (c :: r) = if DN [43, 45] r = true then 1 else 0 := rfl
      by_cases k : DN [43, 45] r = true
      · rw [if_pos k] at hes
        rw [hes] at hr ⊢
        obtain ⟨d, q, rfl, hd⟩ : ∃ d q, r = d :: q ∧ (d = 43 ∨ d = 45) := by
          obtain ⟨q, e | e⟩ := WK k
          · exact ⟨_, q, e, .inl rfl⟩
          · exact ⟨_, q, e, .inr rfl⟩
        have e : (c :: d :: q).drop (1 + 1) = q := rfl
        rw [e] at hr ⊢
        refine ⟨d :: q.take (Ee q), ?_, .inr ⟨[d], q.take (Ee q), rfl, ?_, fun e => ?_, OO q⟩⟩
        · rw [show 1 + 1 + Ee q = Ee q + 1 + 1 by omega]; rfl
        · rcases hd with rfl | rfl
          · exact .inr (.inl rfl)
          · exact .inr (.inr rfl)
        · have := congrArg List.length e
          have h2 := KM q
          rw [List.length_take, List.length_nil] at this; omega
      · rw [if_neg k] at hes
        rw [hes] at hr ⊢
        have e : (c :: r).drop (1 + 0) = r := rfl
        rw [e] at hr ⊢
        refine ⟨r.take (Ee r), ?_, .inr ⟨[], r.take (Ee r), rfl, .inl rfl, fun e => ?_, OO r⟩⟩
        · rw [show 1 + 0 + Ee r = Ee r + 1 by omega]; rfl
        · have := congrArg List.length e
          have h2 := KM r
          rw [List.length_take, List.length_nil] at this; omega
    obtain ⟨r, e | e⟩ := WK h.1
    · obtain ⟨P, h1, h2⟩ := key _ _ e
      exact ⟨P, .inr (.inl h1), h2⟩
    · obtain ⟨P, h1, h2⟩ := key _ _ e
      exact ⟨P, .inr (.inr h1), h2⟩
  · rw [if_neg h]; exact ⟨[], .inl ⟨by simp, rfl⟩, .inl rfl⟩
theorem AIO (s : List UInt8) (a b c : Nat) : s = s.take a ++ ((s.drop a).take b ++ ((s.drop (a + b)).take c ++ s.drop (a + b + c))) := by
  rw [show s.drop (a + b + c) = (s.drop (a + b)).drop c by rw [List.drop_drop], List.take_append_drop, show s.drop (a + b) = (s.drop a).drop b by rw [List.drop_drop], List.take_append_drop, List.take_append_drop]
theorem ABg {s : List UInt8} (h0 : s ≠ []) (h : FT s = s.length) : ∃ sg W F FR P EX, NumP s sg W F FR P EX := by
  have hpos : s.length ≠ 0 := fun e => h0 (List.length_eq_zero_iff.1 e)
  have hz : DI (s.drop (A7 s)) ≠ 0 := by
    intro hz
    unfold FT at h; rw [if_pos hz] at h; omega
  have hnum : FT s = A7 s + DI (s.drop (A7 s)) + Ef (s.drop (A7 s + DI (s.drop (A7 s)))) + Jj (s.drop (A7 s + DI (s.drop (A7 s)) + Ef (s.drop (A7 s + DI (s.drop (A7 s)))))) := by
    unfold FT; rw [if_neg hz]
  obtain ⟨w1, w2⟩ := AED _ hz
  obtain ⟨F, f1, f2⟩ := AAZ (s.drop (A7 s + DI (s.drop (A7 s))))
  obtain ⟨P, e1, e2⟩ := ACo (s.drop (A7 s + DI (s.drop (A7 s)) + Ef (s.drop (A7 s + DI (s.drop (A7 s))))))
  refine ⟨_, _, F, _, P, _, ⟨?_, AAA s, w1, w2, f1, f2, e1, e2⟩⟩
  rw [List.take_of_length_le (l := s.drop (A7 s + DI (s.drop (A7 s)) + Ef (s.drop (A7 s + DI (s.drop (A7 s)))))) (by rw [List.length_drop]; omega)]
  exact AIO _ _ _ _
theorem AHq {c k : UInt8} (h : EE c = true) (hk : EE k = false) : c ≠ k := fun e => by subst e; rw [h] at hk; cases hk
theorem OM {k : UInt8} (hk : EE k = false) : ∀ {l : List UInt8}, l.all EE = true → l.contains k = false
  | [], _ => rfl
  | c :: l, h => by
    simp only [List.all_cons, Bool.and_eq_true] at h
    rw [List.contains_cons, OM hk h.2, Bool.or_false]
    have := AHq h.1 hk
    simpa using fun e : k = c => this e.symm
end Go.VM
