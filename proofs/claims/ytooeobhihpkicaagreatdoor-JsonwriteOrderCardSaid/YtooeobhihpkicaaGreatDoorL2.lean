import Derived.Test.YtooeobhihpkicaaGreatDoorL1
import Derived.KernelRfl
set_option linter.unusedVariables false
set_option linter.unusedSimpArgs false
namespace Go.VM
def at0 (d : List Int) (i : Nat) : Int := d.getD i 0
def swD (d : List Int) (i j : Nat) : List Int := (d.set i (at0 d j)).set j (at0 d i)
section
variable {d d' e : List Int} {a b i j k n : Nat}
theorem Dz : (swD d i j).length = d.length := by simp [swD]
theorem O0 (h : i < d.length) : at0 d i = d[i] := by simp [at0, h]
theorem Gb (hi : i < d.length) (hj : j < d.length) : at0 (swD d i j) k = if k = j then at0 d i else if k = i then at0 d j else at0 d k := by
  unfold at0 swD
  rw [List.getD_eq_getElem?_getD]
  by_cases h : k = j
  · subst h; rw [if_pos rfl, List.getElem?_set_self (by simpa using hj)]; rfl
  · rw [if_neg h, List.getElem?_set_ne (fun e => h e.symm)]
    by_cases h2 : k = i
    · subst h2; rw [if_pos rfl, List.getElem?_set_self hi]; rfl
    · rw [if_neg h2, List.getElem?_set_ne (fun e => h2 e.symm), ← List.getD_eq_getElem?_getD]
theorem Jb (h : i < d.length) : idx d (i : Int) = some (at0 d i) := by
  rw [OH, List.getElem?_eq_getElem h, O0 h]
theorem AFQ (hi : i < d.length) (hj : j < d.length) : (swD d i j).Perm d := by
  rw [List.perm_iff_count]
  intro x
  unfold swD
  rw [O0 hi, O0 hj]
  have hj' : j < (d.set i d[j]).length := by simpa using hj
  rw [List.count_set hj', List.count_set hi, List.getElem_set]
  have p1 : (d[i] == x) = true → 0 < d.count x := fun h => List.count_pos_iff.2 (by rw [← beq_iff_eq.1 h]; exact List.getElem_mem hi)
  have p2 : (d[j] == x) = true → 0 < d.count x := fun h => List.count_pos_iff.2 (by rw [← beq_iff_eq.1 h]; exact List.getElem_mem hj)
  by_cases e : i = j
  · subst e
    rw [if_pos rfl]
    split <;> simp_all <;> omega
  · rw [if_neg e]
    cases h1 : d[i] == x <;> cases h2 : d[j] == x <;> simp_all <;> omega
inductive Sw (a b : Nat) : List Int → List Int → Prop
  | refl (d : List Int) : Sw a b d d
  | step {d d' : List Int} (h : Sw a b d d') (i j : Nat) (hi : a ≤ i ∧ i < b) (hj : a ≤ j ∧ j < b) : Sw a b d (swD d' i j)
theorem Sw.one (hi : a ≤ i ∧ i < b) (hj : a ≤ j ∧ j < b) : Sw a b d (swD d i j) := .step (.refl d) i j hi hj
theorem Sw.trans (h : Sw a b d d') (k : Sw a b d' e) : Sw a b d e := by
  induction k with
  | refl => exact h
  | step _ i j hi hj ih => exact .step ih i j hi hj
theorem Sw.mono {a' b' : Nat} (h : Sw a b d d') (ha : a' ≤ a) (hb : b ≤ b') : Sw a' b' d d' := by
  induction h with
  | refl => exact .refl _
  | step _ i j hi hj ih => exact .step ih i j (by omega) (by omega)
theorem Sw.len (h : Sw a b d d') : d'.length = d.length := by
  induction h with
  | refl => rfl
  | step _ i j hi hj ih => rw [Dz, ih]
theorem Sw.out (h : Sw a b d d') (hb : b ≤ d.length) (hk : k < a ∨ b ≤ k) : at0 d' k = at0 d k := by
  induction h with
  | refl => rfl
  | step h i j hi hj ih =>
    have := h.len
    rw [Gb (by omega) (by omega), if_neg (by omega), if_neg (by omega), ih]
theorem Sw.all (h : Sw a b d d') (hb : b ≤ d.length) {p : Int → Prop} (hp : ∀ k, a ≤ k → k < b → p (at0 d k)) : ∀ k, a ≤ k → k < b → p (at0 d' k) := by
  induction h with
  | refl => exact hp
  | step h i j hi hj ih =>
    intro k k1 k2
    have := h.len
    rw [Gb (by omega) (by omega)]
    split
    · exact ih i hi.1 hi.2
    · split
      · exact ih j hj.1 hj.2
      · exact ih k k1 k2
theorem Sw.perm (h : Sw a b d d') (hb : b ≤ d.length) : d'.Perm d := by
  induction h with
  | refl => exact .refl _
  | step h i j hi hj ih =>
    have := h.len
    exact (AFQ (by omega) (by omega)).trans ih
end
def kth (c : ApiValue) (x : Int) : List UInt8 := c.keys.getD x.toNat []
def ltI (c : ApiValue) (x y : Int) : Bool := Op.bytesLess (kth c x) (kth c y)
theorem AGS (c : ApiValue) (x : Int) : ltI c x x = false := YR _
theorem Mw {c : ApiValue} {x y z : Int} (h : ltI c x y = true) (k : ltI c y z = true) : ltI c x z = true := ZV h k
theorem AIT {c : ApiValue} {x y : Int} (h : ltI c x y = true) : ltI c y x = false := by
  cases e : ltI c y x
  · rfl
  · have := Mw h e; rw [AGS] at this; cases this
structure Row (c : ApiValue) (d : List Int) : Prop where
  big : d.length ≤ 2000
  rng : ∀ i, i < d.length → 0 ≤ at0 d i ∧ (at0 d i).toNat < c.keys.length
  dis : ∀ i j, i < d.length → j < d.length → i ≠ j → ltI c (at0 d i) (at0 d j) = true ∨ ltI c (at0 d j) (at0 d i) = true
section
variable {N : Nat} {c : ApiValue} {d d' : List Int} {a b i j l0 : Nat}
theorem Row.sw (h : Row c d) (hi : i < d.length) (hj : j < d.length) : Row c (swD d i j) := by
  refine ⟨by rw [Dz]; exact h.big, fun k hk => ?_, fun k l hk hl hne => ?_⟩
  · rw [Dz] at hk
    rw [Gb hi hj]
    split
    · exact h.rng i hi
    · split
      · exact h.rng j hj
      · exact h.rng k hk
  · rw [Dz] at hk hl
    rw [Gb hi hj, Gb hi hj]
    split <;> split <;> (try split) <;> (try split) <;> first | (exact absurd (by omega) hne) | exact h.dis _ _ (by omega) (by omega) (by omega)
theorem Sw.row (h : Sw a b d d') (hb : b ≤ d.length) (k : Row c d) : Row c d' := by
  induction h with
  | refl => exact k
  | step h i j hi hj ih => 
    have := h.len
    exact ih.sw (by omega) (by omega)
theorem Row.gt (h : Row c d) (hi : i < d.length) (hj : j < d.length) (hne : i ≠ j) (hn : ltI c (at0 d i) (at0 d j) = false) : ltI c (at0 d j) (at0 d i) = true := by
  rcases h.dis i j hi hj hne with e | e
  · rw [hn] at e; cases e
  · exact e
def AFE (c : ApiValue) (x y : Int) : Int := if Op.bytesLess (kth c x) (kth c y) = true then -1 else if (kth c x == kth c y) = true then 0 else 1
theorem Gj (x y : Int) : decide (AFE c x y < 0) = ltI c x y := by
  unfold AFE ltI
  cases Op.bytesLess (kth c x) (kth c y)
  · simp only [Bool.false_eq_true, if_false]; split <;> decide
  · simp
theorem cmp_eq (h : Row c d) (i j : Nat) (hi : i < d.length) (hj : j < d.length) : BQ N (at0 d i) (at0 d j) c = some (AFE c (at0 d i) (at0 d j)) := by
  have key : ∀ k, k < d.length → idx c.keys (at0 d k) = some (kth c (at0 d k)) := fun k hk => by
    obtain ⟨h1, h2⟩ := h.rng k hk
    unfold idx kth
    rw [if_pos h1, List.getElem?_eq_getElem h2, List.getD_eq_getElem?_getD, List.getElem?_eq_getElem h2]; rfl
  unfold BQ Fb cmp_isNaN_string
  rw [key i hi, key j hj]
  simp only [Option.bind_some, beq_self_eq_true, Bool.not_true, Bool.false_eq_true, if_false]
  unfold AFE
  split
  · rfl
  · split <;> rfl
def Asc' (c : ApiValue) (a b : Nat) (d : List Int) : Prop := ∀ p q, a ≤ p → p < q → q < b → ltI c (at0 d p) (at0 d q) = true
def InsI (c : ApiValue) (a i s : Nat) (d : List Int) : Prop := ∀ p q, a ≤ p → p < q → q ≤ i → q ≠ s → ltI c (at0 d p) (at0 d q) = true
theorem InsI.step (hi : i < d.length) {t : Nat} (ht : a ≤ t) (hti : t + 1 ≤ i) (h : InsI c a i (t + 1) d) (hl : ltI c (at0 d (t + 1)) (at0 d t) = true) : InsI c a i t (swD d (t + 1) t) := by
  intro p q h1 h2 h3 h4
  rw [Gb (by omega) (by omega), Gb (by omega) (by omega), if_neg h4]
  by_cases e1 : q = t + 1
  · subst e1
    rw [if_pos rfl]
    by_cases e2 : p = t
    · rw [if_pos e2]; exact hl
    · rw [if_neg e2, if_neg (by omega)]
      exact h p t h1 (by omega) (by omega) (by omega)
  · rw [if_neg e1]
    by_cases e2 : p = t
    · rw [if_pos e2]; exact h (t + 1) q (by omega) (by omega) h3 e1
    · rw [if_neg e2]
      by_cases e3 : p = t + 1
      · rw [if_pos e3]; exact h t q ht (by omega) h3 e1
      · rw [if_neg e3]; exact h p q h1 h2 h3 e1
theorem InsI.done (hr : Row c d) (hi : i < d.length) {s : Nat} (hs : a ≤ s) (hsi : s ≤ i) (h : InsI c a i s d) (hl : s = a ∨ ∃ t, s = t + 1 ∧ a ≤ t ∧ ltI c (at0 d s) (at0 d t) = false) : Asc' c a (i + 1) d := by
  intro p q h1 h2 h3
  by_cases e : q = s
  · subst e
    rcases hl with rfl | ⟨t, rfl, ht, hl⟩
    · omega
    · have hg := hr.gt (by omega) (by omega) (by omega) hl
      by_cases e2 : p = t
      · rw [e2]; exact hg
      · exact Mw (h p t h1 (by omega) (by omega) (by omega)) hg
  · exact h p q h1 h2 (by omega) e
theorem RN (k3 : List Int → Option (List Int)) (hi : i < l0) : ∀ (s k : Nat) (d : List Int), a ≤ s → s ≤ i → d.length = l0 → s < k → Row c d → InsI c a i s d →
    ∃ d', Ao N l0 (a : Int) c k3 k (s : Int) d = k3 d' ∧ Sw a (i + 1) d d' ∧ Asc' c a (i + 1) d'
  | s, 0, d, _, _, _, hk, _, _ => by omega
  | s, k + 1, d, h1, h2, hl, hk, hr, hI => by
    have hb := hr.big
    rw [Ao]
    simp only [Au]
    by_cases hs : s = a
    · subst hs
      rw [if_neg (by simp), if_neg (by decide)]
      exact ⟨d, rfl, .refl d, hI.done hr (by omega) h1 h2 (.inl rfl)⟩
    · obtain ⟨t, rfl⟩ : ∃ t, s = t + 1 := ⟨s - 1, by omega⟩
      have e1 : ((t + 1 : Nat) : Int) - 1 = (t : Int) := by omega
      have hc := cmp_eq (N := N) hr
      rw [if_pos (by simp only [decide_eq_true_eq]; omega)]
      simp (disch := omega) only [e1, A8, Aa, Jb, Option.bind_some, hc, Gj, Int.toNat_natCast]
      cases hlt : ltI c (at0 d (t + 1)) (at0 d t)
      · rw [if_neg (by decide)]
        exact ⟨d, rfl, .refl d, hI.done hr (by omega) h1 h2 (.inr ⟨t, rfl, by omega, hlt⟩)⟩
      · rw [if_pos rfl]
        obtain ⟨d', f1, f2, f3⟩ := RN k3 hi t k (swD d (t + 1) t) (by omega) (by omega) (by rw [Dz]; exact hl) (by omega) (hr.sw (by omega) (by omega)) (hI.step (by omega) (by omega) (by omega) hlt)
        exact ⟨d', f1, (Sw.one (by omega) (by omega)).trans f2, f3⟩
theorem Qh (hb : b ≤ l0) (hN : b < N) : ∀ (m i : Nat) (d : List Int), a < i → i + m = b → d.length = l0 → Row c d → Asc' c a i d →
    ∃ d', AQ N l0 (a : Int) c m (i : Int) d = some d' ∧ Sw a b d d' ∧ Asc' c a b d'
  | 0, i, d, _, h2, _, _, hA => by
    rw [AQ]
    exact ⟨d, rfl, .refl d, by rw [← h2]; exact hA⟩
  | m + 1, i, d, h1, h2, hl, hr, hA => by
    rw [AQ]
    simp only [Au]
    obtain ⟨d1, f1, f2, f3⟩ := RN (N := N) (a := a) (c := c) (fun j2 => AQ N l0 (a : Int) c m ((i : Int) + 1) j2) (show i < l0 by omega) i N d (by omega) (by omega) hl (by omega) hr (fun p q k1 k2 k3 k4 => hA p q k1 k2 (by omega))
    rw [f1]
    have hr1 := f2.row (by omega) hr
    obtain ⟨d2, g1, g2, g3⟩ := Qh hb hN m (i + 1) d1 (by omega) (by omega) (by rw [f2.len]; exact hl) hr1 f3
    exact ⟨d2, g1, (f2.mono (by omega) (by omega)).trans g2, g3⟩
theorem AIF (h : Row c d) (hab : a < b) (hb : b ≤ d.length) (hN : b < N) : Ok (Av N d.length d a b c) fun d' => Sw a b d d' ∧ Asc' c a b d' := by
  have hbig := h.big
  unfold Av
  rw [show (a : Int) + 1 = ((a + 1 : Nat) : Int) by simp, JW (by omega), Aa (by omega), show (((b : Nat) : Int) - ((a + 1 : Nat) : Int)).toNat = b - (a + 1) by omega]
  obtain ⟨d', f1, f2, f3⟩ := Qh (N := N) (c := c) (a := a) hb hN (b - (a + 1)) (a + 1) d (by omega) (by omega) rfl h (fun p q k1 k2 k3 => by omega)
  exact ⟨d', f1, f2, f3⟩
end
end Go.VM
namespace Go.VM
def HF (c : ApiValue) (a lo hi : Nat) (d : List Int) : Prop := ∀ r ch, lo ≤ r → (ch = 2 * r + 1 ∨ ch = 2 * r + 2) → ch < hi → ltI c (at0 d (a + ch)) (at0 d (a + r)) = true
structure HP (c : ApiValue) (a lo hi r0 : Nat) (d : List Int) : Prop where
  own : ∀ r ch, lo ≤ r → r ≠ r0 → (ch = 2 * r + 1 ∨ ch = 2 * r + 2) → ch < hi → ltI c (at0 d (a + ch)) (at0 d (a + r)) = true
  up : ∀ r ch, lo ≤ r → (r0 = 2 * r + 1 ∨ r0 = 2 * r + 2) → (ch = 2 * r0 + 1 ∨ ch = 2 * r0 + 2) → ch < hi → ltI c (at0 d (a + ch)) (at0 d (a + r)) = true
section
variable {N : Nat} {c : ApiValue} {d d' : List Int} {a b lo hi l0 r : Nat}
theorem HP.swap (h : HP c a lo hi r d) {m : Nat} (hlen : a + hi ≤ d.length) (hlo : lo ≤ r) (hm : m = 2 * r + 1 ∨ m = 2 * r + 2) (hmh : m < hi) (hlt : ltI c (at0 d (a + r)) (at0 d (a + m)) = true)
    (hmax : ∀ o, (o = 2 * r + 1 ∨ o = 2 * r + 2) → o < hi → o ≠ m → ltI c (at0 d (a + o)) (at0 d (a + m)) = true) : HP c a lo hi m (swD d (a + r) (a + m)) := by
  have rd : ∀ x, at0 (swD d (a + r) (a + m)) (a + x) = if x = m then at0 d (a + r) else if x = r then at0 d (a + m) else at0 d (a + x) := fun x => by
    rw [Gb (by omega) (by omega)]
    by_cases e1 : x = m
    · rw [if_pos (by omega), if_pos e1]
    · by_cases e2 : x = r
      · rw [if_neg (by omega), if_pos (by omega), if_neg e1, if_pos e2]
      · rw [if_neg (by omega), if_neg (by omega), if_neg e1, if_neg e2]
  constructor
  · intro x ch h1 h2 h3 h4
    rw [rd, rd, if_neg h2]
    by_cases e1 : x = r
    · subst e1
      rw [if_pos rfl]
      by_cases e2 : ch = m
      · rw [if_pos e2]; exact hlt
      · rw [if_neg e2, if_neg (by omega)]; exact hmax ch h3 h4 e2
    · rw [if_neg e1, if_neg (by omega)]
      by_cases e3 : ch = r
      · subst e3; rw [if_pos rfl]; exact h.up x m h1 h3 hm hmh
      · rw [if_neg e3]; exact h.own x ch h1 e1 h3 h4
  · intro x ch h1 h2 h3 h4
    have : x = r := by omega
    subst this
    rw [rd, rd, if_neg (by omega), if_neg (by omega), if_neg (by omega), if_pos rfl]
    exact h.own m ch (by omega) (by omega) h3 h4
theorem HP.done (h : HP c a lo hi r d) (hr : ∀ ch, (ch = 2 * r + 1 ∨ ch = 2 * r + 2) → ch < hi → ltI c (at0 d (a + ch)) (at0 d (a + r)) = true) : HF c a lo hi d := by
  intro x ch h1 h2 h3
  by_cases e : x = r
  · subst e; exact hr ch h2 h3
  · exact h.own x ch h1 e h2 h3
theorem Qo (hb : a + hi ≤ l0) : ∀ (k r : Nat) (d : List Int), lo ≤ r → hi + 1 ≤ r + k → 1 ≤ k → d.length = l0 → Row c d → HP c a lo hi r d → r ≤ hi →
    Ok (Ak N l0 (hi : Int) (a : Int) c k (r : Int) d) fun d' => Sw a (a + hi) d d' ∧ HF c a lo hi d'
  | 0, r, d, _, _, hk, _, _, _, _ => by omega
  | k + 1, r, d, h1, h2, _, hl, hr, hp, hrh => by
    have hbig := hr.big
    have hc := cmp_eq (N := N) hr
    have e2 : (2 : Int) * (r : Int) = ((2 * r : Nat) : Int) := by omega
    have e3 : ((2 * r : Nat) : Int) + 1 = ((2 * r + 1 : Nat) : Int) := by omega
    have e4 : ((2 * r + 1 : Nat) : Int) + 1 = ((2 * r + 2 : Nat) : Int) := by omega
    have e5 : (a : Int) + ((2 * r + 1 : Nat) : Int) = ((a + (2 * r + 1) : Nat) : Int) := by omega
    have e6 : ((a + (2 * r + 1) : Nat) : Int) + 1 = ((a + (2 * r + 2) : Nat) : Int) := by omega
    have e7 : (a : Int) + (r : Int) = ((a + r : Nat) : Int) := by omega
    rw [Ak]
    simp only [Au]
    by_cases hch : 2 * r + 1 ≥ hi
    · simp (disch := omega) only [e2, e3, A8]
      rw [if_pos (by simp only [decide_eq_true_eq]; omega)]
      exact Ok.ret ⟨.refl d, hp.done fun ch k1 k2 => by omega⟩
    · -- the greater child
      have main : ∀ m : Nat, (m = 2 * r + 1 ∨ m = 2 * r + 2) → m < hi → (∀ o, (o = 2 * r + 1 ∨ o = 2 * r + 2) → o < hi → o ≠ m → ltI c (at0 d (a + o)) (at0 d (a + m)) = true) →
          Ok (if ltI c (at0 d (a + r)) (at0 d (a + m)) = true then Ak N l0 (hi : Int) (a : Int) c k (m : Int) (swD d (a + r) (a + m)) else some d) fun d' => Sw a (a + hi) d d' ∧ HF c a lo hi d' := by
        intro m hm hmh hmax
        cases hlt : ltI c (at0 d (a + r)) (at0 d (a + m))
        · have hg := hr.gt (i := a + r) (j := a + m) (by omega) (by omega) (by omega) hlt
          rw [if_neg (by decide)]
          refine Ok.ret ⟨.refl d, hp.done fun ch k1 k2 => ?_⟩
          by_cases e : ch = m
          · subst e; exact hg
          · exact Mw (hmax ch k1 k2 e) hg
        · rw [if_pos rfl]
          refine (Qo hb k m (swD d (a + r) (a + m)) (by omega) (by omega) (by omega) (by rw [Dz]; exact hl) (hr.sw (by omega) (by omega)) (hp.swap (by omega) h1 hm hmh hlt hmax) (by omega)).mono fun d' hd => ⟨(Sw.one (by omega) (by omega)).trans hd.1, hd.2⟩
      have e8 : ∀ m : Nat, (a : Int) + (m : Int) = ((a + m : Nat) : Int) := fun m => by omega
      by_cases h22 : 2 * r + 2 < hi
      · simp (disch := omega) only [e2, e3, e4, e5, e6, A8, Aa, Jb, Option.bind_some, hc, Gj, Int.toNat_natCast]
        rw [if_neg (by simp only [decide_eq_true_eq]; omega), if_pos (by simp only [decide_eq_true_eq]; omega)]
        cases hx : ltI c (at0 d (a + (2 * r + 1))) (at0 d (a + (2 * r + 2)))
        · rw [if_neg (by decide)]
          have := main (2 * r + 1) (.inl rfl) (by omega) fun o o1 o2 o3 => by
            have : o = 2 * r + 2 := by omega
            subst this
            exact hr.gt (i := a + (2 * r + 1)) (j := a + (2 * r + 2)) (by omega) (by omega) (by omega) hx
          simpa (disch := omega) only [swD, e7, e8, A8, Aa, Jb, Option.bind_some, hc, Gj, Int.toNat_natCast] using this
        · rw [if_pos rfl]
          have := main (2 * r + 2) (.inr rfl) (by omega) fun o o1 o2 o3 => by
            have : o = 2 * r + 1 := by omega
            subst this
            exact hx
          simpa (disch := omega) only [swD, e7, e8, A8, Aa, Jb, Option.bind_some, hc, Gj, Int.toNat_natCast] using this
      · simp (disch := omega) only [e2, e3, e4, A8]
        rw [if_neg (by simp only [decide_eq_true_eq]; omega), if_neg (by simp only [decide_eq_true_eq]; omega), if_neg (by decide)]
        have := main (2 * r + 1) (.inl rfl) (by omega) fun o o1 o2 o3 => by omega
        simpa (disch := omega) only [swD, e7, e8, A8, Aa, Jb, Option.bind_some, hc, Gj, Int.toNat_natCast] using this
theorem Zh (hb : a + hi ≤ d.length) (hr : Row c d) (hN : hi + 1 ≤ N) (hlo : lo ≤ hi) (hp : HP c a lo hi lo d) : Ok (BL N d.length d (lo : Int) (hi : Int) (a : Int) c) fun d' => Sw a (a + hi) d d' ∧ HF c a lo hi d' := by
  unfold BL
  exact Qo hb N lo d (Nat.le_refl _) (by omega) (by omega) rfl hr hp hlo
theorem HF.top (h : HF c a 0 hi d) : ∀ k, 0 < k → k < hi → ltI c (at0 d (a + k)) (at0 d a) = true := by
  intro k
  induction k using Nat.strongRecOn with
  | _ k ih =>
    intro h0 h1
    obtain ⟨p, hp⟩ : ∃ p, k = 2 * p + 1 ∨ k = 2 * p + 2 := ⟨(k - 1) / 2, by omega⟩
    have := h p k (by omega) hp h1
    by_cases e : p = 0
    · subst e; exact this
    · exact Mw this (ih p (by omega) (by omega) (by omega))
theorem P7 (k2 : List Int → Option (List Int)) {Q : List Int → Prop} (hb : a + hi ≤ l0) (hbN : hi + 1 ≤ N) (hab : (b : Int) = a + hi) (hbig : l0 ≤ 2000) (hk2 : ∀ d', d'.length = l0 → Row c d' → HF c a 0 hi d' → Ok (k2 d') fun d'' => Sw a (a + hi) d' d'' ∧ Q d'') : ∀ (m k : Nat) (d : List Int), m < k → m ≤ hi → d.length = l0 → Row c d → HF c a m hi d →
    Ok (Al N l0 (a : Int) (b : Int) c k2 k ((m : Int) - 1) d) fun d' => Sw a (a + hi) d d' ∧ Q d'
  | m, 0, d, h, _, _, _, _ => by omega
  | 0, k + 1, d, _, _, hl, hr, hh => by
    rw [Al, if_neg (by simp)]
    exact hk2 d hl hr hh
  | m + 1, k + 1, d, h1, h2, hl, hr, hh => by
    have e1 : ((m + 1 : Nat) : Int) - 1 = (m : Int) := by omega
    have e2 : (b : Int) - (a : Int) = (hi : Int) := by omega
    rw [Al, e1, if_pos (by simp), e2, A8 (by omega), A8 (by omega)]
    have hs := Zh (N := N) (c := c) (d := d) (a := a) (lo := m) (hi := hi) (by omega) hr hbN (by omega) ⟨fun r ch k1 k2 k3 k4 => hh r ch (by omega) k3 k4, fun r ch k1 k2 k3 k4 => by omega⟩
    rw [hl] at hs
    refine hs.bind fun d1 hd => ?_
    refine (P7 k2 hb hbN hab hbig hk2 m k d1 (by omega) (by omega) (by rw [hd.1.len]; exact hl) (hd.1.row (by omega) hr) hd.2).mono fun d' h' => ⟨hd.1.trans h'.1, h'.2⟩
theorem Ww (hb : a + hi ≤ l0) (hbN : hi + 1 ≤ N) (hbig : l0 ≤ 2000) : ∀ (m k : Nat) (d : List Int), m < k → m ≤ hi → d.length = l0 → Row c d → HF c a 0 m d → (∀ p q, p < q → m ≤ q → q < hi → ltI c (at0 d (a + p)) (at0 d (a + q)) = true) →
    Ok (Aj N l0 (a : Int) c k ((m : Int) - 1) d) fun d' => Sw a (a + hi) d d' ∧ Asc' c a (a + hi) d'
  | m, 0, d, h, _, _, _, _, _ => by omega
  | 0, k + 1, d, _, _, hl, hr, hh, hs => by
    rw [Aj, if_neg (by simp)]
    refine Ok.ret ⟨.refl d, fun p q h1 h2 h3 => ?_⟩
    obtain ⟨p, rfl⟩ : ∃ x, p = a + x := ⟨p - a, by omega⟩
    obtain ⟨q, rfl⟩ : ∃ x, q = a + x := ⟨q - a, by omega⟩
    exact hs p q (by omega) (by omega) (by omega)
  | m + 1, k + 1, d, h1, h2, hl, hr, hh, hs => by
    have e1 : ((m + 1 : Nat) : Int) - 1 = (m : Int) := by omega
    have e7 : (a : Int) + (m : Int) = ((a + m : Nat) : Int) := by omega
    rw [Aj, e1, if_pos (by simp)]
    simp (disch := omega) only [e7, A8, Aa, Jb, Option.bind_some, Int.toNat_natCast]
    have esw : (d.set a (at0 d (a + m))).set (a + m) (at0 d a) = swD d a (a + m) := rfl
    rw [esw]
    have rd : ∀ x, at0 (swD d a (a + m)) (a + x) = if x = m then at0 d a else if x = 0 then at0 d (a + m) else at0 d (a + x) := fun x => by
      rw [Gb (by omega) (by omega)]
      by_cases e1 : x = m
      · rw [if_pos (by omega), if_pos e1]
      · by_cases e2 : x = 0
        · rw [if_neg (by omega), if_pos (by omega), if_neg e1, if_pos e2]
        · rw [if_neg (by omega), if_neg (by omega), if_neg e1, if_neg e2]
    have hr1 := hr.sw (i := a) (j := a + m) (by omega) (by omega)
    have hsi := Zh (N := N) (c := c) (d := swD d a (a + m)) (a := a) (lo := 0) (hi := m) (by rw [Dz]; omega) hr1 (by omega) (by omega) ⟨fun r ch k1 k2 k3 k4 => by
        rw [rd, rd, if_neg (by omega), if_neg (by omega), if_neg (by omega), if_neg (by omega)]
        exact hh r ch k1 k3 (by omega), fun r ch k1 k2 k3 k4 => by omega⟩
    rw [Dz, hl] at hsi
    refine hsi.bind fun d1 hd => ?_
    have htop := hh.top
    have hord : ∀ p q, p < q → m ≤ q → q < hi → ltI c (at0 d1 (a + p)) (at0 d1 (a + q)) = true := by
      intro p q p1 p2 p3
      have oq : at0 d1 (a + q) = at0 (swD d a (a + m)) (a + q) := hd.1.out (by rw [Dz]; omega) (.inr (by omega))
      have less : ∀ x, x < q → ltI c (at0 (swD d a (a + m)) (a + x)) (at0 (swD d a (a + m)) (a + q)) = true := by
        intro x hx
        rw [rd, rd]
        by_cases eq : q = m
        · subst eq
          rw [if_pos rfl, if_neg (by omega)]
          by_cases ex : x = 0
          · rw [if_pos ex]; exact htop q (by omega) (by omega)
          · rw [if_neg ex]; exact htop x (by omega) (by omega)
        · rw [if_neg eq, if_neg (by omega : ¬ q = 0)]
          by_cases ex : x = m
          · rw [if_pos ex]; exact hs 0 q (by omega) (by omega) p3
          · rw [if_neg ex]
            by_cases ex0 : x = 0
            · rw [if_pos ex0]; exact hs m q (by omega) (by omega) p3
            · rw [if_neg ex0]; exact hs x q hx (by omega) p3
      rw [oq]
      by_cases hpm : p < m
      · exact hd.1.all (by rw [Dz]; omega) (p := fun v => ltI c v (at0 (swD d a (a + m)) (a + q)) = true) (fun x x1 x2 => by
          obtain ⟨y, rfl⟩ : ∃ y, x = a + y := ⟨x - a, by omega⟩
          exact less y (by omega)) (a + p) (by omega) (by omega)
      · have op : at0 d1 (a + p) = at0 (swD d a (a + m)) (a + p) := hd.1.out (by rw [Dz]; omega) (.inr (by omega))
        rw [op]; exact less p p1
    refine (Ww hb hbN hbig m k d1 (by omega) (by omega) (by rw [hd.1.len, Dz]; exact hl) (hd.1.row (by rw [Dz]; omega) hr1) hd.2 hord).mono fun d' h' => ⟨((Sw.one (by omega) (by omega)).trans (hd.1.mono (Nat.le_refl _) (by omega))).trans h'.1, h'.2⟩
theorem AGM (h : Row c d) (hab : a < b) (hb : b ≤ d.length) (hN : b + 2 ≤ N) : Ok (BZ N d.length d (a : Int) (b : Int) c) fun d' => Sw a b d d' ∧ Asc' c a b d' := by
  have hbig := h.big
  obtain ⟨hi, rfl⟩ : ∃ x, b = a + x := ⟨b - a, by omega⟩
  unfold BZ
  simp only [Au]
  have e1 : ((a + hi : Nat) : Int) - (a : Int) = (hi : Int) := by omega
  have e2 : ((hi : Int) - 1).tdiv 2 = (((hi - 1) / 2 + 1 : Nat) : Int) - 1 := by
    rw [show (hi : Int) - 1 = ((hi - 1 : Nat) : Int) by omega, show ((hi - 1 : Nat) : Int).tdiv 2 = (((hi - 1) / 2 : Nat) : Int) from rfl]; omega
  rw [e1, A8 (n := (hi : Int)) (by omega), A8 (n := (hi : Int) - 1) (by omega), e2, A8 (by omega)]
  exact P7 (N := N) (c := c) (a := a) (hi := hi) (b := a + hi) _ (Q := fun d' => Asc' c a (a + hi) d') hb (by omega) (by omega) hbig (fun d' k1 k2 k3 => Ww (N := N) hb (by omega) hbig hi N d' (by omega) (Nat.le_refl _) k1 k2 k3 (fun p q q1 q2 q3 => by omega)) ((hi - 1) / 2 + 1) N d (by omega) (by omega) rfl h (fun r ch k1 k2 k3 => by omega)
theorem Vu (hb : b ≤ l0) (hbig : l0 ≤ 2000) : ∀ (k i j : Nat) (d : List Int), a ≤ i → j ≤ b → b < k + i → 1 ≤ k → d.length = l0 → i ≤ b →
    Ok (Aq N l0 k (i : Int) ((j : Int) - 1) d) fun d' => Sw a b d d'
  | 0, i, j, d, _, _, _, h, _, _ => by omega
  | k + 1, i, j, d, h1, h2, h3, _, hl, _ => by
    rw [Aq]
    by_cases hlt : i + 1 < j
    · obtain ⟨t, rfl⟩ : ∃ t, j = t + 1 := ⟨j - 1, by omega⟩
      have e1 : ((t + 1 : Nat) : Int) - 1 = (t : Int) := by omega
      have e2 : (i : Int) + 1 = ((i + 1 : Nat) : Int) := by omega
      rw [if_pos (by simp only [decide_eq_true_eq]; omega), e1]
      simp (disch := omega) only [e2, A8, Aa, Jb, Option.bind_some, Int.toNat_natCast]
      have := Vu hb hbig k (i + 1) t (swD d i t) (by omega) (by omega) (by omega) (by omega) (by rw [Dz]; exact hl) (by omega)
      exact this.mono fun d' h' => (Sw.one (by omega) (by omega)).trans h'
    · rw [if_neg (by simp only [decide_eq_true_eq]; omega)]
      exact Ok.ret (.refl d)
theorem AHf (h : Row c d) (hab : a < b) (hb : b ≤ d.length) (hN : b + 2 ≤ N) : Ok (BS N d.length d (a : Int) (b : Int) c) fun d' => Sw a b d d' := by
  have hbig := h.big
  unfold BS
  rw [A8 (by omega)]
  exact Vu hb hbig N a b d (Nat.le_refl _) (Nat.le_refl _) (by omega) (by omega) rfl (by omega)
end
end Go.VM
namespace Go.VM
section
variable {N : Nat} {c : ApiValue} {d d' : List Int} {a b i j l0 : Nat}
theorem Zd {a0 : List Int} {a1 a2 a3 x1 x2 : Int} {k4 : Int → Option (Int × Bool × List Int)} : ∀ (k : Nat) (s : Int), Aw N l0 a0 a1 a2 a3 c x1 x2 k4 k s = AX N l0 a1 c (wr .i64 (a2 - 1)) ((a0.set a1.toNat x1).set a3.toNat x2) k4 k s
  | 0, s => rfl
  | k + 1, s => by
    rw [Aw, AX]
    simp only [Au, Zd k]
theorem ZK {a0 : List Int} {a1 a3 x1 x2 j3 : Int} {k17 : Int → Option (Int × Bool × List Int)} : ∀ (k : Nat) (s : Int), Ay N l0 a0 a1 a3 c x1 x2 j3 k17 k s = AV N l0 a1 c ((a0.set a1.toNat x1).set a3.toNat x2) j3 k17 k s
  | 0, s => rfl
  | k + 1, s => by
    rw [Ay, AV]
    simp only [Au, ZK k]
theorem SS (hr : Row c d) (hl : d.length = l0) (ha : a < l0) (hj : j ≤ l0) : ∀ (k i : Nat), j < k + i → 1 ≤ k → i ≤ l0 + 1 →
    ∃ i' : Nat, (∀ k4 : Int → Option (Int × Bool × List Int), AX N l0 (a : Int) c ((j : Int) - 1) d k4 k (i : Int) = k4 (i' : Int)) ∧ i ≤ i' ∧ (i' ≤ j ∨ i' = i) ∧ (∀ x, i ≤ x → x < i' → ltI c (at0 d x) (at0 d a) = true) ∧ (i' < j → ltI c (at0 d i') (at0 d a) = false)
  | 0, i, _, h, _ => by omega
  | k + 1, i, h1, _, h3 => by
    have hbig := hr.big
    have hc := cmp_eq (N := N) hr
    have e2 : (i : Int) + 1 = ((i + 1 : Nat) : Int) := by omega
    by_cases hij : i < j
    · have step : ∀ k4 : Int → Option (Int × Bool × List Int), AX N l0 (a : Int) c ((j : Int) - 1) d k4 (k + 1) (i : Int) = if ltI c (at0 d i) (at0 d a) = true then AX N l0 (a : Int) c ((j : Int) - 1) d k4 k ((i + 1 : Nat) : Int) else k4 (i : Int) := fun k4 => by
        rw [AX]
        simp only [Au]
        rw [if_pos (by simp only [decide_eq_true_eq]; omega)]
        simp (disch := omega) only [e2, A8, Aa, Jb, Option.bind_some, hc, Gj, Int.toNat_natCast]
      cases hlt : ltI c (at0 d i) (at0 d a)
      · exact ⟨i, fun k4 => by rw [step, hlt]; rfl, Nat.le_refl _, .inr rfl, fun x x1 x2 => by omega, fun _ => hlt⟩
      · obtain ⟨i', f1, f2, f3, f4, f5⟩ := SS hr hl ha hj k (i + 1) (by omega) (by omega) (by omega)
        refine ⟨i', fun k4 => by rw [step, hlt, if_pos rfl, f1], by omega, .inl (by omega), fun x x1 x2 => ?_, f5⟩
        by_cases e : x = i
        · rw [e]; exact hlt
        · exact f4 x (by omega) x2
    · refine ⟨i, fun k4 => ?_, Nat.le_refl _, .inr rfl, fun x x1 x2 => by omega, fun h => by omega⟩
      rw [AX]
      simp only [Au]
      rw [if_neg (by simp only [decide_eq_true_eq]; omega), if_neg (by decide)]
theorem Mx (hr : Row c d) (hl : d.length = l0) (ha : a < l0) : ∀ (k j : Nat), j < k + i → 1 ≤ k → j ≤ l0 →
    ∃ j' : Nat, (∀ k4 : Int → Option (Int × Bool × List Int), AV N l0 (a : Int) c d (i : Int) k4 k ((j : Int) - 1) = k4 ((j' : Int) - 1)) ∧ j' ≤ j ∧ (i ≤ j' ∨ j' = j) ∧ (∀ x, j' ≤ x → x < j → ltI c (at0 d x) (at0 d a) = false) ∧ (i < j' → ltI c (at0 d (j' - 1)) (at0 d a) = true)
  | 0, j, _, h, _ => by omega
  | k + 1, j, h1, _, h3 => by
    have hbig := hr.big
    have hc := cmp_eq (N := N) hr
    by_cases hij : i < j
    · obtain ⟨t, rfl⟩ : ∃ t, j = t + 1 := ⟨j - 1, by omega⟩
      have e1 : ((t + 1 : Nat) : Int) - 1 = (t : Int) := by omega
      have step : ∀ k4 : Int → Option (Int × Bool × List Int), AV N l0 (a : Int) c d (i : Int) k4 (k + 1) (t : Int) = if (!ltI c (at0 d t) (at0 d a)) = true then AV N l0 (a : Int) c d (i : Int) k4 k ((t : Int) - 1) else k4 (t : Int) := fun k4 => by
        rw [AV]
        simp only [Au]
        rw [if_pos (by simp only [decide_eq_true_eq]; omega)]
        simp (disch := omega) only [A8, Aa, Jb, Option.bind_some, hc, Gj, Int.toNat_natCast]
      cases hlt : ltI c (at0 d t) (at0 d a)
      · obtain ⟨j', f1, f2, f3, f4, f5⟩ := Mx hr hl ha k t (by omega) (by omega) (by omega)
        refine ⟨j', fun k4 => by rw [e1, step, hlt, if_pos (by decide), f1], by omega, .inl (by omega), fun x x1 x2 => ?_, f5⟩
        by_cases e : x = t
        · rw [e]; exact hlt
        · exact f4 x x1 (by omega)
      · exact ⟨t + 1, fun k4 => by rw [e1, step, hlt]; rfl, Nat.le_refl _, .inr rfl, fun x x1 x2 => by omega, fun _ => hlt⟩
    · refine ⟨j, fun k4 => ?_, Nat.le_refl _, .inr rfl, fun x x1 x2 => by omega, fun h => by omega⟩
      rw [AV]
      simp only [Au]
      rw [if_neg (by simp only [decide_eq_true_eq]; omega), if_neg (by decide)]
structure PtI (c : ApiValue) (a b i j : Nat) (d : List Int) : Prop where
  lo : ∀ x, a < x → x < i → ltI c (at0 d x) (at0 d a) = true
  hi : ∀ x, j ≤ x → x < b → ltI c (at0 d a) (at0 d x) = true
theorem RI (hb : b ≤ l0) (hN : l0 + 2 ≤ N) : ∀ (k i j : Nat) (d : List Int), a < i → a < j → j ≤ b → i ≤ j + 1 → j < k → d.length = l0 → Row c d → PtI c a b i j d →
    ∃ (m : Nat) (d' : List Int), (∀ k34 : Int × List Int → Option (Int × Bool × List Int), Ae N l0 (a : Int) c k34 k (i : Int) ((j : Int) - 1) d = k34 ((m : Int), d')) ∧ a ≤ m ∧ m < b ∧ Sw (a + 1) b d d' ∧ PtI c a b (m + 1) (m + 1) d'
  | 0, i, j, d, _, _, _, _, h, _, _, _ => by omega
  | k + 1, i, j, d, h1, h2, h3, h4, h5, hl, hr, hp => by
    have hbig := hr.big
    obtain ⟨i', f1, f2, f3, f4, f5⟩ := SS (N := N) (a := a) (j := j) hr hl (by omega) (by omega) N i (by omega) (by omega) (by omega)
    obtain ⟨j', g1, g2, g3, g4, g5⟩ := Mx (N := N) (a := a) (i := i') hr hl (by omega) N j (by omega) (by omega) (by omega)
    have unf : ∀ k34 : Int × List Int → Option (Int × Bool × List Int), Ae N l0 (a : Int) c k34 (k + 1) (i : Int) ((j : Int) - 1) d = (fun j51 : Int => if decide ((i' : Int) > j51) = true then k34 (j51, d) else grd (0 ≤ j51 ∧ j51 < (l0 : Int)) (Option.bind (idx d j51) fun x64 => grd (0 ≤ (i' : Int) ∧ (i' : Int) < (l0 : Int)) (Option.bind (idx d (i' : Int)) fun x65 => grd ((i' : Int).toNat + 1 ≤ d.length) (grd (j51.toNat + 1 ≤ d.length) (Ae N l0 (a : Int) c k34 k (wr .i64 ((i' : Int) + 1)) (wr .i64 (j51 - 1)) ((d.set (i' : Int).toNat x64).set j51.toNat x65)))))) ((j' : Int) - 1) := fun k34 => by
      rw [Ae]
      simp only [Au]
      rw [f1, g1]
    have hp2 : PtI c a b i' j' d := ⟨fun x x1 x2 => by
        by_cases e : x < i
        · exact hp.lo x x1 e
        · exact f4 x (by omega) x2, fun x x1 x2 => by
        by_cases e : j ≤ x
        · exact hp.hi x e x2
        · exact hr.gt (i := x) (j := a) (by omega) (by omega) (by omega) (g4 x x1 (by omega))⟩
    by_cases hij : i' < j'
    · obtain ⟨t, rfl⟩ : ∃ t, j' = t + 1 := ⟨j' - 1, by omega⟩
      have e1 : ((t + 1 : Nat) : Int) - 1 = (t : Int) := by omega
      have e2 : (i' : Int) + 1 = ((i' + 1 : Nat) : Int) := by omega
      have hg := g5 hij
      have hf := f5 (by omega)
      rw [Nat.add_sub_cancel] at hg
      have hne : i' ≠ t := fun e => by rw [e, hg] at hf; cases hf
      have hsw := hr.sw (i := i') (j := t) (by omega) (by omega)
      obtain ⟨m, d', q1, q2, q3, q4, q5⟩ := RI hb hN k (i' + 1) t (swD d i' t) (by omega) (by omega) (by omega) (by omega) (by omega) (by rw [Dz]; exact hl) hsw ⟨fun x x1 x2 => by
          rw [Gb (by omega) (by omega), Gb (by omega) (by omega), if_neg (by omega : ¬ a = t), if_neg (by omega : ¬ a = i')]
          by_cases e1 : x = t
          · omega
          · rw [if_neg e1]
            by_cases e2 : x = i'
            · rw [if_pos e2]; exact hg
            · rw [if_neg e2]; exact hp2.lo x x1 (by omega), fun x x1 x2 => by
          rw [Gb (by omega) (by omega), Gb (by omega) (by omega), if_neg (by omega : ¬ a = t), if_neg (by omega : ¬ a = i')]
          by_cases e1 : x = t
          · rw [if_pos e1]; exact hr.gt (i := i') (j := a) (by omega) (by omega) (by omega) hf
          · rw [if_neg e1]
            by_cases e2 : x = i'
            · omega
            · rw [if_neg e2]; exact hp2.hi x (by omega) x2⟩
      refine ⟨m, d', fun k34 => ?_, q2, q3, (Sw.one (by omega) (by omega)).trans q4, q5⟩
      rw [unf, e1]
      dsimp only
      rw [if_neg (by simp only [decide_eq_true_eq]; omega)]
      simp (disch := omega) only [e2, A8, Aa, Jb, Option.bind_some, Int.toNat_natCast]
      exact q1 k34
    · obtain ⟨t, rfl⟩ : ∃ t, j' = t + 1 := ⟨j' - 1, by omega⟩
      have e1 : ((t + 1 : Nat) : Int) - 1 = (t : Int) := by omega
      refine ⟨t, d, fun k34 => ?_, by omega, by omega, .refl d, fun x x1 x2 => hp2.lo x x1 (by omega), hp2.hi⟩
      rw [unf, e1]
      dsimp only
      rw [if_pos (by simp only [decide_eq_true_eq]; omega)]
theorem Uo {m : Nat} (hr : Row c d) (ham : a ≤ m) (hmb : m < b) (hb : b ≤ d.length) (hp : PtI c a b (m + 1) (m + 1) d) :
    (∀ x, a ≤ x → x < m → ltI c (at0 (swD d m a) x) (at0 (swD d m a) m) = true) ∧ (∀ x, m < x → x < b → ltI c (at0 (swD d m a) m) (at0 (swD d m a) x) = true) := by
  have em : at0 (swD d m a) m = at0 d a := by
    rw [Gb (by omega) (by omega)]
    by_cases e : m = a
    · rw [if_pos e, e]
    · rw [if_neg e, if_pos rfl]
  refine ⟨fun x x1 x2 => ?_, fun x x1 x2 => ?_⟩
  · rw [em, Gb (by omega) (by omega)]
    by_cases e : x = a
    · rw [if_pos e]; exact hp.lo m (by omega) (by omega)
    · rw [if_neg e, if_neg (by omega)]; exact hp.lo x (by omega) (by omega)
  · rw [em, Gb (by omega) (by omega), if_neg (by omega), if_neg (by omega)]
    exact hp.hi x (by omega) x2
theorem AGi {p : Nat} (hr : Row c d) (hap : a ≤ p) (hpb : p < b) (hb : b ≤ d.length) (hN : d.length + 2 ≤ N) : Ok (BV N d.length d (a : Int) (b : Int) (p : Int) c) fun r =>
    ∃ m : Nat, r.1 = (m : Int) ∧ a ≤ m ∧ m < b ∧ Sw a b d r.2.2 ∧ (∀ x, a ≤ x → x < m → ltI c (at0 r.2.2 x) (at0 r.2.2 m) = true) ∧ (∀ x, m < x → x < b → ltI c (at0 r.2.2 m) (at0 r.2.2 x) = true) := by
  have hbig := hr.big
  have hr0 := hr.sw (i := a) (j := p) (by omega) (by omega)
  have hl0 : (swD d a p).length = d.length := Dz
  unfold BV
  simp only [Au]
  simp (disch := omega) only [Aa, Jb, Option.bind_some, Int.toNat_natCast, Zd, ZK]
  have esw : (d.set a (at0 d p)).set p (at0 d a) = swD d a p := rfl
  rw [esw, A8 (n := (b : Int) - 1) (by omega), show (a : Int) + 1 = ((a + 1 : Nat) : Int) by omega, A8 (by omega)]
  generalize hD : swD d a p = D at *
  obtain ⟨i, f1, f2, f3, f4, f5⟩ := SS (N := N) (a := a) (j := b) (l0 := d.length) hr0 hl0 (by omega) hb N (a + 1) (by omega) (by omega) (by omega)
  rw [f1]
  obtain ⟨j, g1, g2, g3, g4, g5⟩ := Mx (N := N) (a := a) (i := i) (l0 := d.length) hr0 hl0 (by omega) N b (by omega) (by omega) (by omega)
  rw [g1]
  have hp2 : PtI c a b i j D := ⟨fun x x1 x2 => f4 x (by omega) x2, fun x x1 x2 => hr0.gt (i := x) (j := a) (by omega) (by omega) (by omega) (g4 x x1 x2)⟩
  obtain ⟨t, rfl⟩ : ∃ t, j = t + 1 := ⟨j - 1, by omega⟩
  have e1 : ((t + 1 : Nat) : Int) - 1 = (t : Int) := by omega
  have hsw : Sw a b d D := by rw [← hD]; exact Sw.one (by omega) (by omega)
  rw [e1]
  by_cases hij : i < t + 1
  · have hg := g5 hij
    have hf := f5 (by omega)
    rw [Nat.add_sub_cancel] at hg
    have hne : i ≠ t := fun e => by rw [e, hg] at hf; cases hf
    have e2 : (i : Int) + 1 = ((i + 1 : Nat) : Int) := by omega
    rw [if_neg (by simp only [decide_eq_true_eq]; omega)]
    simp (disch := omega) only [e2, A8, Aa, Jb, Option.bind_some, Int.toNat_natCast]
    have esw2 : (D.set i (at0 D t)).set t (at0 D i) = swD D i t := rfl
    rw [esw2]
    have hsw2 := hr0.sw (i := i) (j := t) (by omega) (by omega)
    obtain ⟨m, d', q1, q2, q3, q4, q5⟩ := RI (N := N) (a := a) hb hN N (i + 1) t (swD D i t) (by omega) (by omega) (by omega) (by omega) (by omega) (by rw [Dz]; exact hl0) hsw2 ⟨fun x x1 x2 => by
        rw [Gb (by omega) (by omega), Gb (by omega) (by omega), if_neg (by omega : ¬ a = t), if_neg (by omega : ¬ a = i)]
        by_cases e1 : x = t
        · omega
        · rw [if_neg e1]
          by_cases e2 : x = i
          · rw [if_pos e2]; exact hg
          · rw [if_neg e2]; exact hp2.lo x x1 (by omega), fun x x1 x2 => by
        rw [Gb (by omega) (by omega), Gb (by omega) (by omega), if_neg (by omega : ¬ a = t), if_neg (by omega : ¬ a = i)]
        by_cases e1 : x = t
        · rw [if_pos e1]; exact hr0.gt (i := i) (j := a) (by omega) (by omega) (by omega) hf
        · rw [if_neg e1]
          by_cases e2 : x = i
          · omega
          · rw [if_neg e2]; exact hp2.hi x (by omega) x2⟩
    rw [q1]
    have hl2 : d'.length = d.length := by rw [q4.len, Dz]; exact hl0
    have hr2 := q4.row (by rw [Dz]; omega) hsw2
    simp (disch := omega) only [Aa, Jb, Option.bind_some, Int.toNat_natCast]
    have esw3 : (d'.set m (at0 d' a)).set a (at0 d' m) = swD d' m a := rfl
    rw [esw3]
    have hfin := Uo hr2 q2 q3 (by omega) q5
    exact Ok.ret ⟨m, rfl, q2, q3, hsw.trans ((Sw.one (by omega) (by omega)).trans ((q4.mono (by omega) (Nat.le_refl _)).trans (Sw.one (by omega) (by omega)))), hfin.1, hfin.2⟩
  · rw [if_pos (by simp only [decide_eq_true_eq]; omega)]
    simp (disch := omega) only [Aa, Jb, Option.bind_some, Int.toNat_natCast]
    have esw3 : (D.set t (at0 D a)).set a (at0 D t) = swD D t a := rfl
    rw [esw3]
    have hfin := Uo (m := t) hr0 (by omega) (by omega) (by omega) ⟨fun x x1 x2 => hp2.lo x x1 (by omega), hp2.hi⟩
    exact Ok.ret ⟨t, rfl, by omega, by omega, hsw.trans (Sw.one (by omega) (by omega)), hfin.1, hfin.2⟩
end
end Go.VM
namespace Go.VM
def Bel (c : ApiValue) (a b : Nat) (d : List Int) : Prop := a = 0 ∨ ∀ x, a ≤ x → x < b → ltI c (at0 d (a - 1)) (at0 d x) = true
section
variable {N : Nat} {c : ApiValue} {d d' : List Int} {a b i j l0 : Nat}
theorem Sw.bel (h : Sw a b d d') (hb : b ≤ d.length) (k : Bel c a b d) : Bel c a b d' := by
  rcases k with k | k
  · exact .inl k
  · by_cases h0 : a = 0
    · exact .inl h0
    · refine .inr fun x x1 x2 => ?_
      rw [h.out hb (k := a - 1) (.inl (by omega))]
      exact h.all hb (p := fun v => ltI c (at0 d (a - 1)) v = true) k x x1 x2
theorem RG (hb : b ≤ l0) (hib : i < b) : ∀ (s k : Nat) (d : List Int), a ≤ s → s ≤ i → d.length = l0 → s < k → Row c d → Bel c a b d → InsI c a i s d →
    ∃ d', (∀ k26 : List Int → Option (Bool × List Int), AU N l0 c k26 k (s : Int) d = k26 d') ∧ Sw a (i + 1) d d' ∧ Asc' c a (i + 1) d'
  | s, 0, d, _, _, _, hk, _, _, _ => by omega
  | s, k + 1, d, h1, h2, hl, hk, hr, hB, hI => by
    have hbig := hr.big
    have hc := cmp_eq (N := N) hr
    by_cases hs0 : s = 0
    · subst hs0
      refine ⟨d, fun k26 => ?_, .refl d, hI.done hr (by omega) h1 h2 (.inl (by omega))⟩
      rw [AU, if_neg (by simp)]
    · obtain ⟨t, rfl⟩ : ∃ t, s = t + 1 := ⟨s - 1, by omega⟩
      have e1 : ((t + 1 : Nat) : Int) - 1 = (t : Int) := by omega
      have step : ∀ k26 : List Int → Option (Bool × List Int), AU N l0 c k26 (k + 1) ((t + 1 : Nat) : Int) d = if ltI c (at0 d (t + 1)) (at0 d t) = true then AU N l0 c k26 k (t : Int) (swD d (t + 1) t) else k26 d := fun k26 => by
        rw [AU, if_pos (by simp only [decide_eq_true_eq]; omega)]
        simp (disch := omega) only [e1, swD, A8, Aa, Jb, Option.bind_some, hc, Gj, Int.toNat_natCast]
      cases hlt : ltI c (at0 d (t + 1)) (at0 d t)
      · refine ⟨d, fun k26 => by rw [step, hlt]; rfl, .refl d, hI.done hr (by omega) h1 h2 ?_⟩
        by_cases e : t + 1 = a
        · exact .inl e
        · exact .inr ⟨t, rfl, by omega, hlt⟩
      · have hat : a ≤ t := by
          rcases Nat.lt_or_ge t a with h | h
          · have ea : t + 1 = a := by omega
            rcases hB with h0 | h0
            · omega
            · have := h0 a (Nat.le_refl _) (by omega)
              rw [← ea, Nat.add_sub_cancel] at this
              rw [AIT this] at hlt; cases hlt
          · exact h
        obtain ⟨d', f1, f2, f3⟩ := RG hb hib t k (swD d (t + 1) t) hat (by omega) (by rw [Dz]; exact hl) (by omega) (hr.sw (by omega) (by omega)) ((Sw.one (a := a) (b := b) (by omega) (by omega)).bel (by omega) hB) (hI.step (by omega) (by omega) (by omega) hlt)
        exact ⟨d', fun k26 => by rw [step, hlt, if_pos rfl, f1], (Sw.one (by omega) (by omega)).trans f2, f3⟩
theorem P9 (hb : b ≤ l0) {j10 : Int} : ∀ (m s : Nat) (d : List Int), i < s → s + m = b → d.length = l0 → Row c d →
    ∃ d', (∀ k7 : Int × List Int → Option (Bool × List Int), AO N l0 c k7 j10 m (s : Int) d = k7 (j10, d')) ∧ Sw i b d d'
  | 0, s, d, _, _, _, _ => ⟨d, fun k7 => by rw [AO], .refl d⟩
  | m + 1, s, d, h1, h2, hl, hr => by
    have hbig := hr.big
    have hc := cmp_eq (N := N) hr
    obtain ⟨t, rfl⟩ : ∃ t, s = t + 1 := ⟨s - 1, by omega⟩
    have e1 : ((t + 1 : Nat) : Int) - 1 = (t : Int) := by omega
    have e2 : ((t + 1 : Nat) : Int) + 1 = ((t + 1 + 1 : Nat) : Int) := by omega
    have step : ∀ k7 : Int × List Int → Option (Bool × List Int), AO N l0 c k7 j10 (m + 1) ((t + 1 : Nat) : Int) d = if ltI c (at0 d (t + 1)) (at0 d t) = true then AO N l0 c k7 j10 m ((t + 1 + 1 : Nat) : Int) (swD d (t + 1) t) else k7 (j10, d) := fun k7 => by
      rw [AO]
      simp (disch := omega) only [e1, e2, swD, A8, Aa, Jb, Option.bind_some, hc, Gj, Int.toNat_natCast]
    cases hlt : ltI c (at0 d (t + 1)) (at0 d t)
    · exact ⟨d, fun k7 => by rw [step, hlt]; rfl, .refl d⟩
    · obtain ⟨d', f1, f2⟩ := P9 hb (j10 := j10) m (t + 1 + 1) (swD d (t + 1) t) (by omega) (by omega) (by rw [Dz]; exact hl) (hr.sw (by omega) (by omega))
      exact ⟨d', fun k7 => by rw [step, hlt, if_pos rfl, f1], (Sw.one (by omega) (by omega)).trans f2⟩
theorem Asc'.more (hr : Row c d) (hi : i < d.length) {t : Nat} (e : i = t + 1) (ht : a ≤ t) (h : Asc' c a i d) (hl : ltI c (at0 d i) (at0 d t) = false) : Asc' c a (i + 1) d := by
  intro p q h1 h2 h3
  by_cases e2 : q = i
  · subst e2
    have hg := hr.gt (i := q) (j := t) (by omega) (by omega) (by omega) hl
    by_cases e3 : p = t
    · rw [e3]; exact hg
    · exact Mw (h p t h1 (by omega) (by omega)) hg
  · exact h p q h1 h2 (by omega)
theorem Q0 (hb : b ≤ l0) (hl : d.length = l0) (hr : Row c d) : ∀ (k i : Nat), b < k + i → a < i → i ≤ b → Asc' c a i d →
    ∃ i' : Nat, (∀ k11 : Int → Option (Bool × List Int), AR N l0 (b : Int) c d k11 k (i : Int) = k11 (i' : Int)) ∧ i ≤ i' ∧ i' ≤ b ∧ Asc' c a i' d ∧ (i' < b → ltI c (at0 d i') (at0 d (i' - 1)) = true)
  | 0, i, h, _, _, _ => by omega
  | k + 1, i, h1, h2, h3, hA => by
    have hbig := hr.big
    have hc := cmp_eq (N := N) hr
    obtain ⟨t, rfl⟩ : ∃ t, i = t + 1 := ⟨i - 1, by omega⟩
    have e1 : ((t + 1 : Nat) : Int) - 1 = (t : Int) := by omega
    have e2 : ((t + 1 : Nat) : Int) + 1 = ((t + 1 + 1 : Nat) : Int) := by omega
    by_cases hib : t + 1 < b
    · have step : ∀ k11 : Int → Option (Bool × List Int), AR N l0 (b : Int) c d k11 (k + 1) ((t + 1 : Nat) : Int) = if (!ltI c (at0 d (t + 1)) (at0 d t)) = true then AR N l0 (b : Int) c d k11 k ((t + 1 + 1 : Nat) : Int) else k11 ((t + 1 : Nat) : Int) := fun k11 => by
        rw [AR]
        simp only [Au]
        rw [if_pos (by simp only [decide_eq_true_eq]; omega)]
        simp (disch := omega) only [e1, e2, A8, Aa, Jb, Option.bind_some, hc, Gj, Int.toNat_natCast]
      cases hlt : ltI c (at0 d (t + 1)) (at0 d t)
      · obtain ⟨i', f1, f2, f3, f4, f5⟩ := Q0 hb hl hr k (t + 1 + 1) (by omega) (by omega) (by omega) (hA.more hr (by omega) rfl (by omega) hlt)
        exact ⟨i', fun k11 => by rw [step, hlt, if_pos (by decide), f1], by omega, f3, f4, f5⟩
      · exact ⟨t + 1, fun k11 => by rw [step, hlt]; rfl, Nat.le_refl _, h3, hA, fun _ => by rw [Nat.add_sub_cancel]; exact hlt⟩
    · refine ⟨t + 1, fun k11 => ?_, Nat.le_refl _, h3, hA, fun h => by omega⟩
      rw [AR]
      simp only [Au]
      rw [if_neg (by simp only [decide_eq_true_eq]; omega), if_neg (by decide)]
theorem Q8 (hb : b ≤ l0) (hN : l0 + 2 ≤ N) : ∀ (m i : Nat) (d : List Int), a < i → i ≤ b → d.length = l0 → Row c d → Bel c a b d → Asc' c a i d →
    Ok (AP N l0 (a : Int) (b : Int) c (fun j1 => some (false, j1)) m (i : Int) d) fun r => Sw a b d r.2 ∧ (r.1 = true → Asc' c a b r.2)
  | 0, i, d, _, _, _, _, _, _ => by
    rw [AP]
    exact Ok.ret ⟨.refl d, fun h => by cases h⟩
  | m + 1, i, d, h1, h2, hl, hr, hB, hA => by
    have hbig := hr.big
    rw [AP]
    simp only [Au]
    obtain ⟨i', f1, f2, f3, f4, f5⟩ := Q0 (N := N) (a := a) hb hl hr N i (by omega) h1 h2 hA
    rw [f1]
    by_cases hib : i' = b
    · rw [if_pos (by simp [hib])]
      exact Ok.ret ⟨.refl d, fun _ => by rw [← hib]; exact f4⟩
    · rw [if_neg (by simp; omega), show (b : Int) - (a : Int) = ((b - a : Nat) : Int) by omega, A8 (by omega)]
      by_cases h50 : b - a < 50
      · rw [if_pos (by simp only [decide_eq_true_eq]; omega)]
        exact Ok.ret ⟨.refl d, fun h => by cases h⟩
      · obtain ⟨t, rfl⟩ : ∃ t, i' = t + 1 := ⟨i' - 1, by omega⟩
        have e1 : ((t + 1 : Nat) : Int) - 1 = (t : Int) := by omega
        have e2 : ((t + 1 : Nat) : Int) + 1 = ((t + 1 + 1 : Nat) : Int) := by omega
        have e3 : ((t + 1 : Nat) : Int) - (a : Int) = ((t + 1 - a : Nat) : Int) := by omega
        have e4 : (b : Int) - ((t + 1 : Nat) : Int) = ((b - (t + 1) : Nat) : Int) := by omega
        have e5 : ((b : Int) - ((t + 1 + 1 : Nat) : Int)).toNat = b - (t + 1 + 1) := by omega
        have hlt := f5 (by omega)
        rw [Nat.add_sub_cancel] at hlt
        rw [if_neg (by simp only [decide_eq_true_eq]; omega)]
        simp (disch := omega) only [e1, e2, e3, e4, e5, A8, Aa, Jb, Option.bind_some, Int.toNat_natCast]
        have esw : (d.set (t + 1) (at0 d t)).set t (at0 d (t + 1)) = swD d (t + 1) t := rfl
        rw [esw]
        have hr2 := hr.sw (i := t + 1) (j := t) (by omega) (by omega)
        have hs2 : Sw a b d (swD d (t + 1) t) := Sw.one (by omega) (by omega)
        have hB2 := hs2.bel (by omega) hB
        have right : ∀ d2 : List Int, d2.length = l0 → Row c d2 → Sw a b d d2 → Asc' c a (t + 1) d2 → Ok (if decide (((b - (t + 1) : Nat) : Int) ≥ 2) = true then AO N l0 c (fun j6 => AP N l0 (a : Int) (b : Int) c (fun j1 => some (false, j1)) m j6.1 j6.2) ((t + 1 : Nat) : Int) (b - (t + 1 + 1)) ((t + 1 + 1 : Nat) : Int) d2 else AP N l0 (a : Int) (b : Int) c (fun j1 => some (false, j1)) m ((t + 1 : Nat) : Int) d2) fun r => Sw a b d r.2 ∧ (r.1 = true → Asc' c a b r.2) := by
          intro d2 k1 k2 k3 k4
          have go : ∀ d3 : List Int, Sw (t + 1) b d2 d3 → Ok (AP N l0 (a : Int) (b : Int) c (fun j1 => some (false, j1)) m ((t + 1 : Nat) : Int) d3) fun r => Sw a b d r.2 ∧ (r.1 = true → Asc' c a b r.2) := fun d3 hd3 => by
            have hall := k3.trans (hd3.mono (by omega) (Nat.le_refl _))
            refine (Q8 hb hN m (t + 1) d3 (by omega) (by omega) (by rw [hd3.len]; exact k1) (hd3.row (by omega) k2) (hall.bel (by omega) hB) (fun p q p1 p2 p3 => ?_)).mono fun r h => ⟨hall.trans h.1, h.2⟩
            rw [hd3.out (by omega) (.inl (by omega)), hd3.out (by omega) (.inl (by omega))]
            exact k4 p q p1 p2 p3
          split
          · obtain ⟨d3, g1, g2⟩ := P9 (N := N) (c := c) (i := t + 1) hb (j10 := ((t + 1 : Nat) : Int)) (b - (t + 1 + 1)) (t + 1 + 1) d2 (by omega) (by rename_i h; simp only [decide_eq_true_eq] at h; omega) k1 k2
            rw [g1]
            exact go d3 g2
          · exact go d2 (.refl d2)
        split
        · obtain ⟨d2, g1, g2, g3⟩ := RG (N := N) (a := a) (i := t) hb (by omega) t N (swD d (t + 1) t) (by omega) (Nat.le_refl _) (by rw [Dz]; exact hl) (by omega) hr2 hB2 (fun p q p1 p2 p3 p4 => by
            rw [Gb (by omega) (by omega), Gb (by omega) (by omega), if_neg (by omega), if_neg (by omega), if_neg (by omega), if_neg (by omega)]
            exact f4 p q p1 p2 (by omega))
          rw [g1]
          exact right d2 (by rw [g2.len, Dz]; exact hl) (g2.row (by rw [Dz]; omega) hr2) (hs2.trans (g2.mono (Nat.le_refl _) (by omega))) g3
        · rename_i h
          simp only [decide_eq_true_eq] at h
          refine right (swD d (t + 1) t) (by rw [Dz]; exact hl) hr2 hs2 (fun p q p1 p2 p3 => ?_)
          omega
theorem AF4 (hr : Row c d) (hab : a < b) (hb : b ≤ d.length) (hN : d.length + 2 ≤ N) (hB : Bel c a b d) : Ok (BA N d.length d (a : Int) (b : Int) c) fun r => Sw a b d r.2 ∧ (r.1 = true → Asc' c a b r.2) := by
  have hbig := hr.big
  unfold BA
  simp only [Au]
  rw [Aa (by omega), show (a : Int) + 1 = ((a + 1 : Nat) : Int) by omega, A8 (by omega)]
  exact Q8 hb hN _ (a + 1) d (by omega) (by omega) rfl hr hB (fun p q p1 p2 p3 => by omega)
theorem NJ (hr : Row c d) (hi : i < d.length) (hj : j < d.length) (s : Int) : Ok (BC N d.length d (i : Int) (j : Int) s c) fun r => r.2.2.1 = d ∧ ((r.1 = (i : Int) ∧ r.2.1 = (j : Int)) ∨ (r.1 = (j : Int) ∧ r.2.1 = (i : Int))) := by
  have hc := cmp_eq (N := N) hr
  unfold BC
  simp (disch := omega) only [Aa, Jb, Option.bind_some, hc, Gj]
  split
  · exact Ok.ret ⟨rfl, .inr ⟨rfl, rfl⟩⟩
  · exact Ok.ret ⟨rfl, .inl ⟨rfl, rfl⟩⟩
theorem Qi {k : Nat} (hr : Row c d) (hi : i < d.length) (hj : j < d.length) (hk : k < d.length) (s : Int) : Ok (BB N d.length d (i : Int) (j : Int) (k : Int) s c) fun r => r.2.1 = d ∧ ∃ m : Nat, r.1 = (m : Int) ∧ (m = i ∨ m = j ∨ m = k) := by
  unfold BB
  refine (NJ hr hi hj s).bind fun r1 h1 => ?_
  obtain ⟨p, q, hp, hq, hpq⟩ : ∃ p q : Nat, r1.1 = (p : Int) ∧ r1.2.1 = (q : Int) ∧ ((p = i ∧ q = j) ∨ (p = j ∧ q = i)) := by
    rcases h1.2 with ⟨x, y⟩ | ⟨x, y⟩
    · exact ⟨i, j, x, y, .inl ⟨rfl, rfl⟩⟩
    · exact ⟨j, i, x, y, .inr ⟨rfl, rfl⟩⟩
  rw [h1.1, hp, hq]
  refine (NJ (i := q) (j := k) hr (by omega) hk _).bind fun r2 h2 => ?_
  obtain ⟨u, hu, hu2⟩ : ∃ u : Nat, r2.1 = (u : Int) ∧ (u = q ∨ u = k) := by
    rcases h2.2 with ⟨x, _⟩ | ⟨x, _⟩
    · exact ⟨q, x, .inl rfl⟩
    · exact ⟨k, x, .inr rfl⟩
  rw [h2.1, hu]
  refine (NJ (i := p) (j := u) hr (by omega) (by omega) _).bind fun r3 h3 => ?_
  refine Ok.ret ⟨h3.1, ?_⟩
  rcases h3.2 with ⟨_, y⟩ | ⟨_, y⟩
  · exact ⟨u, y, by omega⟩
  · exact ⟨p, y, by omega⟩
theorem X9 (hr : Row c d) (hi : i + 1 < d.length) (h0 : 0 < i) (s : Int) : Ok (Ar N d.length d (i : Int) s c) fun r => r.2.1 = d ∧ ∃ m : Nat, r.1 = (m : Int) ∧ i ≤ m + 1 ∧ m ≤ i + 1 := by
  have hbig := hr.big
  unfold Ar
  rw [show (i : Int) - 1 = ((i - 1 : Nat) : Int) by omega, show (i : Int) + 1 = ((i + 1 : Nat) : Int) by omega, A8 (by omega), A8 (by omega)]
  refine (Qi (i := i - 1) (j := i) (k := i + 1) hr (by omega) (by omega) hi s).bind fun r h => ?_
  obtain ⟨h1, m, h2, h3⟩ := h
  exact Ok.ret ⟨h1, m, h2, by omega, by omega⟩
theorem AEB (hr : Row c d) (hab : a + 12 < b) (hb : b ≤ d.length) : Ok (BU N d.length d (a : Int) (b : Int) c) fun r => r.2.2 = d ∧ ∃ m : Nat, r.1 = (m : Int) ∧ a ≤ m ∧ m < b := by
  have hbig := hr.big
  unfold BU
  simp only [Au]
  obtain ⟨l, rfl⟩ : ∃ l, b = a + l := ⟨b - a, by omega⟩
  have e1 : ((a + l : Nat) : Int) - (a : Int) = (l : Int) := by omega
  have e2 : (l : Int).tdiv 4 = ((l / 4 : Nat) : Int) := rfl
  have f1 : (a : Int) + ((l / 4 : Nat) : Int) * 1 = ((a + l / 4 : Nat) : Int) := by omega
  have f2 : (a : Int) + ((l / 4 : Nat) : Int) * 2 = ((a + 2 * (l / 4) : Nat) : Int) := by omega
  have f3 : (a : Int) + ((l / 4 : Nat) : Int) * 3 = ((a + 3 * (l / 4) : Nat) : Int) := by omega
  simp (disch := omega) only [e1, e2, f1, f2, f3, A8]
  have fin : ∀ (x y z : Nat) (s : Int), a ≤ x → x < a + l → a ≤ y → y < a + l → a ≤ z → z < a + l → Ok (Option.bind (BB N d.length d (x : Int) (y : Int) (z : Int) s c) fun y15 => if (y15.2.2 == 0) = true then some (y15.1, (1 : Int), y15.2.1) else if (y15.2.2 == 12) = true then some (y15.1, 2, y15.2.1) else some (y15.1, 0, y15.2.1)) fun r => r.2.2 = d ∧ ∃ m : Nat, r.1 = (m : Int) ∧ a ≤ m ∧ m < a + l := by
    intro x y z s h1 h2 h3 h4 h5 h6
    refine (Qi hr (by omega) (by omega) (by omega) s).bind fun r h => ?_
    obtain ⟨k1, m, k2, k3⟩ := h
    split
    · exact Ok.ret ⟨k1, m, k2, by omega, by omega⟩
    · split
      · exact Ok.ret ⟨k1, m, k2, by omega, by omega⟩
      · exact Ok.ret ⟨k1, m, k2, by omega, by omega⟩
  rw [if_pos (by simp only [decide_eq_true_eq]; omega)]
  by_cases h50 : 50 ≤ l
  · rw [if_pos (by simp only [decide_eq_true_eq]; omega)]
    refine (X9 (i := a + l / 4) hr (by omega) (by omega) 0).bind fun r1 h1 => ?_
    obtain ⟨k1, m1, k2, k3, k4⟩ := h1
    rw [k1]
    refine (X9 (i := a + 2 * (l / 4)) hr (by omega) (by omega) _).bind fun r2 h2 => ?_
    obtain ⟨q1, m2, q2, q3, q4⟩ := h2
    rw [q1]
    refine (X9 (i := a + 3 * (l / 4)) hr (by omega) (by omega) _).bind fun r3 h3 => ?_
    obtain ⟨w1, m3, w2, w3, w4⟩ := h3
    rw [w1, k2, q2, w2]
    exact fin m1 m2 m3 _ (by omega) (by omega) (by omega) (by omega) (by omega) (by omega)
  · rw [if_neg (by simp only [decide_eq_true_eq]; omega)]
    exact fin _ _ _ 0 (by omega) (by omega) (by omega) (by omega) (by omega) (by omega)
theorem ADA : ((List.range 2001).all fun n => decide (n < 8) || match Cy N (n : Int) with | some p => decide (1 ≤ p ∧ p ≤ 2 * (n : Int)) | none => false) = true := by kernel_rfl
theorem AFI {n : Nat} (h8 : 8 ≤ n) (hn : n ≤ 2000) : ∃ p : Int, Cy N (n : Int) = some p ∧ 1 ≤ p ∧ p ≤ 2 * n := by
  have := List.all_eq_true.1 (ADA (N := N)) n (List.mem_range.2 (by omega))
  rw [decide_eq_false (by omega), Bool.false_or] at this
  cases h : Cy N (n : Int) with
  | none => rw [h] at this; cases this
  | some p => rw [h] at this; exact ⟨p, rfl, of_decide_eq_true this⟩
theorem AFu (x : Int) {m : Nat} (hm : m < 2 ^ 63) : ∃ o : Nat, Db .u64 x (m : Int) = (o : Int) ∧ o ≤ m := by
  unfold Db
  have hb : (IntKind.u64).bits = 64 := rfl
  rw [hb]
  have h1 : (BitVec.ofInt 64 x &&& BitVec.ofInt 64 (m : Int)).toNat ≤ m := by
    rw [BitVec.toNat_and]
    refine Nat.le_trans Nat.and_le_right ?_
    rw [BitVec.toNat_ofInt]
    omega
  refine ⟨(BitVec.ofInt 64 x &&& BitVec.ofInt 64 (m : Int)).toNat, ?_, h1⟩
  generalize (BitVec.ofInt 64 x &&& BitVec.ofInt 64 (m : Int)).toNat = v at h1
  simp [IntKind.wrap, IntKind.bits, IntKind.signed]
  omega
theorem O5 {p : Int} (hp : 1 ≤ p ∧ p ≤ 2 * ((b - a : Nat) : Int)) (hab : a + 12 < b) (hb : b ≤ l0) (hbig : l0 ≤ 2000) : ∀ (k i : Nat) (x : Int) (d : List Int), a ≤ i → i ≤ a + ((b - a) / 4) * 2 + 2 → a + ((b - a) / 4) * 2 + 2 < i + k → d.length = l0 →
    Ok (Ah N l0 (a : Int) (b : Int) p k (i : Int) x d) fun d' => Sw a b d d'
  | 0, i, x, d, _, h, h2, _ => by omega
  | k + 1, i, x, d, h1, h2, h3, hl => by
    obtain ⟨l, hbl⟩ : ∃ l, l = b - a := ⟨b - a, rfl⟩
    have hp' := hp
    rw [← hbl] at hp h2 h3
    have e1 : (b : Int) - (a : Int) = (l : Int) := by omega
    have e2 : (l : Int).tdiv 4 = ((l / 4 : Nat) : Int) := rfl
    have e3 : ((l / 4 : Nat) : Int) * 2 = ((l / 4 * 2 : Nat) : Int) := by omega
    have e4 : (a : Int) + ((l / 4 * 2 : Nat) : Int) = ((a + l / 4 * 2 : Nat) : Int) := by omega
    have e5 : (i : Int) + 1 = ((i + 1 : Nat) : Int) := by omega
    rw [Ah]
    simp only [Au]
    simp (disch := omega) only [e1, e2, e3, e4, e5, A8]
    by_cases hi : i ≤ a + l / 4 * 2 + 1
    · rw [if_pos (by simp only [decide_eq_true_eq]; omega)]
      unfold Ep
      rw [Option.bind_some]
      dsimp only
      have ewr : wr .u64 (p - 1) = ((p - 1).toNat : Int) := by
        simp [wr, IntKind.wrap, IntKind.bits, IntKind.signed]; omega
      rw [ewr]
      generalize hX : IQ .u64 _ _ = X
      obtain ⟨o, ho, hole⟩ := AFu X (m := (p - 1).toNat) (by omega)
      rw [ho]
      have swp : ∀ q : Nat, q < l → ∀ y : Int, Ok (grd (0 ≤ wr .i64 ((a : Int) + (q : Int)) ∧ wr .i64 ((a : Int) + (q : Int)) < (l0 : Int)) (Option.bind (idx d (wr .i64 ((a : Int) + (q : Int)))) fun x10 => grd (0 ≤ (i : Int) ∧ (i : Int) < (l0 : Int)) (Option.bind (idx d (i : Int)) fun x11 => grd ((i : Int).toNat + 1 ≤ d.length) (grd ((wr .i64 ((a : Int) + (q : Int))).toNat + 1 ≤ d.length) (Ah N l0 (a : Int) (b : Int) p k ((i + 1 : Nat) : Int) y ((d.set (i : Int).toNat x10).set (wr .i64 ((a : Int) + (q : Int))).toNat x11)))))) fun d' => Sw a b d d' := by
        intro q hq y
        have e6 : (a : Int) + (q : Int) = ((a + q : Nat) : Int) := by omega
        simp (disch := omega) only [e6, A8, Aa, Jb, Option.bind_some, Int.toNat_natCast]
        have := O5 hp' hab hb hbig k (i + 1) y (swD d i (a + q)) (by omega) (by omega) (by omega) (by rw [Dz]; exact hl)
        exact this.mono fun d' h' => (Sw.one (by omega) (by omega)).trans h'
      try simp (disch := omega) only [A8]
      by_cases hol : l ≤ o
      · have e7 : (o : Int) - (l : Int) = ((o - l : Nat) : Int) := by omega
        rw [if_pos (by simp only [decide_eq_true_eq]; omega), e7]
        try simp (disch := omega) only [A8]
        have := swp (o - l) (by omega) X
        simpa (disch := omega) only [A8] using this
      · rw [if_neg (by simp only [decide_eq_true_eq]; omega)]
        have := swp o (by omega) X
        simpa (disch := omega) only [A8] using this
    · rw [if_neg (by simp only [decide_eq_true_eq]; omega)]
      exact Ok.ret (.refl d)
theorem AEY (hr : Row c d) (hab : a + 12 < b) (hb : b ≤ d.length) (hN : 2 * d.length + 10 ≤ N) : Ok (BP N d.length d (a : Int) (b : Int) c) fun d' => Sw a b d d' := by
  have hbig := hr.big
  unfold BP
  have e1 : (b : Int) - (a : Int) = ((b - a : Nat) : Int) := by omega
  have e2 : ((b - a : Nat) : Int).tdiv 4 = (((b - a) / 4 : Nat) : Int) := rfl
  have e3 : (((b - a) / 4 : Nat) : Int) * 2 = (((b - a) / 4 * 2 : Nat) : Int) := by omega
  have e4 : (a : Int) + (((b - a) / 4 * 2 : Nat) : Int) = ((a + (b - a) / 4 * 2 : Nat) : Int) := by omega
  have e5 : ((a + (b - a) / 4 * 2 : Nat) : Int) - 1 = ((a + (b - a) / 4 * 2 - 1 : Nat) : Int) := by omega
  simp (disch := omega) only [e1, e2, e3, e4, e5, A8]
  rw [if_pos (by simp only [decide_eq_true_eq]; omega)]
  obtain ⟨p, hp, hp2⟩ := AFI (N := N) (n := b - a) (by omega) (by omega)
  rw [hp, Option.bind_some]
  exact O5 hp2 hab hb hbig N _ _ d (by omega) (by omega) (by omega) rfl
end
end Go.VM
