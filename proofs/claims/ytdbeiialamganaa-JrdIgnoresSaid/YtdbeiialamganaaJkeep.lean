/- The bounds of the statements on resource descriptors and values; what is the same as itself. -/
import Derived.Test.YtdbeiialamganaaJdec
import Derived.Test.YtdbeiialamganaaJenc
set_option linter.unusedVariables false
set_option linter.unusedSimpArgs false
namespace Go.VM
section
variable {N : Nat}
theorem size_loop1 (k6 : Unit → Option Int) : ∀ (l : List (List UInt8)), keep_size_L1 N k6 l = k6 () ∨ keep_size_L1 N k6 l = some (-1)
  | [] => by rw [keep_size_L1]; exact .inl rfl
  | x :: l => by
    rw [keep_size_L1]
    split
    · exact .inr rfl
    · exact size_loop1 k6 l
theorem size_loop2 (dn : Nat) (rc : ApiValue → Int → Int → Option Int) (hd : dn ≤ 900) : ∀ (l : List ApiValue) (ln : Nat), ln ≤ 900 →
    (∀ x, x ∈ l → ∀ n : Nat, n ≤ 900 → ∃ r : Int, rc x n dn = some r ∧ r ≤ n ∧ (0 ≤ r → okV x)) →
    ∃ r : Int, keep_size_L2 N ((dn + 1 : Nat) : Int) rc (fun j => some j) l (ln : Int) = some r ∧ r ≤ ln ∧ (0 ≤ r → ∀ x, x ∈ l → okV x)
  | [], ln, _, _ => by rw [keep_size_L2]; exact ⟨ln, rfl, by omega, by simp⟩
  | x :: l, ln, hln, hr => by
    obtain ⟨r, e1, e2, e3⟩ := hr x (by simp) ln hln
    rw [keep_size_L2, show wr .i64 (((dn + 1 : Nat) : Int) - 1) = (dn : Int) by rw [wr_i64 (by omega)]; omega, e1, Option.bind_some]
    split
    · exact ⟨-1, rfl, by omega, by omega⟩
    · rename_i hn
      have hn' : 0 ≤ r := by simpa using hn
      obtain ⟨rn, rfl⟩ := Int.eq_ofNat_of_zero_le hn'
      obtain ⟨r2, f1, f2, f3⟩ := size_loop2 dn rc hd l rn (by omega) (fun y hy => hr y (by simp [hy]))
      refine ⟨r2, f1, by omega, fun h y hy => ?_⟩
      rcases List.mem_cons.1 hy with rfl | hy
      · exact e3 hn'
      · exact f3 h y hy
theorem size_ok : ∀ (D : Nat) (v : ApiValue) (ln dn : Nat), dn < D → dn ≤ 900 → ln ≤ 900 → ∃ r : Int, keep_size N D v ln dn = some r ∧ r ≤ ln ∧ (0 ≤ r → okV v)
  | 0, _, _, _, h, _, _ => by omega
  | D + 1, v, ln, dn, hd, hdn, hl => by
    rw [keep_size, joinK_eq]
    simp only [joinK_eq, if_true]
    have none : ∃ r : Int, some (-1 : Int) = some r ∧ r ≤ (ln : Int) ∧ (0 ≤ r → okV v) := ⟨-1, rfl, by omega, by omega⟩
    split
    · exact none
    · split
      · exact none
      · split
        · exact none
        · split
          · exact none
          · rename_i h1 h2 h3 h4
            simp only [decide_eq_true_eq] at h1 h2 h3 h4
            by_cases h5 : decide ((v.items.length : Int) > (ln : Int)) = true
            · rw [if_pos h5]; exact none
            · rw [if_neg h5]
              simp only [decide_eq_true_eq] at h5
              rw [wr_i64 (by omega)] at h4
              obtain ⟨l1, rfl⟩ : ∃ l1, ln = l1 + 1 := ⟨ln - 1, by omega⟩
              obtain ⟨d1, rfl⟩ : ∃ d1, dn = d1 + 1 := ⟨dn - 1, by omega⟩
              rw [grdS (by omega), show wr .i64 (((l1 + 1 : Nat) : Int) - 1) = (l1 : Int) by rw [wr_i64 (by omega)]; omega]
              rcases size_loop1 (N := N) (fun _ => grd (fitsS v.items.length) (keep_size_L2 N ((d1 + 1 : Nat) : Int) (keep_size N D) (fun j => some j) v.items (l1 : Int))) v.keys with e1 | e1
              · rw [e1, grdS (by omega)]
                obtain ⟨r, f1, f2, f3⟩ := size_loop2 (N := N) d1 (keep_size N D) (by omega) v.items l1 (by omega) (fun x hx n hn => size_ok D x n d1 (by omega) (by omega) hn)
                exact ⟨r, f1, by omega, fun h => .mk _ (by omega) (by omega) (f3 h)⟩
              · rw [e1]; exact none
theorem keepV_ok (hN : 71 ≤ N) (v : ApiValue) (n : Nat) (hn : n ≤ 800) : ∃ b, keep_Value N v n = some b ∧ (b = true → okV v) := by
  obtain ⟨r, e1, e2, e3⟩ := size_ok (N := N) N v n 70 (by omega) (by omega) (by omega)
  refine ⟨decide (r ≥ 0), ?_, fun h => e3 (by simpa using h)⟩
  unfold keep_Value
  rw [show (70 : Int) = ((70 : Nat) : Int) from rfl, e1]; rfl

theorem keepJ_loop1 (k6 : Unit → Option Bool) : ∀ (l : List (List UInt8)), keep_JRD_L1 N k6 l = k6 () ∨ keep_JRD_L1 N k6 l = some false
  | [] => by rw [keep_JRD_L1]; exact .inl rfl
  | x :: l => by
    rw [keep_JRD_L1]
    split
    · exact .inr rfl
    · exact keepJ_loop1 k6 l
theorem keepJ_loop2 (k11 : Unit → Option Bool) : ∀ (l : List ApiLink), (keep_JRD_L2 N k11 l = k11 () ∧ ∀ x, x ∈ l → x.titles.length ≤ 70 ∧ x.properties.length ≤ 70) ∨ keep_JRD_L2 N k11 l = some false
  | [] => by rw [keep_JRD_L2]; exact .inl ⟨rfl, by simp⟩
  | x :: l => by
    rw [keep_JRD_L2, joinK_eq]
    simp only [if_true]
    split
    · exact .inr rfl
    · split
      · exact .inr rfl
      · rename_i h1 h2
        by_cases h3 : decide ((x.properties.length : Int) > 70) = true
        · rw [if_pos h3]; exact .inr rfl
        · rw [if_neg h3]
          simp only [decide_eq_true_eq] at h2 h3
          rcases keepJ_loop2 k11 l with ⟨e, f⟩ | e
          · refine .inl ⟨e, fun y hy => ?_⟩
            rcases List.mem_cons.1 hy with rfl | hy
            · omega
            · exact f y hy
          · exact .inr e
theorem keepJ_eq (j : ApiJRD) : (keep_JRD N j = some true ∧ smallJ j) ∨ keep_JRD N j = some false := by
  unfold keep_JRD
  rw [joinK_eq]
  simp only [if_true]
  split
  · exact .inr rfl
  · split
    · exact .inr rfl
    · split
      · exact .inr rfl
      · rename_i h0 h1 h2
        by_cases h3 : decide ((j.properties.length : Int) > 70) = true
        · rw [if_pos h3]; exact .inr rfl
        · rw [if_neg h3, joinK_eq]
          simp only [decide_eq_true_eq] at h1 h2 h3
          rw [grdS (by omega)]
          rcases keepJ_loop1 (N := N) (fun _ => joinK (fun j10 : Unit => some true) fun k11 => grd (fitsS j.links.length) (keep_JRD_L2 N k11 j.links)) j.aliases with e | e
          · rw [e, joinK_eq, grdS (by omega)]
            rcases keepJ_loop2 (N := N) (fun _ => some true) j.links with ⟨e2, f⟩ | e2
            · exact .inl ⟨e2, by omega, by omega, by omega, f⟩
            · exact .inr e2
          · exact .inr e

/-- what is compared with itself -/
theorem sameP_loop (l : List ApiProperty) (k2 : Unit → Option Bool) : ∀ (suf pre : List ApiProperty), l = pre ++ suf → ref16_sameProperties_L1 N l k2 suf (pre.length : Int) = k2 ()
  | [], pre, _ => by rw [ref16_sameProperties_L1]
  | x :: suf, pre, h => by
    rw [ref16_sameProperties_L1, idx_at h, Option.bind_some, len_snoc pre x, sameP_loop l k2 suf (pre ++ [x]) (by rw [h]; simp)]
    simp
theorem sameP_refl (l : List ApiProperty) (h : l.length ≤ 100000) : ref16_sameProperties N l l = some true := by
  unfold ref16_sameProperties
  rw [joinK_eq, grdS (by omega)]
  have := sameP_loop (N := N) l (fun _ => some true) l [] rfl
  simp only [bne_self_eq_false, Bool.false_eq_true, if_false]
  exact this
theorem sameLk_refl (l : ApiLink) (h1 : l.titles.length ≤ 100000) (h2 : l.properties.length ≤ 100000) : ref16_SameLink N l l = some true := by
  unfold ref16_SameLink
  simp only [beq_self_eq_true, if_true, sameP_refl _ h1, sameP_refl _ h2, Option.bind_some]
theorem sameJ_loop1 (j : ApiJRD) (k8 : Unit → Option Bool) : ∀ (suf pre : List (List UInt8)), j.aliases = pre ++ suf → ref16_Same_L1 N j k8 suf (pre.length : Int) = k8 ()
  | [], pre, _ => by rw [ref16_Same_L1]
  | x :: suf, pre, h => by
    rw [ref16_Same_L1, idx_at h, Option.bind_some, len_snoc pre x, sameJ_loop1 j k8 suf (pre ++ [x]) (by rw [h]; simp)]
    simp
theorem sameJ_loop2 (j : ApiJRD) (k14 : Unit → Option Bool) : ∀ (suf pre : List ApiLink), j.links = pre ++ suf → (∀ x, x ∈ suf → x.titles.length ≤ 100000 ∧ x.properties.length ≤ 100000) → ref16_Same_L2 N j k14 suf (pre.length : Int) = k14 ()
  | [], pre, _, _ => by rw [ref16_Same_L2]
  | x :: suf, pre, h, hb => by
    rw [ref16_Same_L2, idx_at h, Option.bind_some, sameLk_refl x (hb x (by simp)).1 (hb x (by simp)).2, Option.bind_some, if_pos rfl, len_snoc pre x, sameJ_loop2 j k14 suf (pre ++ [x]) (by rw [h]; simp) (fun y hy => hb y (by simp [hy]))]
structure fewJ (j : ApiJRD) : Prop where
  a : j.aliases.length ≤ 100000
  p : j.properties.length ≤ 100000
  l : j.links.length ≤ 100000
  t : ∀ x, x ∈ j.links → x.titles.length ≤ 100000 ∧ x.properties.length ≤ 100000
theorem sameJ_refl (j : ApiJRD) (h : fewJ j) : ref16_Same N j j = some true := by
  unfold ref16_Same
  have e1 := fun k => sameJ_loop1 (N := N) j k j.aliases [] rfl
  have e2 := fun k => sameJ_loop2 (N := N) j k j.links [] rfl h.t
  simp only [List.length_nil, Int.ofNat_zero] at e1 e2
  have h1 := h.a; have h2 := h.l
  simp only [joinK_eq, beq_self_eq_true, if_true, bne_self_eq_false, Bool.false_eq_true, if_false, sameP_refl _ h.p, Option.bind_some, Bool.not_true, grdS (show j.aliases.length ≤ 4611686018427387904 by omega), grdS (show j.links.length ≤ 4611686018427387904 by omega), e1, e2]

/-- what is decoded is not long -/
theorem propsL_len (null : Bool) : ∀ (ks : List (List UInt8)) (xs : List ApiValue) (d : JrdDecoder), (propsL null ks xs d).1.length = min ks.length xs.length
  | [], xs, d => by cases xs <;> simp [propsL]
  | k :: ks, [], d => by simp [propsL]
  | k :: ks, x :: xs, d => by rw [propsL]; simp only [List.length_cons, propsL_len null ks xs]; omega
theorem propsD_len (d : JrdDecoder) (g : ApiValue × Bool) (null : Bool) : (propsD d g null).1.length ≤ 64 := by
  unfold propsD; simp only [propsL_len]; exact items_len d g
theorem textsL_len : ∀ (xs : List ApiValue) (d : JrdDecoder), (textsL xs d).1.length = xs.length
  | [], d => rfl
  | x :: xs, d => by simp only [textsL, List.length_cons, textsL_len xs]
theorem linksL_len : ∀ (xs : List ApiValue) (d : JrdDecoder), (linksL xs d).1.length = xs.length ∧ ∀ l, l ∈ (linksL xs d).1 → l.titles.length ≤ 64 ∧ l.properties.length ≤ 64
  | [], d => ⟨rfl, by simp [linksL]⟩
  | x :: xs, d => by
    obtain ⟨h1, h2⟩ := linksL_len xs (linkD d x).2
    refine ⟨by simp only [linksL, List.length_cons, h1], fun l hl => ?_⟩
    simp only [linksL, List.mem_cons] at hl
    rcases hl with rfl | hl
    · exact ⟨propsD_len .., propsD_len ..⟩
    · exact h2 l hl
theorem decG_few (gs ga gp gl : ApiValue × Bool) : (decG gs ga gp gl).1.aliases.length ≤ 64 ∧ (decG gs ga gp gl).1.properties.length ≤ 64 ∧ (decG gs ga gp gl).1.links.length ≤ 64 ∧ ∀ l, l ∈ (decG gs ga gp gl).1.links → l.titles.length ≤ 64 ∧ l.properties.length ≤ 64 := by
  unfold decG
  simp only []
  split
  · simp
  · refine ⟨by simp only [textsL_len]; exact items6 .., propsD_len .., by simp only [(linksL_len _ _).1]; exact items6 .., (linksL_len _ _).2⟩
theorem decJ_few (v : ApiValue) : (decJ v).1.aliases.length ≤ 64 ∧ (decJ v).1.properties.length ≤ 64 ∧ (decJ v).1.links.length ≤ 64 ∧ ∀ l, l ∈ (decJ v).1.links → l.titles.length ≤ 64 ∧ l.properties.length ≤ 64 := by
  unfold decJ; split
  · simp
  · exact decG_few ..
theorem decJ_fewJ (v : ApiValue) : fewJ (decJ v).1 := by
  obtain ⟨h1, h2, h3, h4⟩ := decJ_few v
  exact ⟨by omega, by omega, by omega, fun x hx => by have := h4 x hx; omega⟩
end
end Go.VM
