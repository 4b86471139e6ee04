/- That what is equal is found equal; the bounds of the law; the law. -/
import Derived.Test.YtdbeiialamganaaEncodes
set_option linter.unusedVariables false
set_option linter.unusedSimpArgs false
namespace Go.VM

def fitV : Nat → ApiValue → Prop
  | 0, _ => False
  | d + 1, v => v.items.length ≤ 900 ∧ v.keys.length ≤ 900 ∧ ∀ x, x ∈ v.items → fitV d x
theorem fitV.mono : ∀ {d e : Nat} {v : ApiValue}, fitV d v → d ≤ e → fitV e v
  | 0, _, _, h, _ => h.elim
  | d + 1, 0, _, _, he => by omega
  | d + 1, e + 1, v, h, he => ⟨h.1, h.2.1, fun x hx => (h.2.2 x hx).mono (by omega)⟩
section
variable {N : Nat}
theorem same_loop2 (v : ApiValue) (k51 : Unit → Option Bool) : ∀ (suf pre : List (List UInt8)) (k : Nat), v.keys = pre ++ suf → suf.length < k → pre.length + suf.length ≤ 900 → ref14_Same_L2 N v v k51 k (pre.length : Int) = k51 ()
  | [], pre, k + 1, hl, _, _ => by
    rw [ref14_Same_L2, hl, lt_end]; simp
  | x :: suf, pre, k + 1, hl, hk, hb => by
    simp only [List.length_cons] at hk hb
    rw [ref14_Same_L2]
    have h1 : decide ((pre.length : Int) < (v.keys.length : Int)) = true := by rw [hl]; exact lt_mid ..
    have h2 : idx v.keys (pre.length : Int) = some x := by rw [hl]; exact idx_mid ..
    rw [h1, if_pos rfl, h2, Option.bind_some, Option.bind_some, if_pos (by simp), step_mid pre x (by omega)]
    exact same_loop2 v k51 suf (pre ++ [x]) k (by rw [hl]; simp) (by omega) (by simp; omega)
theorem same_loop1 (v : ApiValue) (rc : ApiValue → ApiValue → Option Bool) (k18 : Unit → Option Bool) : ∀ (suf pre : List ApiValue) (k : Nat), v.items = pre ++ suf → suf.length < k → pre.length + suf.length ≤ 900 → (∀ x, x ∈ suf → rc x x = some true) → ref14_Same_L1 N v v rc k18 k (pre.length : Int) = k18 ()
  | [], pre, k + 1, hl, _, _, _ => by
    rw [ref14_Same_L1, hl, lt_end]; simp
  | x :: suf, pre, k + 1, hl, hk, hb, hr => by
    simp only [List.length_cons] at hk hb
    rw [ref14_Same_L1]
    have h1 : decide ((pre.length : Int) < (v.items.length : Int)) = true := by rw [hl]; exact lt_mid ..
    have h2 : idx v.items (pre.length : Int) = some x := by rw [hl]; exact idx_mid ..
    rw [h1, if_pos rfl, h2, Option.bind_some, Option.bind_some, hr x (by simp), Option.bind_some, if_pos rfl, step_mid pre x (by omega)]
    exact same_loop1 v rc k18 suf (pre ++ [x]) k (by rw [hl]; simp) (by omega) (by simp; omega) (fun y hy => hr y (by simp [hy]))
theorem same_refl (hN : 1000 ≤ N) : ∀ (d D : Nat) (v : ApiValue), fitV d v → d ≤ D → ref14_Same N D v v = some true
  | 0, _, _, h, _ => h.elim
  | d + 1, 0, _, _, h => by omega
  | d + 1, D + 1, v, h, hd => by
    have e1 := same_loop1 (N := N) v (ref14_Same N D) (fun _ => joinK (fun j50 : Unit => some true) fun k51 => ref14_Same_L2 N v v k51 N 0) v.items [] N (by simp) (by have := h.1; omega) (by simpa using h.1) (fun x hx => same_refl hN d D x (h.2.2 x hx) (by omega))
    have e2 := same_loop2 (N := N) v (fun _ => some true) v.keys [] N (by simp) (by have := h.2.1; omega) (by simpa using h.2.1)
    simp only [List.length_nil] at e1 e2
    rw [show ((0 : Nat) : Int) = 0 from rfl] at e1 e2
    rw [ref14_Same, joinK_eq]
    simp only [bne_self_eq_false, beq_self_eq_true, Bool.false_eq_true, if_false, if_true, joinK_eq]
    simp only [joinK_eq] at e1
    rw [e1]
    exact e2

theorem sameProps_loop (l : List ApiProperty) (k11 : Unit → Option Bool) : ∀ (suf pre : List ApiProperty) (k : Nat), l = pre ++ suf → suf.length < k → pre.length + suf.length ≤ 900 → ref16_sameProperties_L1 N l l k11 k (pre.length : Int) = k11 ()
  | [], pre, k + 1, hl, _, _ => by
    rw [ref16_sameProperties_L1, hl, lt_end]; simp
  | x :: suf, pre, k + 1, hl, hk, hb => by
    simp only [List.length_cons] at hk hb
    rw [ref16_sameProperties_L1]
    have h1 : decide ((pre.length : Int) < (l.length : Int)) = true := by rw [hl]; exact lt_mid ..
    have h2 : idx l (pre.length : Int) = some x := by rw [hl]; exact idx_mid ..
    rw [h1, if_pos rfl, h2, Option.bind_some, Option.bind_some, if_pos (by simp), step_mid pre x (by omega)]
    exact sameProps_loop l k11 suf (pre ++ [x]) k (by rw [hl]; simp) (by omega) (by simp; omega)
theorem sameProps_refl (hN : 1000 ≤ N) (l : List ApiProperty) (h : l.length ≤ 900) : ref16_sameProperties N l l = some true := by
  have e := sameProps_loop (N := N) l (fun _ => some true) l [] N (by simp) (by omega) (by simpa using h)
  simp only [List.length_nil] at e
  rw [show ((0 : Nat) : Int) = 0 from rfl] at e
  unfold ref16_sameProperties
  simp only [bne_self_eq_false, Bool.false_eq_true, if_false, joinK_eq]
  exact e
theorem sameLink_refl (hN : 1000 ≤ N) (l : ApiLink) (h1 : l.titles.length ≤ 900) (h2 : l.properties.length ≤ 900) : ref16_SameLink N l l = some true := by
  unfold ref16_SameLink
  simp only [beq_self_eq_true, if_true, sameProps_refl hN _ h1, sameProps_refl hN _ h2, Option.bind_some]
end

/-- few members, each not too deep -/
def good (d n : Nat) (v : ApiValue) : Prop := few v n ∧ ∀ x, x ∈ v.items → fitV d x
theorem good.fit {d n : Nat} {v : ApiValue} (h : good d n v) (hn : n ≤ 900) : fitV (d + 1) v := ⟨Nat.le_trans h.1.2 hn, Nat.le_trans h.1.1 hn, h.2⟩
theorem good.more {d n k : Nat} {v : ApiValue} (h : good d n v) (hk : n ≤ k) : good d k v := ⟨h.1.mono hk, h.2⟩
theorem good_addM {d n : Nat} {v x : ApiValue} {key : List UInt8} (h : good d n v) (hx : fitV d x) : good d (n + 1) (addM v key x) := by
  refine ⟨few_addM h.1, fun y hy => ?_⟩
  simp only [addM, List.mem_append, List.mem_singleton] at hy
  rcases hy with hy | rfl
  · exact h.2 y hy
  · exact hx
theorem fit_strV (s : List UInt8) : fitV 1 (strV s) := ⟨by simp [strV], by simp [strV], by simp [strV]⟩
theorem fit_propV (p : ApiProperty) : fitV 1 (propV p) := by
  unfold propV; split
  · exact ⟨by simp, by simp, by simp⟩
  · exact fit_strV _
theorem fit_propsV {l : List ApiProperty} (h : l.length ≤ 900) : fitV 2 (propsV l) := by
  refine ⟨by simpa [propsV] using h, by simpa [propsV] using h, fun x hx => ?_⟩
  simp only [propsV, List.mem_map] at hx
  obtain ⟨p, _, rfl⟩ := hx
  exact fit_propV p
theorem good_textM {d n : Nat} {v : ApiValue} {key s : List UInt8} (hd : 1 ≤ d) (h : good d n v) : good d (n + 1) (textM v key s) := by
  unfold textM; split
  · exact h.more (by omega)
  · exact good_addM h ((fit_strV s).mono hd)
theorem good_propsM {d n : Nat} {v : ApiValue} {key : List UInt8} {l : List ApiProperty} (hd : 2 ≤ d) (hl : l.length ≤ 900) (h : good d n v) : good d (n + 1) (propsM v key l) := by
  unfold propsM; split
  · exact h.more (by omega)
  · exact good_addM h ((fit_propsV hl).mono hd)
theorem good_listM {d n : Nat} {v : ApiValue} {key : List UInt8} {l : List ApiValue} (hl : l.length ≤ 900) (hf : ∀ x, x ∈ l → fitV d x) (h : good (d + 1) n v) : good (d + 1) (n + 1) (listM v key l) := by
  unfold listM; split
  · exact h.more (by omega)
  · exact good_addM h ⟨hl, by simp, hf⟩
theorem good_obj (d : Nat) : good d 0 (ApiValue.mk 7 [] [] []) := ⟨few_obj, by simp⟩
theorem fit_linkV {l : ApiLink} (h1 : l.titles.length ≤ 900) (h2 : l.properties.length ≤ 900) : fitV 3 (linkV l) :=
  (good_propsM (Nat.le_refl _) h2 (good_propsM (Nat.le_refl _) h1 (good_textM (by omega) (good_textM (by omega) (good_textM (by omega) (good_addM (good_obj 2) ((fit_strV _).mono (by omega)))))))).fit (by omega)
theorem fit_encJ {j : ApiJRD} (h : smallJ j) : fitV 5 (encJ j) := by
  obtain ⟨ha, hp, hl, ht⟩ := h
  refine (good_listM (by simpa using (by omega : j.links.length ≤ 900)) (fun x hx => ?_) (good_propsM (by omega) (by omega) (good_listM (by simpa using (by omega : j.aliases.length ≤ 900)) (fun x hx => ?_) (good_textM (by omega) (good_obj 4))))).fit (by omega)
  · obtain ⟨l, hl', rfl⟩ := List.mem_map.1 hx
    have := ht l hl'
    exact fit_linkV (by omega) (by omega)
  · obtain ⟨s, _, rfl⟩ := List.mem_map.1 hx
    exact (fit_strV s).mono (by omega)

/-- the bounds -/
def lenOK (j : ApiJRD) : Prop := j.aliases.length ≤ 140737488351232 ∧ ∀ l, l ∈ j.links → l.rel.length ≤ 140737488351232 ∧ l.type_.length ≤ 140737488351232 ∧ l.href.length ≤ 140737488351232 ∧ l.template.length ≤ 140737488351232 ∧ l.titles.length ≤ 140737488351232 ∧ l.properties.length ≤ 140737488351232
theorem keep_loop1 (j : ApiJRD) (k18 : Unit → Option Bool) : ∀ (suf pre : List (List UInt8)) (k : Nat), j.aliases = pre ++ suf → suf.length < k → pre.length + suf.length ≤ 900 → keep_JRD_L1 1000 j k18 k (pre.length : Int) = k18 () ∨ keep_JRD_L1 1000 j k18 k (pre.length : Int) = some false
  | [], pre, k + 1, hl, _, _ => by
    rw [keep_JRD_L1, hl, lt_end]; simp
  | x :: suf, pre, k + 1, hl, hk, hb => by
    simp only [List.length_cons] at hk hb
    rw [keep_JRD_L1]
    have h1 : decide ((pre.length : Int) < (j.aliases.length : Int)) = true := by rw [hl]; exact lt_mid ..
    have h2 : idx j.aliases (pre.length : Int) = some x := by rw [hl]; exact idx_mid ..
    rw [h1, if_pos rfl, h2, Option.bind_some, step_mid pre x (by omega)]
    split
    · exact .inr rfl
    · exact keep_loop1 j k18 suf (pre ++ [x]) k (by rw [hl]; simp) (by omega) (by simp; omega)
theorem keep_loop2 (j : ApiJRD) (k45 : Unit → Option Bool) : ∀ (suf pre : List ApiLink) (k : Nat), j.links = pre ++ suf → suf.length < k → pre.length + suf.length ≤ 900 →
    (keep_JRD_L2 1000 j k45 k (pre.length : Int) = k45 () ∧ ∀ l, l ∈ suf → l.titles.length ≤ 70 ∧ l.properties.length ≤ 70) ∨ keep_JRD_L2 1000 j k45 k (pre.length : Int) = some false
  | [], pre, k + 1, hl, _, _ => by
    rw [keep_JRD_L2, hl, lt_end]; simp
  | x :: suf, pre, k + 1, hl, hk, hb => by
    simp only [List.length_cons] at hk hb
    rw [keep_JRD_L2]
    have h1 : decide ((pre.length : Int) < (j.links.length : Int)) = true := by rw [hl]; exact lt_mid ..
    have h2 : idx j.links (pre.length : Int) = some x := by rw [hl]; exact idx_mid ..
    rw [h1, if_pos rfl, h2, Option.bind_some, joinK_eq, step_mid pre x (by omega)]
    split
    · exact .inr rfl
    · split
      · exact .inr rfl
      · rename_i ht
        simp only []
        by_cases hp : decide ((x.properties.length : Int) > 70) = true
        · rw [if_pos hp]; exact .inr rfl
        · rw [if_neg hp]
          rcases keep_loop2 j k45 suf (pre ++ [x]) k (by rw [hl]; simp) (by omega) (by simp; omega) with ⟨h3, h4⟩ | h3
          · refine .inl ⟨h3, fun l hl => ?_⟩
            rcases List.mem_cons.1 hl with rfl | hl
            · simp only [decide_eq_true_eq] at ht hp; omega
            · exact h4 l hl
          · exact .inr h3
theorem keep_eq (j : ApiJRD) : (keep_JRD 1000 j = some true ∧ smallJ j) ∨ keep_JRD 1000 j = some false := by
  unfold keep_JRD
  rw [joinK_eq]
  simp only [if_true, Bool.false_eq_true, if_false]
  by_cases h0 : decide ((j.subject.length : Int) > 300) = true
  · rw [if_pos h0]; exact .inr rfl
  rw [if_neg h0]
  by_cases h1 : decide ((j.aliases.length : Int) > 70) = true
  · rw [if_pos h1]; exact .inr rfl
  rw [if_neg h1]
  by_cases h2 : decide ((j.links.length : Int) > 70) = true
  · rw [if_pos h2]; exact .inr rfl
  rw [if_neg h2]
  by_cases h3 : decide ((j.properties.length : Int) > 70) = true
  · rw [if_pos h3]; exact .inr rfl
  rw [if_neg h3, joinK_eq]
  simp only [decide_eq_true_eq] at h1 h2 h3
  have e1 := fun k => keep_loop1 j k j.aliases [] 1000 (by simp) (by omega) (by simp; omega)
  have e2 := fun k => keep_loop2 j k j.links [] 1000 (by simp) (by omega) (by simp; omega)
  simp only [List.length_nil] at e1 e2
  rw [show ((0 : Nat) : Int) = 0 from rfl] at e1 e2
  rcases e1 (fun _ => joinK (fun j44 : Unit => some true) fun k45 => keep_JRD_L2 1000 j k45 1000 0) with h | h
  · rw [h, joinK_eq]
    rcases e2 (fun _ => some true) with ⟨h4, h5⟩ | h4
    · exact .inl ⟨h4, by omega, by omega, by omega, h5⟩
    · exact .inr h4
  · exact .inr h

theorem law_loop (l : List ApiLink) (k54 : Unit → Option Bool) : ∀ (suf pre : List ApiLink) (k : Nat), l = pre ++ suf → suf.length < k → pre.length + suf.length ≤ 900 → (∀ x, x ∈ suf → x.titles.length ≤ 900 ∧ x.properties.length ≤ 900) → law16_JrdEncodes_L1 1000 l l k54 k (pre.length : Int) = k54 ()
  | [], pre, k + 1, hl, _, _, _ => by
    rw [law16_JrdEncodes_L1, hl, lt_end]; simp
  | x :: suf, pre, k + 1, hl, hk, hb, ht => by
    simp only [List.length_cons] at hk hb
    rw [law16_JrdEncodes_L1]
    have h1 : decide ((pre.length : Int) < (l.length : Int)) = true := by rw [hl]; exact lt_mid ..
    have h2 : idx l (pre.length : Int) = some x := by rw [hl]; exact idx_mid ..
    have hx := ht x (by simp)
    rw [h1, if_pos rfl, h2, Option.bind_some, Option.bind_some, sameLink_refl (Nat.le_refl _) x hx.1 hx.2, Option.bind_some, if_pos rfl, step_mid pre x (by omega)]
    exact law_loop l k54 suf (pre ++ [x]) k (by rw [hl]; simp) (by omega) (by simp; omega) (fun y hy => ht y (by simp [hy]))
theorem jrdEncodes_true (j : ApiJRD) (rel : List UInt8) : law16_JrdEncodes 1000 j rel = some true := by
  unfold law16_JrdEncodes
  rw [sane16, Option.bind_some, if_pos rfl]
  rcases keep_eq j with ⟨h1, h2⟩ | h1
  · have hs := h2
    obtain ⟨ha, hp, hl, ht⟩ := h2
    have hf : ∀ x, x ∈ findS j rel → x ∈ j.links := fun x hx => (List.mem_filter.1 hx).1
    have hfl : (findS j rel).length ≤ 70 := Nat.le_trans (List.length_filter_le _ _) hl
    rw [h1, Option.bind_some, if_pos rfl, find_eq j rel hl ht, Option.bind_some, find_eq' j rel hl, Option.bind_some, joinK_eq]
    simp only [bne_self_eq_false, Bool.false_eq_true, if_false]
    rw [encode_eq (Nat.le_refl _) j hs, Option.bind_some, rencode_eq (Nat.le_refl _) j hs, Option.bind_some, same_refl (Nat.le_refl _) 5 1000 _ (fit_encJ hs) (by omega), Option.bind_some]
    simp only [Bool.not_true, Bool.false_eq_true, if_false, joinK_eq]
    have e := law_loop (findS j rel) (fun _ => some true) (findS j rel) [] 1000 (by simp) (by omega) (by simp; omega) (fun x hx => by have := ht x (hf x hx); omega)
    simp only [List.length_nil] at e
    rw [show ((0 : Nat) : Int) = 0 from rfl] at e
    exact e
  · rw [h1, Option.bind_some, if_neg (by simp)]
end Go.VM
