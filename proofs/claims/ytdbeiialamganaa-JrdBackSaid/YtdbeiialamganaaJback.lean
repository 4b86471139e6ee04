/- The plain law of JrdBack: what is decoded comes back from its encoding. -/
import Derived.Test.YtdbeiialamganaaJign
import Derived.Test.YtdbeiialamganaaJdecs
set_option linter.unusedVariables false
set_option linter.unusedSimpArgs false
namespace Go.VM
/-- the members of what is built -/
theorem get_add {l : List (List UInt8)} {v : ApiValue} (h : okO l v) {k : List UInt8} (hk : k ∉ l) (x : ApiValue) (key : List UInt8) : getJ (addM v k x) key = if key = k then (x, true) else getJ v key := by
  have hk' : k ∉ v.keys := fun hm => hk (h.sub.subset hm)
  unfold getJ
  have e1 : (addM v k x).kind = 7 := h.kind
  rw [e1, h.kind]
  simp only [beq_self_eq_true, if_true]
  show getL (v.keys ++ [k]) (v.items ++ [x]) key = _
  rw [getL_app _ _ _ _ _ h.len]
  by_cases e : key = k
  · subst e
    rw [if_neg hk', if_pos rfl]; simp [getL]
  · rw [if_neg e]
    by_cases hm : key ∈ v.keys
    · rw [if_pos hm]
    · rw [if_neg hm, getL_not v.keys v.items key hm]
      have : (k == key) = false := by simpa using fun h => e h.symm
      simp [getL, this]
theorem get_none' {l : List (List UInt8)} {v : ApiValue} (h : okO l v) {k : List UInt8} (hk : k ∉ l) : getJ v k = (zeroV, false) := by
  unfold getJ
  split
  · exact getL_not _ _ _ fun hm => hk (h.sub.subset hm)
  · rfl
theorem get_text {l : List (List UInt8)} {v : ApiValue} (h : okO l v) {k : List UInt8} (hk : k ∉ l) (s key : List UInt8) : getJ (textM v k s) key = if key = k then (if s = [] then (zeroV, false) else (strV s, true)) else getJ v key := by
  unfold textM
  by_cases hs : s = []
  · subst hs
    simp only [beq_self_eq_true, if_true]
    by_cases e : key = k
    · rw [if_pos e, e, get_none' h hk]
    · rw [if_neg e]
  · have : (s == []) = false := by simpa using hs
    rw [this, if_neg (by simp), get_add h hk, if_neg hs]
theorem get_list {l : List (List UInt8)} {v : ApiValue} (h : okO l v) {k : List UInt8} (hk : k ∉ l) (s : List ApiValue) (key : List UInt8) : getJ (listM v k s) key = if key = k then (if s = [] then (zeroV, false) else (ApiValue.mk 6 [] [] s, true)) else getJ v key := by
  unfold listM
  by_cases hs : s = []
  · subst hs
    simp only [if_true]
    by_cases e : key = k
    · rw [if_pos e, e, get_none' h hk]
    · rw [if_neg e]
  · rw [if_neg hs, get_add h hk, if_neg hs]
theorem get_props {l : List (List UInt8)} {v : ApiValue} (h : okO l v) {k : List UInt8} (hk : k ∉ l) (s : List ApiProperty) (key : List UInt8) : getJ (propsM v k s) key = if key = k then (if s = [] then (zeroV, false) else (propsV s, true)) else getJ v key := by
  unfold propsM
  by_cases hs : s = []
  · subst hs
    simp only [if_true]
    by_cases e : key = k
    · rw [if_pos e, e, get_none' h hk]
    · rw [if_neg e]
  · rw [if_neg hs, get_add h hk, if_neg hs]

/-- reading what was written -/
theorem back_text (s : List UInt8) : memberD ⟨0⟩ (if s = [] then (zeroV, false) else (strV s, true)) = (s, ⟨0⟩) := by
  by_cases h : s = []
  · rw [if_pos h, h]; rfl
  · rw [if_neg h]; simp [memberD, textD, strV]
theorem back_texts : ∀ l : List (List UInt8), textsL (l.map strV) ⟨0⟩ = (l, ⟨0⟩)
  | [] => rfl
  | s :: l => by
    have e : textD ⟨0⟩ (strV s) = (s, ⟨0⟩) := by simp [textD, strV]
    simp only [List.map_cons, textsL, e, back_texts l]
/-- a property that decoding gives -/
def okP (null : Bool) (p : ApiProperty) : Prop := if p.null = true then null = true ∧ p.value = [] else True
theorem back_propsL (null : Bool) : ∀ l : List ApiProperty, (∀ p, p ∈ l → okP null p) → propsL null (l.map (·.name)) (l.map propV) ⟨0⟩ = (l, ⟨0⟩)
  | [], _ => rfl
  | p :: l, h => by
    have hp := h p (by simp)
    have e : propD null ⟨0⟩ (propV p) = (p.value, p.null, ⟨0⟩) := by
      unfold okP at hp
      unfold propD propV
      cases hn : p.null with
      | true =>
        rw [if_pos hn] at hp
        simp [hp.1, hp.2]
      | false => simp [textD, strV]
    simp only [List.map_cons, propsL, e, back_propsL null l fun q hq => h q (by simp [hq])]
theorem back_props (null : Bool) (l : List ApiProperty) (hl : l.length ≤ 64) (h : ∀ p, p ∈ l → okP null p) : propsD ⟨0⟩ (if l = [] then (zeroV, false) else (propsV l, true)) null = (l, ⟨0⟩) := by
  by_cases hs : l = []
  · rw [if_pos hs, hs]; rfl
  · rw [if_neg hs]
    have e : itemsD ⟨0⟩ (propsV l, true) 7 = (propsV l, ⟨0⟩) := by
      have : ¬ 64 < countD (propsV l) := by simp [countD, propsV]; omega
      simp only [itemsD, this]
      simp [propsV]
    unfold propsD
    rw [e]
    exact back_propsL null l h
theorem back_items (l : List ApiValue) (hl : l.length ≤ 64) : itemsD ⟨0⟩ (if l = [] then (zeroV, false) else (ApiValue.mk 6 [] [] l, true)) 6 = (if l = [] then zeroV else ApiValue.mk 6 [] [] l, ⟨0⟩) ∧ (if l = [] then zeroV else ApiValue.mk 6 [] [] l).items = l := by
  by_cases hs : l = []
  · subst hs; exact ⟨rfl, rfl⟩
  · rw [if_neg hs, if_neg hs]
    have : ¬ 64 < countD (ApiValue.mk 6 [] [] l) := by simp [countD]; omega
    refine ⟨?_, rfl⟩
    simp only [itemsD, this]
    simp
structure okL (x : ApiLink) : Prop where
  t : x.titles.length ≤ 64
  p : x.properties.length ≤ 64
  tn : ∀ q, q ∈ x.titles → okP false q
  pn : ∀ q, q ∈ x.properties → okP true q
theorem okO_obj : okO [] (ApiValue.mk 7 [] [] []) := ⟨rfl, List.Sublist.refl _, rfl⟩
theorem back_link (x : ApiLink) (h : okL x) : linkD ⟨0⟩ (linkV x) = (x, ⟨0⟩) := by
  have o1 := okO_obj.add kRel (strV x.rel)
  have o2 := okO_text o1 kType x.type_
  have o3 := okO_text o2 kHref x.href
  have o4 := okO_text o3 kTempl x.template
  have o5 := okO_props o4 kTitles x.titles
  have e : linkV x = propsM (propsM (textM (textM (textM (addM (ApiValue.mk 7 [] [] []) kRel (strV x.rel)) kType x.type_) kHref x.href) kTempl x.template) kTitles x.titles) kProps x.properties := rfl
  have g : ∀ key, getJ (linkV x) key = if key = kProps then (if x.properties = [] then (zeroV, false) else (propsV x.properties, true)) else if key = kTitles then (if x.titles = [] then (zeroV, false) else (propsV x.titles, true)) else
      if key = kTempl then (if x.template = [] then (zeroV, false) else (strV x.template, true)) else if key = kHref then (if x.href = [] then (zeroV, false) else (strV x.href, true)) else if key = kType then (if x.type_ = [] then (zeroV, false) else (strV x.type_, true)) else
      if key = kRel then (strV x.rel, true) else getJ (ApiValue.mk 7 [] [] []) key := by
    intro key
    rw [e, get_props o5 (by decide), get_props o4 (by decide), get_text o3 (by decide), get_text o2 (by decide), get_text o1 (by decide), get_add okO_obj (by decide)]
  have g1 : getJ (linkV x) kRel = (strV x.rel, true) := by rw [g, if_neg (by decide), if_neg (by decide), if_neg (by decide), if_neg (by decide), if_neg (by decide), if_pos rfl]
  have g2 : getJ (linkV x) kType = if x.type_ = [] then (zeroV, false) else (strV x.type_, true) := by rw [g, if_neg (by decide), if_neg (by decide), if_neg (by decide), if_neg (by decide), if_pos rfl]
  have g3 : getJ (linkV x) kHref = if x.href = [] then (zeroV, false) else (strV x.href, true) := by rw [g, if_neg (by decide), if_neg (by decide), if_neg (by decide), if_pos rfl]
  have g4 : getJ (linkV x) kTempl = if x.template = [] then (zeroV, false) else (strV x.template, true) := by rw [g, if_neg (by decide), if_neg (by decide), if_pos rfl]
  have g5 : getJ (linkV x) kTitles = if x.titles = [] then (zeroV, false) else (propsV x.titles, true) := by rw [g, if_neg (by decide), if_pos rfl]
  have g6 : getJ (linkV x) kProps = if x.properties = [] then (zeroV, false) else (propsV x.properties, true) := by rw [g, if_pos rfl]
  have m1 : memberD ⟨0⟩ (strV x.rel, true) = (x.rel, ⟨0⟩) := by simp [memberD, textD, strV]
  unfold linkD
  simp only [g1, g2, g3, g4, g5, g6, if_true, m1, back_text, back_props _ _ h.t h.tn, back_props _ _ h.p h.pn]
theorem back_links : ∀ l : List ApiLink, (∀ x, x ∈ l → okL x) → linksL (l.map linkV) ⟨0⟩ = (l, ⟨0⟩)
  | [], _ => rfl
  | x :: l, h => by simp only [List.map_cons, linksL, back_link x (h x (by simp)), back_links l fun y hy => h y (by simp [hy])]
structure okJ (j : ApiJRD) : Prop where
  a : j.aliases.length ≤ 64
  p : j.properties.length ≤ 64
  l : j.links.length ≤ 64
  pn : ∀ q, q ∈ j.properties → okP true q
  ln : ∀ x, x ∈ j.links → okL x
theorem back_all (j : ApiJRD) (h : okJ j) : decJ (encJ j) = (j, 0) := by
  have o1 := okO_text okO_obj kSubj j.subject
  have o2 := okO_list o1 kAli (j.aliases.map strV)
  have o3 := okO_props o2 kProps j.properties
  have e : encJ j = listM (propsM (listM (textM (ApiValue.mk 7 [] [] []) kSubj j.subject) kAli (j.aliases.map strV)) kProps j.properties) kLinks (j.links.map linkV) := rfl
  have g : ∀ key, getJ (encJ j) key = if key = kLinks then (if j.links.map linkV = [] then (zeroV, false) else (ApiValue.mk 6 [] [] (j.links.map linkV), true)) else if key = kProps then (if j.properties = [] then (zeroV, false) else (propsV j.properties, true)) else
      if key = kAli then (if j.aliases.map strV = [] then (zeroV, false) else (ApiValue.mk 6 [] [] (j.aliases.map strV), true)) else if key = kSubj then (if j.subject = [] then (zeroV, false) else (strV j.subject, true)) else getJ (ApiValue.mk 7 [] [] []) key := by
    intro key
    rw [e, get_list o3 (by decide), get_props o2 (by decide), get_list o1 (by decide), get_text okO_obj (by decide)]
  have g1 : getJ (encJ j) kSubj = if j.subject = [] then (zeroV, false) else (strV j.subject, true) := by rw [g, if_neg (by decide), if_neg (by decide), if_neg (by decide), if_pos rfl]
  have g2 : getJ (encJ j) kAli = if j.aliases.map strV = [] then (zeroV, false) else (ApiValue.mk 6 [] [] (j.aliases.map strV), true) := by rw [g, if_neg (by decide), if_neg (by decide), if_pos rfl]
  have g3 : getJ (encJ j) kProps = if j.properties = [] then (zeroV, false) else (propsV j.properties, true) := by rw [g, if_neg (by decide), if_pos rfl]
  have g4 : getJ (encJ j) kLinks = if j.links.map linkV = [] then (zeroV, false) else (ApiValue.mk 6 [] [] (j.links.map linkV), true) := by rw [g, if_pos rfl]
  obtain ⟨i1, i2⟩ := back_items (j.aliases.map strV) (by simpa using h.a)
  obtain ⟨i3, i4⟩ := back_items (j.links.map linkV) (by simpa using h.l)
  have hk : ((encJ j).kind != 7) = false := by rw [(okO_enc j).kind]; rfl
  unfold decJ decG
  rw [hk, if_neg (by simp), g1, g2, g3, g4]
  simp only [back_text, i1, i2, back_texts, back_props _ _ h.p h.pn, i3, i4, back_links _ h.ln]
  simp

/-- what decoding gives can be encoded and read back -/
theorem okP_propsL (null : Bool) : ∀ (ks : List (List UInt8)) (xs : List ApiValue) (d : JrdDecoder), ∀ p, p ∈ (propsL null ks xs d).1 → okP null p
  | [], xs, d => by cases xs <;> simp [propsL]
  | k :: ks, [], d => by simp [propsL]
  | k :: ks, x :: xs, d => by
    intro p hp
    simp only [propsL, List.mem_cons] at hp
    rcases hp with rfl | hp
    · unfold okP propD
      cases h : (null && x.kind == 1)
      · simp
      · simp only [if_true]
        simp only [Bool.and_eq_true] at h
        exact ⟨h.1, trivial⟩
    · exact okP_propsL null ks xs _ p hp
theorem okL_link (d : JrdDecoder) (v : ApiValue) : okL (linkD d v).1 := ⟨propsD_len .., propsD_len .., fun p hp => okP_propsL _ _ _ _ p hp, fun p hp => okP_propsL _ _ _ _ p hp⟩
theorem okL_links : ∀ (xs : List ApiValue) (d : JrdDecoder), ∀ x, x ∈ (linksL xs d).1 → okL x
  | [], d => by simp [linksL]
  | v :: xs, d => by
    intro x hx
    simp only [linksL, List.mem_cons] at hx
    rcases hx with rfl | hx
    · exact okL_link ..
    · exact okL_links xs _ x hx
theorem okJ_empty : okJ (ApiJRD.mk [] [] [] []) := ⟨by simp, by simp, by simp, by simp, by simp⟩
theorem okJ_dec (v : ApiValue) : okJ (decJ v).1 := by
  obtain ⟨h1, h2, h3, h4⟩ := decJ_few v
  refine ⟨h1, h2, h3, ?_, ?_⟩
  · unfold decJ
    split
    · simp
    · unfold decG
      simp only []
      split
      · simp
      · exact fun p hp => okP_propsL _ _ _ _ p hp
  · unfold decJ
    split
    · simp
    · unfold decG
      simp only []
      split
      · simp
      · exact fun x hx => okL_links _ _ x hx
theorem dec_bad (v : ApiValue) (h : (decJ v).2 ≠ 0) : (decJ v).1 = ApiJRD.mk [] [] [] [] := by
  unfold decJ at h ⊢
  split
  · rfl
  · rename_i hk
    rw [if_neg hk] at h
    unfold decG at h ⊢
    simp only [] at h ⊢
    split
    · rfl
    · rename_i hl
      rw [if_neg hl] at h
      exact absurd rfl h
theorem jrdBack_said (s : List UInt8) (_ : s.length ≤ reachBytes) : law16_JrdBack 13000 s = some true := by
  unfold law16_JrdBack
  rw [saneD, Option.bind_some, if_pos rfl]
  by_cases hs : decide ((s.length : Int) > 3000) = true
  · rw [if_pos hs]
  · rw [if_neg hs]
    simp only [decide_eq_true_eq] at hs
    obtain ⟨w, hw, hok, hz⟩ := parse_ok (N := 13000) (l := s) (by omega) (by omega)
    have hj := okJ_dec w.1
    rw [hw, Option.bind_some, dec_eq w.1 hok, Option.bind_some, joinK_eq]
    have bad : (decJ w.1).1 = ApiJRD.mk [] [] [] [] → (if ((decJ w.1).1.subject == []) = true then some (((decJ w.1).1.links.length : Int) == 0) else some false) = some true := fun e => by rw [e]; rfl
    simp only [if_true]
    by_cases h1 : (w.2.2 != 0) = true
    · rw [if_pos h1]
      refine bad ?_
      rw [hz (by simpa using h1)]; rfl
    · rw [if_neg h1]
      by_cases h2 : ((decJ w.1).2 != 0) = true
      · rw [if_pos h2]
        exact bad (dec_bad _ (by simpa using h2))
      · rw [if_neg h2]
        have hsm : smallJ (decJ w.1).1 := ⟨by have := hj.a; omega, by have := hj.p; omega, by have := hj.l; omega, fun x hx => by have a := (hj.ln x hx).t; have b := (hj.ln x hx).p; omega⟩
        rw [encode_eq _ hsm, Option.bind_some, dec_eq _ (okV_enc hsm), Option.bind_some, back_all _ hj]
        simp only [beq_self_eq_true, if_true, sameJ_refl _ (decJ_fewJ w.1), Option.bind_some]
        have a1 : decide (((decJ w.1).1.links.length : Int) ≤ 64) = true := by have := hj.l; simp; omega
        have a2 : decide (((decJ w.1).1.aliases.length : Int) ≤ 64) = true := by have := hj.a; simp; omega
        rw [a1, if_pos rfl, a2]
end Go.VM
