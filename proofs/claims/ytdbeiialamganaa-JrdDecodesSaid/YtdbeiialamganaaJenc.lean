/- What encoding gives: both encoders of resource descriptors compute one plain function. -/
import Derived.Test.YtdbeiialamganaaDefs
import Derived.Test.YtdbeiialamganaaBase
set_option linter.unusedVariables false
set_option linter.unusedSimpArgs false
namespace Go.VM

/-- what they encode -/
def addM (v : ApiValue) (key : List UInt8) (x : ApiValue) : ApiValue := ApiValue.mk v.kind v.text (v.keys ++ [key]) (v.items ++ [x])
def strV (s : List UInt8) : ApiValue := ApiValue.mk 5 s [] []
def textM (v : ApiValue) (key s : List UInt8) : ApiValue := if (s == []) = true then v else addM v key (strV s)
def propV (p : ApiProperty) : ApiValue := if p.null = true then ApiValue.mk 1 [] [] [] else strV p.value
def propsV (l : List ApiProperty) : ApiValue := ApiValue.mk 7 [] (l.map (·.name)) (l.map propV)
def propsM (v : ApiValue) (key : List UInt8) (l : List ApiProperty) : ApiValue := if l = [] then v else addM v key (propsV l)
def listM (v : ApiValue) (key : List UInt8) (l : List ApiValue) : ApiValue := if l = [] then v else addM v key (ApiValue.mk 6 [] [] l)
def few (v : ApiValue) (n : Nat) : Prop := v.keys.length ≤ n ∧ v.items.length ≤ n
theorem few_addM {v : ApiValue} {n : Nat} {key : List UInt8} {x : ApiValue} (h : few v n) : few (addM v key x) (n + 1) := by
  simp only [few, addM, List.length_append, List.length_cons, List.length_nil] at *; omega
theorem few.mono {v : ApiValue} {n k : Nat} (h : few v n) (hk : n ≤ k) : few v k := ⟨Nat.le_trans h.1 hk, Nat.le_trans h.2 hk⟩
theorem few_textM {v : ApiValue} {n : Nat} {key s : List UInt8} (h : few v n) : few (textM v key s) (n + 1) := by
  unfold textM; split
  · exact h.mono (by omega)
  · exact few_addM h
theorem few_listM {v : ApiValue} {n : Nat} {key : List UInt8} {l : List ApiValue} (h : few v n) : few (listM v key l) (n + 1) := by
  unfold listM; split
  · exact h.mono (by omega)
  · exact few_addM h
theorem few_propsM {v : ApiValue} {n : Nat} {key : List UInt8} {l : List ApiProperty} (h : few v n) : few (propsM v key l) (n + 1) := by
  unfold propsM; split
  · exact h.mono (by omega)
  · exact few_addM h

section
variable {N : Nat}
theorem add_eq (v : ApiValue) (key : List UInt8) (x : ApiValue) (h : few v 100000) : jrd_object_add N ⟨v⟩ key x = some ⟨addM v key x⟩ := by
  unfold jrd_object_add
  have h1 := h.1; have h2 := h.2
  rw [grdA (by simp only; omega) (by omega), grdA (by simp only; omega) (by omega)]
  rfl
theorem with_eq (v : ApiValue) (key : List UInt8) (x : ApiValue) (h : few v 100000) : ref16_with N v key x = some (addM v key x) := by
  unfold ref16_with
  have h1 := h.1; have h2 := h.2
  rw [sub_all, Option.bind_some, grd_true (fits_small (by omega) (by omega)), sub_all, Option.bind_some, grd_true (fits_small (by omega) (by omega))]
  rfl
theorem otext_eq (v : ApiValue) (key s : List UInt8) (h : few v 100000) : jrd_object_text N ⟨v⟩ key s = some ⟨textM v key s⟩ := by
  unfold jrd_object_text textM
  split
  · rfl
  · have := add_eq (N := N) v key (strV s) h
    simp only [strV] at this
    rw [this]; rfl
theorem rsome_eq (v : ApiValue) (key s : List UInt8) (h : few v 100000) : ref16_some N v key s = some (textM v key s) := by
  unfold ref16_some textM
  split
  · rfl
  · simp only [ref16_Text, Option.bind_some]
    rw [with_eq v key _ h]; rfl
theorem olist_eq (v : ApiValue) (key : List UInt8) (l : List ApiValue) (h : few v 100000) : jrd_object_list N ⟨v⟩ key l = some ⟨listM v key l⟩ := by
  unfold jrd_object_list listM
  by_cases hl : l = []
  · subst hl; simp
  · have : decide ((l.length : Int) > 0) = true := by
      have := List.length_pos_iff.2 hl
      simp only [decide_eq_true_eq]; omega
    rw [if_pos this, if_neg hl, add_eq v key _ h]; rfl

theorem oprops_loop (k2 : Int × (List UInt8) × (List (List UInt8)) × (List ApiValue) → Option JrdObject) : ∀ (suf : List ApiProperty) (ks : List (List UInt8)) (vs : List ApiValue), ks.length + suf.length ≤ 1000 → vs.length + suf.length ≤ 1000 →
    jrd_object_properties_L1 N k2 suf 7 [] ks vs = k2 (7, [], ks ++ suf.map (·.name), vs ++ suf.map propV)
  | [], ks, vs, _, _ => by rw [jrd_object_properties_L1]; simp
  | x :: suf, ks, vs, h1, h2 => by
    simp only [List.length_cons] at h1 h2
    have ih := oprops_loop k2 suf (ks ++ [x.name]) (vs ++ [propV x]) (by simp; omega) (by simp; omega)
    have hadd : ∀ y, jrd_object_add N ⟨ApiValue.mk 7 [] ks vs⟩ x.name y = some ⟨addM (ApiValue.mk 7 [] ks vs) x.name y⟩ := fun y => add_eq _ _ _ ⟨by simp; omega, by simp; omega⟩
    rw [jrd_object_properties_L1, joinK_eq]
    simp only [hadd, Option.bind_some, List.map_cons]
    simp only [List.append_assoc, List.singleton_append] at ih
    rw [← ih]
    by_cases hn : x.null = true
    · rw [if_pos hn]; simp [addM, propV, hn]
    · rw [if_neg hn]; simp [addM, propV, hn, strV]
theorem oprops_eq (v : ApiValue) (key : List UInt8) (l : List ApiProperty) (h : few v 100000) (hl : l.length ≤ 900) : jrd_object_properties N ⟨v⟩ key l = some ⟨propsM v key l⟩ := by
  unfold jrd_object_properties propsM
  by_cases he : l = []
  · subst he; simp
  · have : ¬ ((l.length : Int) == 0) = true := by
      have := List.length_pos_iff.2 he
      simp only [beq_iff_eq]; omega
    rw [if_neg this, if_neg he, joinK_eq, grdS (by omega), oprops_loop _ l [] [] (by simp; omega) (by simp; omega)]
    simp only [List.nil_append]
    rw [show ApiValue.mk 7 [] (l.map (·.name)) (l.map propV) = propsV l from rfl, add_eq v key _ h]; rfl
theorem members_loop (k2 : Int × (List UInt8) × (List (List UInt8)) × (List ApiValue) → Option ApiValue) : ∀ (suf : List ApiProperty) (ks : List (List UInt8)) (vs : List ApiValue), ks.length + suf.length ≤ 1000 → vs.length + suf.length ≤ 1000 →
    ref16_members_L1 N k2 suf 7 [] ks vs = k2 (7, [], ks ++ suf.map (·.name), vs ++ suf.map propV)
  | [], ks, vs, _, _ => by rw [ref16_members_L1]; simp
  | x :: suf, ks, vs, h1, h2 => by
    simp only [List.length_cons] at h1 h2
    have ih := members_loop k2 suf (ks ++ [x.name]) (vs ++ [propV x]) (by simp; omega) (by simp; omega)
    have hadd : ∀ y, ref16_with N (ApiValue.mk 7 [] ks vs) x.name y = some (addM (ApiValue.mk 7 [] ks vs) x.name y) := fun y => with_eq _ _ _ ⟨by simp; omega, by simp; omega⟩
    rw [ref16_members_L1, joinK_eq]
    simp only [ref16_Text, hadd, Option.bind_some, List.map_cons]
    simp only [List.append_assoc, List.singleton_append] at ih
    rw [← ih]
    by_cases hn : x.null = true
    · rw [if_pos hn]; simp [addM, propV, hn]
    · rw [if_neg hn]; simp [addM, propV, hn, strV]
theorem members_eq (v : ApiValue) (key : List UInt8) (l : List ApiProperty) (h : few v 100000) (hl : l.length ≤ 900) : ref16_members N v key l = some (propsM v key l) := by
  unfold ref16_members propsM
  by_cases he : l = []
  · subst he; simp
  · have : ¬ ((l.length : Int) == 0) = true := by
      have := List.length_pos_iff.2 he
      simp only [beq_iff_eq]; omega
    rw [if_neg this, if_neg he, joinK_eq, grdS (by omega), members_loop _ l [] [] (by simp; omega) (by simp; omega)]
    simp only [List.nil_append]
    rw [show ApiValue.mk 7 [] (l.map (·.name)) (l.map propV) = propsV l from rfl, with_eq v key _ h]; rfl

def linkV (l : ApiLink) : ApiValue :=
  propsM (propsM (textM (textM (textM (addM (ApiValue.mk 7 [] [] []) [114, 101, 108] (strV l.rel)) [116, 121, 112, 101] l.type_) [104, 114, 101, 102] l.href) [116, 101, 109, 112, 108, 97, 116, 101] l.template) [116, 105, 116, 108, 101, 115] l.titles) [112, 114, 111, 112, 101, 114, 116, 105, 101, 115] l.properties
theorem few_obj : few (ApiValue.mk 7 [] [] []) 0 := ⟨Nat.le_refl _, Nat.le_refl _⟩
theorem linkV_few (l : ApiLink) : few (linkV l) 6 := few_propsM (few_propsM (few_textM (few_textM (few_textM (few_addM few_obj)))))
def encJ (j : ApiJRD) : ApiValue :=
  listM (propsM (listM (textM (ApiValue.mk 7 [] [] []) [115, 117, 98, 106, 101, 99, 116] j.subject) [97, 108, 105, 97, 115, 101, 115] (j.aliases.map strV)) [112, 114, 111, 112, 101, 114, 116, 105, 101, 115] j.properties) [108, 105, 110, 107, 115] (j.links.map linkV)
theorem encJ_few (j : ApiJRD) : few (encJ j) 4 := few_listM (few_propsM (few_listM (few_textM few_obj)))


theorem enc_loop1 (k4 : List ApiValue → Option ApiValue) : ∀ (suf : List (List UInt8)) (acc : List ApiValue), acc.length + suf.length ≤ 1000 → jrd_Encode_L1 N k4 suf acc = k4 (acc ++ suf.map strV)
  | [], acc, _ => by rw [jrd_Encode_L1]; simp
  | x :: suf, acc, hb => by
    simp only [List.length_cons] at hb
    rw [jrd_Encode_L1, grdA (by omega) (by omega)]
    refine (enc_loop1 k4 suf _ (by simp; omega)).trans ?_
    simp [strV]
theorem enc_loop2 (k13 : List ApiValue → Option ApiValue) : ∀ (suf : List ApiLink) (acc : List ApiValue), acc.length + suf.length ≤ 1000 → (∀ l, l ∈ suf → l.titles.length ≤ 70 ∧ l.properties.length ≤ 70) → jrd_Encode_L2 N k13 suf acc = k13 (acc ++ suf.map linkV)
  | [], acc, _, _ => by rw [jrd_Encode_L2]; simp
  | x :: suf, acc, hb, ht => by
    have hx := ht x (by simp)
    simp only [List.length_cons] at hb
    have f1 := few_addM (key := [114, 101, 108]) (x := strV x.rel) few_obj
    have f2 := few_textM (key := [116, 121, 112, 101]) (s := x.type_) f1
    have f3 := few_textM (key := [104, 114, 101, 102]) (s := x.href) f2
    have f4 := few_textM (key := [116, 101, 109, 112, 108, 97, 116, 101]) (s := x.template) f3
    have f5 := few_propsM (key := [116, 105, 116, 108, 101, 115]) (l := x.titles) f4
    have ea : jrd_object_add N ⟨ApiValue.mk 7 [] [] []⟩ [114, 101, 108] (ApiValue.mk 5 x.rel [] []) = some ⟨addM (ApiValue.mk 7 [] [] []) [114, 101, 108] (strV x.rel)⟩ := add_eq _ _ _ (few_obj.mono (by omega))
    rw [jrd_Encode_L2, ea, Option.bind_some, otext_eq _ _ _ (f1.mono (by omega)), Option.bind_some, otext_eq _ _ _ (f2.mono (by omega)), Option.bind_some, otext_eq _ _ _ (f3.mono (by omega)), Option.bind_some,
      oprops_eq _ _ _ (f4.mono (by omega)) (by omega), Option.bind_some, oprops_eq _ _ _ (f5.mono (by omega)) (by omega), Option.bind_some, grdA (by omega) (by omega)]
    refine (enc_loop2 k13 suf _ (by simp; omega) (fun l hl => ht l (by simp [hl]))).trans ?_
    simp [linkV]
def smallJ (j : ApiJRD) : Prop := j.aliases.length ≤ 70 ∧ j.properties.length ≤ 70 ∧ j.links.length ≤ 70 ∧ ∀ l, l ∈ j.links → l.titles.length ≤ 70 ∧ l.properties.length ≤ 70
theorem encode_eq (j : ApiJRD) (h : smallJ j) : jrd_Encode N j = some (encJ j) := by
  obtain ⟨ha, hp, hl, ht⟩ := h
  unfold jrd_Encode
  have f1 := few_textM (key := [115, 117, 98, 106, 101, 99, 116]) (s := j.subject) few_obj
  have f2 := few_listM (key := [97, 108, 105, 97, 115, 101, 115]) (l := j.aliases.map strV) f1
  have f3 := few_propsM (key := [112, 114, 111, 112, 101, 114, 116, 105, 101, 115]) (l := j.properties) f2
  rw [otext_eq _ _ _ (few_obj.mono (by omega)), Option.bind_some, joinK_eq, grdS (by omega), enc_loop1 _ _ _ (by simp; omega), List.nil_append, olist_eq _ _ _ (f1.mono (by omega)), Option.bind_some, oprops_eq _ _ _ (f2.mono (by omega)) (by omega), Option.bind_some, joinK_eq, grdS (by omega), enc_loop2 _ _ _ (by simp; omega) ht, List.nil_append, olist_eq _ _ _ (f3.mono (by omega))]
  rfl
theorem array_loop (k2 : List ApiValue → Option ApiValue) : ∀ (suf : List (List UInt8)) (acc : List ApiValue), acc.length + suf.length ≤ 1000 → ref16_Array_L1 N k2 suf acc = k2 (acc ++ suf.map strV)
  | [], acc, _ => by rw [ref16_Array_L1]; simp
  | x :: suf, acc, hb => by
    simp only [List.length_cons] at hb
    rw [ref16_Array_L1, joinK_eq, ref16_Text, Option.bind_some, grdA (by omega) (by omega)]
    refine (array_loop k2 suf _ (by simp; omega)).trans ?_
    simp [strV]
theorem renc_loop (k13 : List ApiValue → Option ApiValue) : ∀ (suf : List ApiLink) (acc : List ApiValue), acc.length + suf.length ≤ 1000 → (∀ l, l ∈ suf → l.titles.length ≤ 70 ∧ l.properties.length ≤ 70) → ref16_Encode_L1 N k13 suf acc = k13 (acc ++ suf.map linkV)
  | [], acc, _, _ => by rw [ref16_Encode_L1]; simp
  | x :: suf, acc, hb, ht => by
    have hx := ht x (by simp)
    simp only [List.length_cons] at hb
    have f1 := few_addM (key := [114, 101, 108]) (x := strV x.rel) few_obj
    have f2 := few_textM (key := [116, 121, 112, 101]) (s := x.type_) f1
    have f3 := few_textM (key := [104, 114, 101, 102]) (s := x.href) f2
    have f4 := few_textM (key := [116, 101, 109, 112, 108, 97, 116, 101]) (s := x.template) f3
    have f5 := few_propsM (key := [116, 105, 116, 108, 101, 115]) (l := x.titles) f4
    have ea : ref16_with N (ApiValue.mk 7 [] [] []) [114, 101, 108] (ApiValue.mk 5 x.rel [] []) = some (addM (ApiValue.mk 7 [] [] []) [114, 101, 108] (strV x.rel)) := with_eq _ _ _ (few_obj.mono (by omega))
    rw [ref16_Encode_L1, ref16_Text, Option.bind_some, ea, Option.bind_some, rsome_eq _ _ _ (f1.mono (by omega)), Option.bind_some, rsome_eq _ _ _ (f2.mono (by omega)), Option.bind_some, rsome_eq _ _ _ (f3.mono (by omega)), Option.bind_some,
      members_eq _ _ _ (f4.mono (by omega)) (by omega), Option.bind_some, members_eq _ _ _ (f5.mono (by omega)) (by omega), Option.bind_some, grdA (by omega) (by omega)]
    refine (renc_loop k13 suf _ (by simp; omega) (fun l hl => ht l (by simp [hl]))).trans ?_
    simp [linkV]
theorem rencode_eq (j : ApiJRD) (h : smallJ j) : ref16_Encode N j = some (encJ j) := by
  obtain ⟨ha, hp, hl, ht⟩ := h
  unfold ref16_Encode encJ
  have f1 := few_textM (key := [115, 117, 98, 106, 101, 99, 116]) (s := j.subject) few_obj
  have f2 := few_listM (key := [97, 108, 105, 97, 115, 101, 115]) (l := j.aliases.map strV) f1
  rw [rsome_eq _ _ _ (few_obj.mono (by omega)), Option.bind_some, joinK_eq]
  -- behind the aliases
  have rest : ∀ v, few v 2 → (Option.bind (ref16_members N v [112, 114, 111, 112, 101, 114, 116, 105, 101, 115] j.properties) fun y11 =>
      if ((j.links.length : Int) == 0) = true then some (y11)
      else joinK (fun j13 : (List ApiValue) => Option.bind (ref16_with N y11 ([108, 105, 110, 107, 115] : List UInt8) (ApiValue.mk 6 [] [] j13)) fun y32 => some (y32)) fun k14 => grd (fitsS (j.links.length)) (ref16_Encode_L1 N k14 j.links [])) =
      some (listM (propsM v [112, 114, 111, 112, 101, 114, 116, 105, 101, 115] j.properties) [108, 105, 110, 107, 115] (j.links.map linkV)) := by
    intro v hv
    have hv2 := few_propsM (key := [112, 114, 111, 112, 101, 114, 116, 105, 101, 115]) (l := j.properties) hv
    rw [members_eq _ _ _ (hv.mono (by omega)) (by omega), Option.bind_some]
    by_cases he : j.links = []
    · rw [he]; simp [listM]
    · have hne : ¬ ((j.links.length : Int) == 0) = true := by
        have := List.length_pos_iff.2 he
        simp only [beq_iff_eq]; omega
      rw [if_neg hne, joinK_eq, grdS (by omega), renc_loop _ _ _ (by simp; omega) ht, List.nil_append, with_eq _ _ _ (hv2.mono (by omega)), listM, if_neg (by simpa using he)]
      rfl
  by_cases he : j.aliases = []
  · have hd : ¬ decide ((j.aliases.length : Int) > 0) = true := by rw [he]; simp
    rw [if_neg hd]
    refine (rest _ (f1.mono (by omega))).trans ?_
    rw [he]; simp [listM]
  · have hd : decide ((j.aliases.length : Int) > 0) = true := by
      have := List.length_pos_iff.2 he
      simp only [decide_eq_true_eq]; omega
    rw [if_pos hd, ref16_Array, joinK_eq, grdS (by omega), array_loop _ _ _ (by simp; omega), List.nil_append, Option.bind_some, with_eq _ _ _ (f1.mono (by omega)), Option.bind_some]
    have hx : listM (textM (ApiValue.mk 7 [] [] []) [115, 117, 98, 106, 101, 99, 116] j.subject) [97, 108, 105, 97, 115, 101, 115] (j.aliases.map strV) = addM (textM (ApiValue.mk 7 [] [] []) [115, 117, 98, 106, 101, 99, 116] j.subject) [97, 108, 105, 97, 115, 101, 115] (ApiValue.mk 6 [] [] (j.aliases.map strV)) := by
      rw [listM, if_neg (by simpa using he)]
    rw [hx]
    exact rest _ (by rw [← hx]; exact f2)
end
end Go.VM
