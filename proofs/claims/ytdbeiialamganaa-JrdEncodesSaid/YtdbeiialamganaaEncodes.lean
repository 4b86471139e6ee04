/- What the functions of resource descriptors compute: finding, encoding. -/
import Derived.Test.YtdbeiialamganaaDefs
import Derived.Test.YtdbeiialamganaaPlain
import Derived.KernelRfl
set_option linter.unusedVariables false
set_option linter.unusedSimpArgs false
namespace Go.VM

theorem sane16 : law16_sane 1000 = some true := by kernel_rfl

theorem find_loop (j : ApiJRD) (rel : List UInt8) (k7 : List ApiLink → Option (List ApiLink)) : ∀ (suf pre acc : List ApiLink) (k : Nat), j.links = pre ++ suf → suf.length < k → pre.length + suf.length ≤ 70 → acc.length ≤ pre.length →
    (∀ l, l ∈ suf → l.titles.length ≤ 70 ∧ l.properties.length ≤ 70) → jrd_Find_L1 1000 j rel k7 k acc (pre.length : Int) = k7 (acc ++ suf.filter fun l => l.rel == rel)
  | [], pre, acc, k + 1, hl, _, _, _, _ => by
    rw [jrd_Find_L1, hl, lt_end]; simp
  | x :: suf, pre, acc, k + 1, hl, hk, hb, ha, ht => by
    have hx := ht x (by simp)
    simp only [List.length_cons] at hk hb
    rw [jrd_Find_L1, hl, lt_mid, if_pos rfl, joinK_eq, idx_mid, Option.bind_some, step_mid pre x (by omega)]
    have ih := fun acc' (h : acc'.length ≤ pre.length + 1) => find_loop j rel k7 suf (pre ++ [x]) acc' k (by rw [hl]; simp) (by omega) (by simp; omega) (by simpa using h) (fun l hl => ht l (by simp [hl]))
    by_cases hr : (x.rel == rel) = true
    · rw [if_pos hr, grd_true (fits_small (by simp; omega) (by omega)), grd_true (fits_small (by simp; omega) (by omega)), grd_true (fits_small (by omega) (by omega))]
      refine (ih (acc ++ [x]) (by simp; omega)).trans ?_
      simp [List.filter_cons, hr]
    · rw [if_neg hr]
      refine (ih acc (by omega)).trans ?_
      simp [List.filter_cons, hr]
theorem find_loop' (j : ApiJRD) (rel : List UInt8) (k7 : List ApiLink → Option (List ApiLink)) : ∀ (suf pre acc : List ApiLink) (k : Nat), j.links = pre ++ suf → suf.length < k → pre.length + suf.length ≤ 70 → acc.length ≤ pre.length →
    ref16_Find_L1 1000 j rel k7 k acc (pre.length : Int) = k7 (acc ++ suf.filter fun l => l.rel == rel)
  | [], pre, acc, k + 1, hl, _, _, _ => by
    rw [ref16_Find_L1, hl, lt_end]; simp
  | x :: suf, pre, acc, k + 1, hl, hk, hb, ha => by
    simp only [List.length_cons] at hk hb
    rw [ref16_Find_L1, hl, lt_mid, if_pos rfl, joinK_eq, idx_mid, Option.bind_some, step_mid pre x (by omega)]
    have ih := fun acc' (h : acc'.length ≤ pre.length + 1) => find_loop' j rel k7 suf (pre ++ [x]) acc' k (by rw [hl]; simp) (by omega) (by simp; omega) (by simpa using h)
    by_cases hr : (x.rel == rel) = true
    · rw [if_pos hr, grd_true (fits_small (by omega) (by omega))]
      refine (ih (acc ++ [x]) (by simp; omega)).trans ?_
      simp [List.filter_cons, hr]
    · rw [if_neg hr]
      refine (ih acc (by omega)).trans ?_
      simp [List.filter_cons, hr]
def findS (j : ApiJRD) (rel : List UInt8) : List ApiLink := j.links.filter fun l => l.rel == rel
theorem find_eq (j : ApiJRD) (rel : List UInt8) (h : j.links.length ≤ 70) (ht : ∀ l, l ∈ j.links → l.titles.length ≤ 70 ∧ l.properties.length ≤ 70) : jrd_Find 1000 j rel = some (findS j rel) := by
  unfold jrd_Find
  rw [joinK_eq]
  have := find_loop j rel (fun j6 => some j6) j.links [] [] 1000 (by simp) (by omega) (by simpa using h) (by simp) ht
  simpa [findS] using this
theorem find_eq' (j : ApiJRD) (rel : List UInt8) (h : j.links.length ≤ 70) : ref16_Find 1000 j rel = some (findS j rel) := by
  unfold ref16_Find
  rw [joinK_eq]
  have := find_loop' j rel (fun j6 => some j6) j.links [] [] 1000 (by simp) (by omega) (by simpa using h) (by simp)
  simpa [findS] using this

/-- what they encode -/
def addM (v : ApiValue) (key : List UInt8) (x : ApiValue) : ApiValue := ApiValue.mk v.kind v.text (v.keys ++ [key]) (v.items ++ [x])
def strV (s : List UInt8) : ApiValue := ApiValue.mk 5 s [] []
def textM (v : ApiValue) (key s : List UInt8) : ApiValue := if (s == []) = true then v else addM v key (strV s)
def propV (p : ApiProperty) : ApiValue := if p.null = true then ApiValue.mk 1 [] [] [] else strV p.value
def propsV (l : List ApiProperty) : ApiValue := ApiValue.mk 7 [] (l.map (·.name)) (l.map propV)
def propsM (v : ApiValue) (key : List UInt8) (l : List ApiProperty) : ApiValue := if l = [] then v else addM v key (propsV l)
def listM (v : ApiValue) (key : List UInt8) (l : List ApiValue) : ApiValue := if l = [] then v else addM v key (ApiValue.mk 6 [] [] l)
def few (v : ApiValue) (n : Nat) : Prop := v.keys.length ≤ n ∧ v.items.length ≤ n
theorem few_addM {v : ApiValue} {n : Nat} {key : List UInt8} {x : ApiValue} (h : few v n) : few (addM v key x) (n + 1) := by
  simp only [few, addM, List.length_append, List.length_cons, List.length_nil] at *; omega
theorem few.mono {v : ApiValue} {n k : Nat} (h : few v n) (hk : n ≤ k) : few v k := ⟨Nat.le_trans h.1 hk, Nat.le_trans h.2 hk⟩
theorem few_textM {v : ApiValue} {n : Nat} {key s : List UInt8} (h : few v n) : few (textM v key s) (n + 1) := by
  unfold textM; split
  · exact h.mono (by omega)
  · exact few_addM h
theorem few_listM {v : ApiValue} {n : Nat} {key : List UInt8} {l : List ApiValue} (h : few v n) : few (listM v key l) (n + 1) := by
  unfold listM; split
  · exact h.mono (by omega)
  · exact few_addM h
theorem few_propsM {v : ApiValue} {n : Nat} {key : List UInt8} {l : List ApiProperty} (h : few v n) : few (propsM v key l) (n + 1) := by
  unfold propsM; split
  · exact h.mono (by omega)
  · exact few_addM h

section
variable {N : Nat}
theorem add_eq (v : ApiValue) (key : List UInt8) (x : ApiValue) (h : few v 100000) : jrd_object_add N ⟨v⟩ key x = some ⟨addM v key x⟩ := by
  unfold jrd_object_add
  have h1 := h.1; have h2 := h.2
  rw [grd_true (fits_small (by simp only; omega) (by omega)), grd_true (fits_small (by simp only; omega) (by omega))]
  rfl
theorem with_eq (v : ApiValue) (key : List UInt8) (x : ApiValue) (h : few v 100000) : ref16_with N v key x = some (addM v key x) := by
  unfold ref16_with
  have h1 := h.1; have h2 := h.2
  rw [sub_all, Option.bind_some, grd_true (fits_small (by omega) (by omega)), sub_all, Option.bind_some, grd_true (fits_small (by omega) (by omega))]
  rfl
theorem text_eq (v : ApiValue) (key s : List UInt8) (h : few v 100000) : jrd_object_text N ⟨v⟩ key s = some ⟨textM v key s⟩ := by
  unfold jrd_object_text textM
  split
  · rfl
  · have := add_eq (N := N) v key (strV s) h
    simp only [strV] at this
    rw [this]; rfl
theorem some_eq (v : ApiValue) (key s : List UInt8) (h : few v 100000) : ref16_some N v key s = some (textM v key s) := by
  unfold ref16_some textM
  split
  · rfl
  · simp only [ref16_Text, Option.bind_some]
    rw [with_eq v key _ h]; rfl
theorem list_eq (v : ApiValue) (key : List UInt8) (l : List ApiValue) (h : few v 100000) : jrd_object_list N ⟨v⟩ key l = some ⟨listM v key l⟩ := by
  unfold jrd_object_list listM
  by_cases hl : l = []
  · subst hl; simp
  · have : decide ((l.length : Int) > 0) = true := by
      have := List.length_pos_iff.2 hl
      simp only [decide_eq_true_eq]; omega
    rw [if_pos this, if_neg hl, add_eq v key _ h]; rfl

theorem oprops_loop (l : List ApiProperty) (k9 : Int × (List UInt8) × (List (List UInt8)) × (List ApiValue) → Option JrdObject) : ∀ (suf pre : List ApiProperty) (k : Nat), l = pre ++ suf → suf.length < k → pre.length + suf.length ≤ 1000 →
    jrd_object_properties_L1 N l k9 k (pre.length : Int) 7 [] (pre.map (·.name)) (pre.map propV) = k9 (7, [], l.map (·.name), l.map propV)
  | [], pre, k + 1, hl, _, _ => by
    rw [jrd_object_properties_L1, hl, lt_end]; simp
  | x :: suf, pre, k + 1, hl, hk, hb => by
    simp only [List.length_cons] at hk hb
    rw [jrd_object_properties_L1]
    have h1 : decide ((pre.length : Int) < (l.length : Int)) = true := by rw [hl]; exact lt_mid ..
    have h2 : idx l (pre.length : Int) = some x := by rw [hl]; exact idx_mid ..
    rw [h1, if_pos rfl, h2, Option.bind_some, joinK_eq, step_mid pre x (by omega)]
    have ih := oprops_loop l k9 suf (pre ++ [x]) k (by rw [hl]; simp) (by omega) (by simp; omega)
    simp only [List.map_append, List.map_cons, List.map_nil] at ih
    have hadd : ∀ y, jrd_object_add N ⟨ApiValue.mk 7 [] (pre.map (·.name)) (pre.map propV)⟩ x.name y = some ⟨addM (ApiValue.mk 7 [] (pre.map (·.name)) (pre.map propV)) x.name y⟩ := fun y => add_eq _ _ _ ⟨by simp; omega, by simp; omega⟩
    by_cases hn : x.null = true
    · rw [if_pos hn]
      simp only []
      rw [hadd, Option.bind_some]
      have hp : propV x = ApiValue.mk 1 [] [] [] := by simp [propV, hn]
      rw [hp] at ih
      exact ih
    · rw [if_neg hn]
      simp only []
      rw [hadd, Option.bind_some]
      have hp : propV x = ApiValue.mk 5 x.value [] [] := by simp [propV, hn, strV]
      rw [hp] at ih
      exact ih
theorem oprops_eq (hN : 1000 ≤ N) (v : ApiValue) (key : List UInt8) (l : List ApiProperty) (h : few v 100000) (hl : l.length ≤ 900) : jrd_object_properties N ⟨v⟩ key l = some ⟨propsM v key l⟩ := by
  unfold jrd_object_properties propsM
  by_cases he : l = []
  · subst he; simp
  · have : ¬ ((l.length : Int) == 0) = true := by
      have := List.length_pos_iff.2 he
      simp only [beq_iff_eq]; omega
    rw [if_neg this, if_neg he, joinK_eq]
    have := oprops_loop (N := N) l (fun j8 => Option.bind (jrd_object_add N ⟨v⟩ key (ApiValue.mk j8.1 j8.2.1 j8.2.2.1 j8.2.2.2)) fun y47 => some (y47)) l [] N (by simp) (by omega) (by simp; omega)
    simp only [List.length_nil, List.map_nil] at this
    rw [show ((0 : Nat) : Int) = 0 from rfl] at this
    rw [this, add_eq v key _ h]; rfl
theorem members_loop (l : List ApiProperty) (k9 : Int × (List UInt8) × (List (List UInt8)) × (List ApiValue) → Option ApiValue) : ∀ (suf pre : List ApiProperty) (k : Nat), l = pre ++ suf → suf.length < k → pre.length + suf.length ≤ 1000 →
    ref16_members_L1 N l k9 k (pre.length : Int) 7 [] (pre.map (·.name)) (pre.map propV) = k9 (7, [], l.map (·.name), l.map propV)
  | [], pre, k + 1, hl, _, _ => by
    rw [ref16_members_L1, hl, lt_end]; simp
  | x :: suf, pre, k + 1, hl, hk, hb => by
    simp only [List.length_cons] at hk hb
    rw [ref16_members_L1]
    have h1 : decide ((pre.length : Int) < (l.length : Int)) = true := by rw [hl]; exact lt_mid ..
    have h2 : idx l (pre.length : Int) = some x := by rw [hl]; exact idx_mid ..
    rw [h1, if_pos rfl, joinK_eq, h2, Option.bind_some, step_mid pre x (by omega)]
    have ih := members_loop l k9 suf (pre ++ [x]) k (by rw [hl]; simp) (by omega) (by simp; omega)
    simp only [List.map_append, List.map_cons, List.map_nil] at ih
    have hadd : ∀ y, ref16_with N (ApiValue.mk 7 [] (pre.map (·.name)) (pre.map propV)) x.name y = some (addM (ApiValue.mk 7 [] (pre.map (·.name)) (pre.map propV)) x.name y) := fun y => with_eq _ _ _ ⟨by simp; omega, by simp; omega⟩
    by_cases hn : x.null = true
    · rw [if_pos hn, hadd, Option.bind_some]
      have hp : propV x = ApiValue.mk 1 [] [] [] := by simp [propV, hn]
      rw [hp] at ih
      exact ih
    · rw [if_neg hn, ref16_Text, Option.bind_some, hadd, Option.bind_some]
      have hp : propV x = ApiValue.mk 5 x.value [] [] := by simp [propV, hn, strV]
      rw [hp] at ih
      exact ih
theorem members_eq (hN : 1000 ≤ N) (v : ApiValue) (key : List UInt8) (l : List ApiProperty) (h : few v 100000) (hl : l.length ≤ 900) : ref16_members N v key l = some (propsM v key l) := by
  unfold ref16_members propsM
  by_cases he : l = []
  · subst he; simp
  · have : ¬ ((l.length : Int) == 0) = true := by
      have := List.length_pos_iff.2 he
      simp only [beq_iff_eq]; omega
    rw [if_neg this, if_neg he, joinK_eq]
    have := members_loop (N := N) l (fun j8 => Option.bind (ref16_with N v key (ApiValue.mk j8.1 j8.2.1 j8.2.2.1 j8.2.2.2)) fun y47 => some (y47)) l [] N (by simp) (by omega) (by simp; omega)
    simp only [List.length_nil, List.map_nil] at this
    rw [show ((0 : Nat) : Int) = 0 from rfl] at this
    rw [this, with_eq v key _ h]; rfl

def linkV (l : ApiLink) : ApiValue :=
  propsM (propsM (textM (textM (textM (addM (ApiValue.mk 7 [] [] []) [114, 101, 108] (strV l.rel)) [116, 121, 112, 101] l.type_) [104, 114, 101, 102] l.href) [116, 101, 109, 112, 108, 97, 116, 101] l.template) [116, 105, 116, 108, 101, 115] l.titles) [112, 114, 111, 112, 101, 114, 116, 105, 101, 115] l.properties
theorem few_obj : few (ApiValue.mk 7 [] [] []) 0 := ⟨Nat.le_refl _, Nat.le_refl _⟩
theorem linkV_few (l : ApiLink) : few (linkV l) 6 := few_propsM (few_propsM (few_textM (few_textM (few_textM (few_addM few_obj)))))
def encJ (j : ApiJRD) : ApiValue :=
  listM (propsM (listM (textM (ApiValue.mk 7 [] [] []) [115, 117, 98, 106, 101, 99, 116] j.subject) [97, 108, 105, 97, 115, 101, 115] (j.aliases.map strV)) [112, 114, 111, 112, 101, 114, 116, 105, 101, 115] j.properties) [108, 105, 110, 107, 115] (j.links.map linkV)
theorem encJ_few (j : ApiJRD) : few (encJ j) 4 := few_listM (few_propsM (few_listM (few_textM few_obj)))

theorem enc_loop1 (j : ApiJRD) (k15 : List ApiValue → Option ApiValue) : ∀ (suf pre : List (List UInt8)) (k : Nat), j.aliases = pre ++ suf → suf.length < k → pre.length + suf.length ≤ 900 →
    jrd_Encode_L1 N j k15 k (pre.map strV) (pre.length : Int) = k15 (j.aliases.map strV)
  | [], pre, k + 1, hl, _, _ => by
    rw [jrd_Encode_L1, hl, lt_end]; simp
  | x :: suf, pre, k + 1, hl, hk, hb => by
    simp only [List.length_cons] at hk hb
    rw [jrd_Encode_L1]
    have h1 : decide ((pre.length : Int) < (j.aliases.length : Int)) = true := by rw [hl]; exact lt_mid ..
    have h2 : idx j.aliases (pre.length : Int) = some x := by rw [hl]; exact idx_mid ..
    rw [h1, if_pos rfl, h2, Option.bind_some, grd_true (fits_small (by simp; omega) (by omega)), step_mid pre x (by omega)]
    have ih := enc_loop1 j k15 suf (pre ++ [x]) k (by rw [hl]; simp) (by omega) (by simp; omega)
    simp only [List.map_append, List.map_cons, List.map_nil] at ih
    exact ih
theorem enc_loop2 (hN : 1000 ≤ N) (j : ApiJRD) (k51 : List ApiValue → Option ApiValue) : ∀ (suf pre : List ApiLink) (k : Nat), j.links = pre ++ suf → suf.length < k → pre.length + suf.length ≤ 900 → (∀ l, l ∈ suf → l.titles.length ≤ 70 ∧ l.properties.length ≤ 70) →
    jrd_Encode_L2 N j k51 k (pre.map linkV) (pre.length : Int) = k51 (j.links.map linkV)
  | [], pre, k + 1, hl, _, _, _ => by
    rw [jrd_Encode_L2, hl, lt_end]; simp
  | x :: suf, pre, k + 1, hl, hk, hb, ht => by
    have hx := ht x (by simp)
    simp only [List.length_cons] at hk hb
    rw [jrd_Encode_L2]
    have h1 : decide ((pre.length : Int) < (j.links.length : Int)) = true := by rw [hl]; exact lt_mid ..
    have h2 : idx j.links (pre.length : Int) = some x := by rw [hl]; exact idx_mid ..
    have f1 := few_addM (key := [114, 101, 108]) (x := strV x.rel) few_obj
    have f2 := few_textM (key := [116, 121, 112, 101]) (s := x.type_) f1
    have f3 := few_textM (key := [104, 114, 101, 102]) (s := x.href) f2
    have f4 := few_textM (key := [116, 101, 109, 112, 108, 97, 116, 101]) (s := x.template) f3
    have f5 := few_propsM (key := [116, 105, 116, 108, 101, 115]) (l := x.titles) f4
    have ea : jrd_object_add N ⟨ApiValue.mk 7 [] [] []⟩ [114, 101, 108] (ApiValue.mk 5 x.rel [] []) = some ⟨addM (ApiValue.mk 7 [] [] []) [114, 101, 108] (strV x.rel)⟩ := add_eq _ _ _ (few_obj.mono (by omega))
    rw [h1, if_pos rfl, h2, Option.bind_some, ea, Option.bind_some, text_eq _ _ _ (f1.mono (by omega)), Option.bind_some, text_eq _ _ _ (f2.mono (by omega)), Option.bind_some, text_eq _ _ _ (f3.mono (by omega)), Option.bind_some,
      oprops_eq hN _ _ _ (f4.mono (by omega)) (by omega), Option.bind_some, oprops_eq hN _ _ _ (f5.mono (by omega)) (by omega), Option.bind_some, grd_true (fits_small (by simp; omega) (by omega)), step_mid pre x (by omega)]
    have ih := enc_loop2 hN j k51 suf (pre ++ [x]) k (by rw [hl]; simp) (by omega) (by simp; omega) (fun l hl => ht l (by simp [hl]))
    simp only [List.map_append, List.map_cons, List.map_nil] at ih
    exact ih
def smallJ (j : ApiJRD) : Prop := j.aliases.length ≤ 70 ∧ j.properties.length ≤ 70 ∧ j.links.length ≤ 70 ∧ ∀ l, l ∈ j.links → l.titles.length ≤ 70 ∧ l.properties.length ≤ 70
theorem encode_eq (hN : 1000 ≤ N) (j : ApiJRD) (h : smallJ j) : jrd_Encode N j = some (encJ j) := by
  obtain ⟨ha, hp, hl, ht⟩ := h
  unfold jrd_Encode
  have f1 := few_textM (key := [115, 117, 98, 106, 101, 99, 116]) (s := j.subject) few_obj
  have f2 := few_listM (key := [97, 108, 105, 97, 115, 101, 115]) (l := j.aliases.map strV) f1
  have f3 := few_propsM (key := [112, 114, 111, 112, 101, 114, 116, 105, 101, 115]) (l := j.properties) f2
  rw [text_eq _ _ _ (few_obj.mono (by omega)), Option.bind_some, joinK_eq]
  have e1 := fun k => enc_loop1 (N := N) j k j.aliases [] N (by simp) (by omega) (by simp; omega)
  have e2 := fun k => enc_loop2 hN j k j.links [] N (by simp) (by omega) (by simp; omega) ht
  simp only [List.length_nil, List.map_nil] at e1 e2
  rw [show ((0 : Nat) : Int) = 0 from rfl] at e1 e2
  rw [e1, list_eq _ _ _ (f1.mono (by omega)), Option.bind_some, oprops_eq hN _ _ _ (f2.mono (by omega)) (by omega), Option.bind_some, joinK_eq, e2, list_eq _ _ _ (f3.mono (by omega))]
  rfl

theorem array_loop (l : List (List UInt8)) (k7 : List ApiValue → Option ApiValue) : ∀ (suf pre : List (List UInt8)) (k : Nat), l = pre ++ suf → suf.length < k → pre.length + suf.length ≤ 900 →
    ref16_Array_L1 N l k7 k (pre.length : Int) (pre.map strV) = k7 (l.map strV)
  | [], pre, k + 1, hl, _, _ => by
    rw [ref16_Array_L1, hl, lt_end]; simp
  | x :: suf, pre, k + 1, hl, hk, hb => by
    simp only [List.length_cons] at hk hb
    rw [ref16_Array_L1]
    have h1 : decide ((pre.length : Int) < (l.length : Int)) = true := by rw [hl]; exact lt_mid ..
    have h2 : idx l (pre.length : Int) = some x := by rw [hl]; exact idx_mid ..
    rw [h1, if_pos rfl, joinK_eq, h2, Option.bind_some, ref16_Text, Option.bind_some, grd_true (fits_small (by simp; omega) (by omega)), step_mid pre x (by omega)]
    have ih := array_loop l k7 suf (pre ++ [x]) k (by rw [hl]; simp) (by omega) (by simp; omega)
    simp only [List.map_append, List.map_cons, List.map_nil] at ih
    exact ih
theorem renc_loop (hN : 1000 ≤ N) (j : ApiJRD) (k42 : List ApiValue → Option ApiValue) : ∀ (suf pre : List ApiLink) (k : Nat), j.links = pre ++ suf → suf.length < k → pre.length + suf.length ≤ 900 → (∀ l, l ∈ suf → l.titles.length ≤ 70 ∧ l.properties.length ≤ 70) →
    ref16_Encode_L1 N j k42 k (pre.length : Int) (pre.map linkV) = k42 (j.links.map linkV)
  | [], pre, k + 1, hl, _, _, _ => by
    rw [ref16_Encode_L1, hl, lt_end]; simp
  | x :: suf, pre, k + 1, hl, hk, hb, ht => by
    have hx := ht x (by simp)
    simp only [List.length_cons] at hk hb
    rw [ref16_Encode_L1]
    have h1 : decide ((pre.length : Int) < (j.links.length : Int)) = true := by rw [hl]; exact lt_mid ..
    have h2 : idx j.links (pre.length : Int) = some x := by rw [hl]; exact idx_mid ..
    have f1 := few_addM (key := [114, 101, 108]) (x := strV x.rel) few_obj
    have f2 := few_textM (key := [116, 121, 112, 101]) (s := x.type_) f1
    have f3 := few_textM (key := [104, 114, 101, 102]) (s := x.href) f2
    have f4 := few_textM (key := [116, 101, 109, 112, 108, 97, 116, 101]) (s := x.template) f3
    have f5 := few_propsM (key := [116, 105, 116, 108, 101, 115]) (l := x.titles) f4
    have ea : ref16_with N (ApiValue.mk 7 [] [] []) [114, 101, 108] (ApiValue.mk 5 x.rel [] []) = some (addM (ApiValue.mk 7 [] [] []) [114, 101, 108] (strV x.rel)) := with_eq _ _ _ (few_obj.mono (by omega))
    rw [h1, if_pos rfl, h2, Option.bind_some, ref16_Text, Option.bind_some, ea, Option.bind_some, some_eq _ _ _ (f1.mono (by omega)), Option.bind_some, some_eq _ _ _ (f2.mono (by omega)), Option.bind_some, some_eq _ _ _ (f3.mono (by omega)), Option.bind_some,
      members_eq hN _ _ _ (f4.mono (by omega)) (by omega), Option.bind_some, members_eq hN _ _ _ (f5.mono (by omega)) (by omega), Option.bind_some, grd_true (fits_small (by simp; omega) (by omega)), step_mid pre x (by omega)]
    have ih := renc_loop hN j k42 suf (pre ++ [x]) k (by rw [hl]; simp) (by omega) (by simp; omega) (fun l hl => ht l (by simp [hl]))
    simp only [List.map_append, List.map_cons, List.map_nil] at ih
    exact ih
theorem rencode_eq (hN : 1000 ≤ N) (j : ApiJRD) (h : smallJ j) : ref16_Encode N j = some (encJ j) := by
  obtain ⟨ha, hp, hl, ht⟩ := h
  unfold ref16_Encode encJ
  have f1 := few_textM (key := [115, 117, 98, 106, 101, 99, 116]) (s := j.subject) few_obj
  have f2 := few_listM (key := [97, 108, 105, 97, 115, 101, 115]) (l := j.aliases.map strV) f1
  have f3 := few_propsM (key := [112, 114, 111, 112, 101, 114, 116, 105, 101, 115]) (l := j.properties) f2
  have e1 := fun k => array_loop (N := N) j.aliases k j.aliases [] N (by simp) (by omega) (by simp; omega)
  have e2 := fun k => renc_loop hN j k j.links [] N (by simp) (by omega) (by simp; omega) ht
  simp only [List.length_nil, List.map_nil] at e1 e2
  rw [show ((0 : Nat) : Int) = 0 from rfl] at e1 e2
  rw [some_eq _ _ _ (few_obj.mono (by omega)), Option.bind_some, joinK_eq]
  -- behind the aliases
  have rest : ∀ v, few v 2 → (Option.bind (ref16_members N v [112, 114, 111, 112, 101, 114, 116, 105, 101, 115] j.properties) fun y28 =>
      if ((j.links.length : Int) == 0) = true then some (y28)
      else joinK (fun j41 : (List ApiValue) => Option.bind (ref16_with N y28 ([108, 105, 110, 107, 115] : List UInt8) (ApiValue.mk 6 [] [] j41)) fun y100 => some (y100)) fun k42 => ref16_Encode_L1 N j k42 N 0 []) =
      some (listM (propsM v [112, 114, 111, 112, 101, 114, 116, 105, 101, 115] j.properties) [108, 105, 110, 107, 115] (j.links.map linkV)) := by
    intro v hv
    have hv2 := few_propsM (key := [112, 114, 111, 112, 101, 114, 116, 105, 101, 115]) (l := j.properties) hv
    rw [members_eq hN _ _ _ (hv.mono (by omega)) (by omega), Option.bind_some]
    by_cases he : j.links = []
    · rw [he]; simp [listM]
    · have hne : ¬ ((j.links.length : Int) == 0) = true := by
        have := List.length_pos_iff.2 he
        simp only [beq_iff_eq]; omega
      rw [if_neg hne, joinK_eq, e2, with_eq _ _ _ (hv2.mono (by omega)), listM, if_neg (by simpa using he)]
      rfl
  by_cases he : j.aliases = []
  · have hd : ¬ decide ((j.aliases.length : Int) > 0) = true := by rw [he]; simp
    rw [if_neg hd]
    refine (rest _ (f1.mono (by omega))).trans ?_
    rw [he]; simp [listM]
  · have hd : decide ((j.aliases.length : Int) > 0) = true := by
      have := List.length_pos_iff.2 he
      simp only [decide_eq_true_eq]; omega
    rw [if_pos hd, ref16_Array, joinK_eq, e1, Option.bind_some, with_eq _ _ _ (f1.mono (by omega)), Option.bind_some]
    have hx : listM (textM (ApiValue.mk 7 [] [] []) [115, 117, 98, 106, 101, 99, 116] j.subject) [97, 108, 105, 97, 115, 101, 115] (j.aliases.map strV) = addM (textM (ApiValue.mk 7 [] [] []) [115, 117, 98, 106, 101, 99, 116] j.subject) [97, 108, 105, 97, 115, 101, 115] (ApiValue.mk 6 [] [] (j.aliases.map strV)) := by
      rw [listM, if_neg (by simpa using he)]
    rw [hx]
    exact rest _ (by rw [← hx]; exact f2)
end
end Go.VM
