/- The plain law of JrdIgnores: members that are not known, and the order of members, change nothing. -/
import Derived.Test.YtdbeiialamganaaJkeep
import Derived.Test.YtdbeiialamganaaRd
import Derived.KernelRfl
set_option linter.unusedVariables false
set_option linter.unusedSimpArgs false
namespace Go.VM
theorem sane16 : law16_sane 1000 = some true := by kernel_rfl

theorem getL_not : ∀ (ks : List (List UInt8)) (xs : List ApiValue) (key : List UInt8), key ∉ ks → getL ks xs key = (zeroV, false)
  | [], xs, key, _ => by cases xs <;> rfl
  | k :: ks, [], key, _ => by simp [getL]
  | k :: ks, x :: xs, key, h => by
    simp only [List.mem_cons, not_or] at h
    have e : (k == key) = false := by simpa using fun e => h.1 e.symm
    rw [getL, e, getL_not ks xs key h.2]; simp
theorem getL_app : ∀ (ks : List (List UInt8)) (xs : List ApiValue) (ks' : List (List UInt8)) (xs' : List ApiValue) (key : List UInt8), ks.length = xs.length → getL (ks ++ ks') (xs ++ xs') key = if key ∈ ks then getL ks xs key else getL ks' xs' key
  | [], [], ks', xs', key, _ => by simp
  | [], _ :: _, _, _, _, h => by simp at h
  | _ :: _, [], _, _, _, h => by simp at h
  | k :: ks, x :: xs, ks', xs', key, h => by
    rw [List.cons_append, List.cons_append, getL, getL, getL_app ks xs ks' xs' key (by simpa using h)]
    by_cases e : k = key
    · subst e; simp
    · have e1 : (k == key) = false := by simpa using e
      have e2 : key ≠ k := fun h => e h.symm
      simp [e1, e2]
theorem getL_rot (ka kb : List (List UInt8)) (xa xb : List ApiValue) (e : List UInt8) (x : ApiValue) (key : List UInt8) (ha : ka.length = xa.length) (hb : kb.length = xb.length) (hn : (ka ++ kb).Nodup) (he : key ≠ e) :
    getL ((kb ++ [e]) ++ ka) ((xb ++ [x]) ++ xa) key = getL (ka ++ kb) (xa ++ xb) key := by
  rw [List.append_assoc, List.append_assoc, getL_app _ _ _ _ _ hb, getL_app [e] [x] _ _ _ rfl, getL_app _ _ _ _ _ ha]
  have hne : key ∉ [e] := by simpa using he
  rw [if_neg hne]
  by_cases h1 : key ∈ kb
  · have h2 : key ∉ ka := fun h2 => (List.nodup_append.1 hn).2.2 _ h2 _ h1 rfl
    rw [if_pos h1, if_neg h2]
  · rw [if_neg h1]
    by_cases h2 : key ∈ ka
    · rw [if_pos h2]
    · rw [if_neg h2, getL_not ka xa key h2, getL_not kb xb key h1]

/-- an object of some of these keys, in order -/
structure okO (l : List (List UInt8)) (v : ApiValue) : Prop where
  kind : v.kind = 7
  sub : v.keys.Sublist l
  len : v.keys.length = v.items.length
theorem okO.skip {l : List (List UInt8)} {v : ApiValue} (h : okO l v) (k : List UInt8) : okO (l ++ [k]) v := ⟨h.kind, h.sub.trans (List.sublist_append_left _ _), h.len⟩
theorem okO.add {l : List (List UInt8)} {v : ApiValue} (h : okO l v) (k : List UInt8) (x : ApiValue) : okO (l ++ [k]) (addM v k x) := ⟨h.kind, h.sub.append (List.Sublist.refl _), by simp [addM, h.len]⟩
theorem okO_text {l : List (List UInt8)} {v : ApiValue} (h : okO l v) (k s : List UInt8) : okO (l ++ [k]) (textM v k s) := by
  unfold textM; split
  · exact h.skip k
  · exact h.add k _
theorem okO_list {l : List (List UInt8)} {v : ApiValue} (h : okO l v) (k : List UInt8) (s : List ApiValue) : okO (l ++ [k]) (listM v k s) := by
  unfold listM; split
  · exact h.skip k
  · exact h.add k _
theorem okO_props {l : List (List UInt8)} {v : ApiValue} (h : okO l v) (k : List UInt8) (s : List ApiProperty) : okO (l ++ [k]) (propsM v k s) := by
  unfold propsM; split
  · exact h.skip k
  · exact h.add k _
theorem okO_enc (j : ApiJRD) : okO [kSubj, kAli, kProps, kLinks] (encJ j) :=
  okO_list (okO_props (okO_list (okO_text (l := []) ⟨rfl, List.Sublist.refl _, rfl⟩ _ _) _ _) _ _) _ _

/-- what is encoded is small enough to be decoded -/
theorem okV_str (s : List UInt8) : okV (strV s) := .mk _ (by simp [strV]) (by simp [strV]) (by simp [strV])
theorem okV_add {v : ApiValue} (h : okV v) (hk : v.keys.length ≤ 1000) (hi : v.items.length ≤ 1000) (k : List UInt8) {x : ApiValue} (hx : okV x) : okV (addM v k x) := .mk _ (by simp [addM]; omega) (by simp [addM]; omega) (by
  intro y hy
  simp only [addM, List.mem_append, List.mem_singleton] at hy
  rcases hy with hy | rfl
  · exact h.sub y hy
  · exact hx)
theorem okV_text {v : ApiValue} (h : okV v) (hf : few v 1000) (k s : List UInt8) : okV (textM v k s) := by
  unfold textM; split
  · exact h
  · exact okV_add h hf.1 hf.2 k (okV_str s)
theorem okV_propV (p : ApiProperty) : okV (propV p) := by
  unfold propV; split
  · exact .mk _ (by simp) (by simp) (by simp)
  · exact okV_str _
theorem okV_propsM {v : ApiValue} (h : okV v) (hf : few v 1000) (k : List UInt8) (l : List ApiProperty) (hl : l.length ≤ 1000) : okV (propsM v k l) := by
  unfold propsM; split
  · exact h
  · refine okV_add h hf.1 hf.2 k (.mk _ (by simp [propsV]; omega) (by simp [propsV]; omega) fun x hx => ?_)
    simp only [propsV, List.mem_map] at hx
    obtain ⟨p, _, rfl⟩ := hx
    exact okV_propV p
theorem okV_listM {v : ApiValue} (h : okV v) (hf : few v 1000) (k : List UInt8) (l : List ApiValue) (hl : l.length ≤ 1000) (hx : ∀ x, x ∈ l → okV x) : okV (listM v k l) := by
  unfold listM; split
  · exact h
  · exact okV_add h hf.1 hf.2 k (.mk _ (by simp) (by simp; omega) hx)
theorem okV_obj : okV (ApiValue.mk 7 [] [] []) := .mk _ (by simp) (by simp) (by simp)
theorem okV_link (l : ApiLink) (h1 : l.titles.length ≤ 1000) (h2 : l.properties.length ≤ 1000) : okV (linkV l) := by
  have f1 := few_addM (key := [114, 101, 108]) (x := strV l.rel) few_obj
  have f2 := few_textM (key := [116, 121, 112, 101]) (s := l.type_) f1
  have f3 := few_textM (key := [104, 114, 101, 102]) (s := l.href) f2
  have f4 := few_textM (key := [116, 101, 109, 112, 108, 97, 116, 101]) (s := l.template) f3
  have f5 := few_propsM (key := [116, 105, 116, 108, 101, 115]) (l := l.titles) f4
  exact okV_propsM (okV_propsM (okV_text (okV_text (okV_text (okV_add okV_obj (by simp) (by simp) _ (okV_str _)) (f1.mono (by omega)) _ _) (f2.mono (by omega)) _ _) (f3.mono (by omega)) _ _) (f4.mono (by omega)) _ _ h1) (f5.mono (by omega)) _ _ h2
theorem okV_enc {j : ApiJRD} (h : smallJ j) : okV (encJ j) := by
  obtain ⟨ha, hp, hl, ht⟩ := h
  have f1 := few_textM (key := [115, 117, 98, 106, 101, 99, 116]) (s := j.subject) few_obj
  have f2 := few_listM (key := [97, 108, 105, 97, 115, 101, 115]) (l := j.aliases.map strV) f1
  have f3 := few_propsM (key := [112, 114, 111, 112, 101, 114, 116, 105, 101, 115]) (l := j.properties) f2
  refine okV_listM (okV_propsM (okV_listM (okV_text okV_obj (few_obj.mono (by omega)) _ _) (f1.mono (by omega)) _ _ (by simp; omega) ?_) (f2.mono (by omega)) _ _ (by omega)) (f3.mono (by omega)) _ _ (by simp; omega) ?_
  · intro x hx
    obtain ⟨s, _, rfl⟩ := List.mem_map.1 hx
    exact okV_str s
  · intro x hx
    obtain ⟨l, hl, rfl⟩ := List.mem_map.1 hx
    have := ht l hl
    exact okV_link l (by omega) (by omega)

theorem jrdIgnores_true (j : ApiJRD) (x : ApiValue) (turn : Int) (ht : 0 ≤ turn ∧ turn ≤ 255) : law16_JrdIgnores 1000 j x turn = some true := by
  unfold law16_JrdIgnores
  rw [sane16, Option.bind_some, if_pos rfl, joinK_eq]
  simp only [if_true]
  rcases keepJ_eq (N := 1000) j with ⟨e1, hs⟩ | e1
  · obtain ⟨b, e2, hb⟩ := keepV_ok (N := 1000) (by omega) x 20 (by omega)
    rw [e1, Option.bind_some, if_pos rfl, show (20 : Int) = ((20 : Nat) : Int) from rfl, e2, Option.bind_some]
    cases b with
    | false => rfl
    | true =>
      have hx := hb rfl
      have ho := okO_enc j
      have hf := encJ_few j
      have hv := okV_enc hs
      simp only [Bool.not_true, Bool.false_eq_true, if_false, rencode_eq j hs, Option.bind_some]
      generalize encJ j = v at ho hf hv
      obtain ⟨t, rfl⟩ := Int.eq_ofNat_of_zero_le ht.1
      have hk := hf.1
      have hl := ho.len
      rw [wr_i64 (n := (v.keys.length : Int) + 1) (by omega), wr_i64 (n := (t : Int)) (by omega)]
      have hm : ((t : Int).tmod ((v.keys.length : Int) + 1)) = ((t % (v.keys.length + 1) : Nat) : Int) := by
        rw [Int.tmod_eq_emod_of_nonneg (by omega)]; simp
      have hlt : t % (v.keys.length + 1) ≤ v.keys.length := by have := Nat.mod_lt t (show 0 < v.keys.length + 1 by omega); omega
      rw [hm]
      generalize t % (v.keys.length + 1) = k at hlt
      rw [grd_true (by omega), sub_nat v.keys k v.keys.length hlt (Nat.le_refl _), Option.bind_some, show (0 : Int) = ((0 : Nat) : Int) from rfl, sub_nat v.keys 0 k (by omega) hlt, sub_nat v.items k v.items.length (by omega) (Nat.le_refl _), sub_nat v.items 0 k (by omega) (by omega)]
      simp only [Option.bind_some, List.drop_zero, Nat.sub_zero]
      have t1 : (v.keys.drop k).take (v.keys.length - k) = v.keys.drop k := List.take_of_length_le (by simp)
      have t2 : (v.items.drop k).take (v.items.length - k) = v.items.drop k := List.take_of_length_le (by simp)
      rw [t1, t2]
      have l1 : (v.keys.drop k).length ≤ 4 := by simp; omega
      have l2 : (v.items.drop k).length ≤ 4 := by simp; omega
      have l3 : (v.keys.take k).length ≤ 4 := by simp; omega
      have l4 : (v.items.take k).length ≤ 4 := by simp; omega
      have e5 : ((v.keys.drop k ++ [[101, 120, 112, 105, 114, 101, 115]]) : List (List UInt8)).length ≤ 5 := by simp; omega
      have e6 : (v.items.drop k ++ [x]).length ≤ 5 := by simp; omega
      rw [grdA (by simp; omega) (by omega), grdA (by omega) (by omega), grdA (by omega) (by omega), grdA (by simp; omega) (by omega), grdA (by omega) (by omega), grdA (by omega) (by omega)]
      have hw : okV (ApiValue.mk 7 [] ((v.keys.drop k ++ [[101, 120, 112, 105, 114, 101, 115]]) ++ v.keys.take k) ((v.items.drop k ++ [x]) ++ v.items.take k)) := .mk _ (by simp; omega) (by simp; omega) (by
        intro y hy
        simp only [List.mem_append, List.mem_singleton] at hy
        rcases hy with (hy | rfl) | hy
        · exact hv.sub y (List.mem_of_mem_drop hy)
        · exact hx
        · exact hv.sub y (List.mem_of_mem_take hy))
      rw [dec_eq v hv, Option.bind_some, dec_eq _ hw, Option.bind_some]
      have hn : v.keys.Nodup := ho.sub.nodup (by decide)
      have hg : ∀ key, key ≠ [101, 120, 112, 105, 114, 101, 115] → getJ (ApiValue.mk 7 [] ((v.keys.drop k ++ [[101, 120, 112, 105, 114, 101, 115]]) ++ v.keys.take k) ((v.items.drop k ++ [x]) ++ v.items.take k)) key = getJ v key := by
        intro key hkey
        unfold getJ
        rw [ho.kind]
        simp only [beq_self_eq_true, if_true]
        rw [getL_rot _ _ _ _ _ _ _ (by simp; omega) (by simp; omega) (by rw [List.take_append_drop]; exact hn) hkey, List.take_append_drop, List.take_append_drop]
      have hd : decJ (ApiValue.mk 7 [] ((v.keys.drop k ++ [[101, 120, 112, 105, 114, 101, 115]]) ++ v.keys.take k) ((v.items.drop k ++ [x]) ++ v.items.take k)) = decJ v := by
        unfold decJ
        rw [ho.kind, hg _ (by decide), hg _ (by decide), hg _ (by decide), hg _ (by decide)]
      rw [hd]
      simp only [beq_self_eq_true, if_true]
      rw [sameJ_refl _ (decJ_fewJ v)]
      rfl
  · rw [e1, Option.bind_some, if_neg (by simp)]
theorem jrdIgnores_said (j : ApiJRD) (_ : okApiJRD j) (x : ApiValue) (_ : okApiValue x) (turn : Int) (ht : (Lit.int .u8 turn).wf = true) : law16_JrdIgnores 1000 j x turn = some true :=
  jrdIgnores_true j x turn (wf_u8 ht)
end Go.VM
