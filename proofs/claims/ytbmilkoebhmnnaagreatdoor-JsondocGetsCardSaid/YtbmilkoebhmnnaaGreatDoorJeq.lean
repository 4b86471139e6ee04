/- Equality of valid values: the program's and the reference's are the same; the plain law of JsondocGets. -/
import Derived.Test.YtbmilkoebhmnnaaGreatDoorKshape
import Derived.Test.YtbmilkoebhmnnaaGreatDoorKwrite
import Derived.Test.YtbmilkoebhmnnaaGreatDoorRd
import Derived.KernelRfl
set_option linter.unusedVariables false
set_option linter.unusedSimpArgs false
namespace Go.VM
theorem look_no : ∀ (ks : List (List UInt8)) (xs : List ApiValue) (k : List UInt8), (jq_look (ks, xs) k).2 = false → jq_look (ks, xs) k = (zeroV, false)
  | [], _, _, _ => by rw [jq_look]; rfl; intros; simp_all
  | _ :: _, [], _, _ => by rw [jq_look]; rfl; intros; simp_all
  | a :: ks, x :: xs, k, h => by
    rw [jq_look] at h ⊢
    split
    · rename_i e; rw [if_pos e] at h; cases h
    · rename_i e; rw [if_neg e] at h; exact look_no ks xs k h
theorem look_mem : ∀ (ks : List (List UInt8)) (xs : List ApiValue) (k : List UInt8), ks.length = xs.length → (jq_look (ks, xs) k).2 = decide (k ∈ ks)
  | [], [], k, _ => by rw [look_no' k]; simp
  | a :: ks, x :: xs, k, h => by
    rw [jq_look]
    by_cases e : k = a
    · simp [e]
    · rw [if_neg e, look_mem ks xs k (by simpa using h)]; simp [e]
where look_no' (k : List UInt8) : jq_look ([], []) k = (zeroV, false) := by rw [jq_look]; rfl; intros; simp_all
theorem look_add (k k0 : List UInt8) (x : ApiValue) : ∀ (ks : List (List UInt8)) (xs : List ApiValue), ks.length = xs.length → jq_look (ks ++ [k0], xs ++ [x]) k = if (jq_look (ks, xs) k).2 = true then jq_look (ks, xs) k else if k = k0 then (x, true) else (zeroV, false)
  | [], [], _ => by
    have e : jq_look ([], []) k = (zeroV, false) := by rw [jq_look]; rfl; intros; simp_all
    rw [e]
    simp only [List.nil_append, Bool.false_eq_true, if_false]
    rw [jq_look, e]
  | a :: ks, y :: xs, h => by
    simp only [List.cons_append]
    rw [jq_look, jq_look]
    by_cases e : k = a
    · simp [e]
    · rw [if_neg e, if_neg e]; exact look_add k k0 x ks xs (by simpa using h)
theorem mem_get (items : List ApiValue) (k : List UInt8) : ∀ (ks : List (List UInt8)) (i : Nat) (acc : List (List UInt8) × List ApiValue), acc.1.length = acc.2.length → jq_look (jq_mem items ks i acc) k = if (jq_look acc k).2 = true then jq_look acc k else getL ks (items.drop i) k
  | [], i, acc, h => by
    rw [jq_mem, getL]
    · split
      · rfl
      · rename_i e; exact look_no acc.1 acc.2 k (by simpa using e)
    · intros; simp_all
  | k0 :: ks, i, acc, h => by
    rw [jq_mem]
    cases hx : items[i]? with
    | none =>
      have hd : items.drop i = [] := List.drop_eq_nil_iff.2 (by have := List.getElem?_eq_none_iff.1 hx; omega)
      have hd2 : items.drop (i + 1) = [] := List.drop_eq_nil_iff.2 (by have := List.getElem?_eq_none_iff.1 hx; omega)
      simp only []
      rw [mem_get items k ks (i + 1) acc h, hd, hd2]
      have e1 : ∀ l : List (List UInt8), getL l [] k = (zeroV, false) := fun l => by cases l <;> simp [getL]
      rw [e1, e1]
    | some x =>
      have hlt : i < items.length := by
        rcases Nat.lt_or_ge i items.length with h | h
        · exact h
        · rw [List.getElem?_eq_none h] at hx; cases hx
      have hd : items.drop i = x :: items.drop (i + 1) := by
        rw [List.getElem?_eq_getElem hlt] at hx
        cases hx
        exact List.drop_eq_getElem_cons hlt
      have hm := look_mem acc.1 acc.2 k h
      simp only []
      rw [hd, getL]
      by_cases h0 : k0 ∈ acc.1
      · rw [if_pos h0, mem_get items k ks (i + 1) acc h]
        by_cases e : k0 = k
        · subst e
          have ht : (jq_look acc k0).2 = true := hm.trans (by simpa using h0)
          rw [if_pos ht, if_pos ht]
        · rw [if_neg (show ¬ (k0 == k) = true by simpa using e)]
      · rw [if_neg h0, mem_get items k ks (i + 1) _ (by simp [h])]
        have ha := look_add k k0 x acc.1 acc.2 h
        rw [ha]
        by_cases e : k0 = k
        · subst e
          have ht : (jq_look acc k0).2 = false := hm.trans (by simpa using h0)
          rw [if_neg (show ¬ (jq_look (acc.1, acc.2) k0).2 = true by rw [show (acc.1, acc.2) = acc from rfl, ht]; decide), if_pos rfl, if_pos rfl, if_neg (by rw [ht]; decide), if_pos (by simp)]
        · rw [if_neg (show ¬ (k0 == k) = true by simpa using e), if_neg (show ¬ k = k0 from fun h => e h.symm)]
          by_cases ht : (jq_look acc k).2 = true
          · rw [if_pos (show (jq_look (acc.1, acc.2) k).2 = true from ht), if_pos ht]
          · rw [if_neg (show ¬ (jq_look (acc.1, acc.2) k).2 = true from ht), if_neg ht, if_neg (by decide)]
theorem members_get (items : List ApiValue) (ks : List (List UInt8)) (k : List UInt8) : jq_look (jq_mem items ks 0 ([], [])) k = getL ks items k := by
  have e : jq_look ([], []) k = (zeroV, false) := by rw [jq_look]; rfl; intros; simp_all
  rw [mem_get items k ks 0 ([], []) rfl, e, if_neg (by decide), List.drop_zero]
section
variable {N : Nat}
theorem items_same (rc rc' : ApiValue → ApiValue → Option Bool) (a1 : ApiValue) (R : ApiValue → Prop) (hrc : ∀ x y, R x → R y → ∃ r, rc x y = some r ∧ rc' x y = some r) (hb : ∀ y, y ∈ a1.items → R y) : ∀ (xs pre : List ApiValue), (∀ x, x ∈ xs → R x) → pre.length + xs.length = a1.items.length →
    ∃ r, jq_items rc a1.items xs (pre.length : Int) = some r ∧ ref14_Equal_L1 N a1 rc' (fun _ => some true) xs (pre.length : Int) = some r
  | [], pre, _, _ => ⟨true, by rw [jq_items], by rw [ref14_Equal_L1]⟩
  | x :: xs, pre, hx, hl => by
    simp only [List.length_cons] at hl
    have hi : pre.length < a1.items.length := by omega
    have e : idx a1.items (pre.length : Int) = some a1.items[pre.length] := by rw [idx_nat, List.getElem?_eq_getElem hi]
    obtain ⟨r, h1, h2⟩ := hrc x a1.items[pre.length] (hx x (by simp)) (hb _ (List.getElem_mem hi))
    rw [jq_items, ref14_Equal_L1, e, Option.bind_some, Option.bind_some, h1, h2, Option.bind_some, Option.bind_some, len_snoc pre x]
    cases r
    · exact ⟨false, by simp, by simp⟩
    · simp only [if_true]
      exact items_same rc rc' a1 R hrc hb xs (pre ++ [x]) (fun y hy => hx y (by simp [hy])) (by simp; omega)
theorem keys_same (rc rc' : ApiValue → ApiValue → Option Bool) (a b : ApiValue) (ha : a.kind = 7) (hb : b.kind = 7) (hal : a.keys.length ≤ 100000) (hbl : b.keys.length ≤ 100000) (R : ApiValue → Prop) (hrc : ∀ x y, R x → R y → ∃ r, rc x y = some r ∧ rc' x y = some r) (hA : ∀ y, y ∈ a.items → R y) (hB : ∀ y, y ∈ b.items → R y) (hz : R zeroV) : ∀ ks : List (List UInt8),
    ∃ r, jq_keys rc (jq_mem a.items a.keys 0 ([], [])) (jq_mem b.items b.keys 0 ([], [])) ks = some r ∧ ref14_Equal_L2 N a b rc' (fun _ => some true) ks = some r
  | [] => ⟨true, by rw [jq_keys], by rw [ref14_Equal_L2]⟩
  | k :: ks => by
    have mem : ∀ (c : ApiValue), (∀ y, y ∈ c.items → R y) → R (getL c.keys c.items k).1 := fun c hc => by
      rcases getL_mem c.keys c.items k with h | h
      · exact hc _ h
      · rw [h]; exact hz
    have ga : getJ a k = getL a.keys a.items k := by unfold getJ; rw [if_pos (by simp [ha])]
    have gb : getJ b k = getL b.keys b.items k := by unfold getJ; rw [if_pos (by simp [hb])]
    obtain ⟨r, h1, h2⟩ := hrc _ _ (mem a hA) (mem b hB)
    obtain ⟨r2, h3, h4⟩ := keys_same rc rc' a b ha hb hal hbl R hrc hA hB hz ks
    rw [jq_keys, ref14_Equal_L2, members_get, members_get]
    simp only [joinK_eq]
    rw [rget_eq a k (by omega), Option.bind_some, rget_eq b k (by omega), Option.bind_some, ga, gb, h1, h2, h3, h4]
    cases (getL a.keys a.items k).2
    · exact ⟨false, by simp, by simp⟩
    · cases (getL b.keys b.items k).2
      · exact ⟨false, by simp, by simp⟩
      · cases r
        · exact ⟨false, by simp, by simp⟩
        · exact ⟨r2, by simp, by simp⟩
/-- what a comparison asks: nested less than d times, short lists, keys with items -/
inductive okE : Nat → ApiValue → Prop
  | mk {d : Nat} (v : ApiValue) (hk : v.keys.length ≤ 100000) (hi : v.items.length ≤ 100000) (hz : v.kind = 1 ∨ v.kind = 2 ∨ v.kind = 3 ∨ v.kind = 4 ∨ v.kind = 5 → v.keys = [] ∧ v.items = []) (h6 : v.kind = 6 → v.keys = []) (h7 : v.kind = 7 → v.keys.length = v.items.length) (h : ∀ x, x ∈ v.items → okE d x) : okE (d + 1) v
theorem okE_of : ∀ (d : Nat) (v : ApiValue), okW d v → shpV N v = true → okE d v
  | 0, v, h, _ => by have := h.pos; omega
  | d + 1, v, h, hs => by
    have hi := h.items; have hk := h.keys; have hsub := h.sub
    cases shp_of hs with
    | word k hkw => exact .mk _ (by simp) (by simp) (fun _ => ⟨rfl, rfl⟩) (fun _ => rfl) (fun _ => rfl) (by simp)
    | num s _ => exact .mk _ (by simp) (by simp) (fun _ => ⟨rfl, rfl⟩) (fun _ => rfl) (fun _ => rfl) (by simp)
    | str s _ => exact .mk _ (by simp) (by simp) (fun _ => ⟨rfl, rfl⟩) (fun _ => rfl) (fun _ => rfl) (by simp)
    | arr xs hx => exact .mk _ (by simp) (by simp only [] at hi ⊢; omega) (fun h => by simp at h) (fun _ => rfl) (fun h => by simp at h) fun x hm => okE_of d x (hsub x hm) (hx x hm)
    | obj ks xs hl hd hx => exact .mk _ (by simp only [] at hk ⊢; omega) (by simp only [] at hi ⊢; omega) (fun h => by simp at h) (fun h => by simp at h) (fun _ => hl) fun x hm => okE_of d x (hsub x hm) (hx x hm)
theorem okE.mono {d : Nat} {v : ApiValue} (h : okE d v) : ∀ e, d ≤ e → okE e v := by
  induction h with
  | mk v hk hi hz h6 h7 h ih =>
    intro e he
    obtain ⟨e', rfl⟩ : ∃ e', e = e' + 1 := ⟨e - 1, by omega⟩
    exact .mk v hk hi hz h6 h7 fun x hx => ih x hx e' (by omega)
theorem okE_zero : okE 1 zeroV := .mk _ (by simp [zeroV]) (by simp [zeroV]) (fun _ => ⟨rfl, rfl⟩) (fun _ => rfl) (fun _ => rfl) (by simp [zeroV])
theorem len_ne {a b : Nat} : (((a : Nat) : Int) != ((b : Nat) : Int)) = !decide (a = b) := by
  by_cases h : a = b
  · simp [h]
  · have : ¬ ((a : Int) = (b : Int)) := by omega
    simp [h, this, bne]
theorem equal_same : ∀ (D d : Nat) (a b : ApiValue), okE d a → okE d b → d ≤ D → ∃ r, jq_Equal N D a b = some r ∧ ref14_Equal N D a b = some r
  | 0, d, a, b, h, _, hd => by cases h; omega
  | D + 1, d, a, b, h, h', hd => by
    cases h with
    | mk a ak ai az a6 a7 ah =>
    rename_i d
    cases h' with
    | mk b bk bi bz b6 b7 bh =>
    have ih := fun x y (hx : okE d x) (hy : okE d y) => equal_same D d x y hx hy (by omega)
    rw [jq_Equal, ref14_Equal]
    simp only [joinK_eq, len_ne]
    cases hk : a.kind != b.kind
    · have hkb : a.kind = b.kind := by simpa using hk
      simp only [Bool.false_eq_true, if_false]
      by_cases hpl : a.kind = 1 ∨ a.kind = 2 ∨ a.kind = 3 ∨ a.kind = 4 ∨ a.kind = 5
      · obtain ⟨e1, e2⟩ := az hpl
        obtain ⟨e3, e4⟩ := bz (by rw [← hkb]; exact hpl)
        rw [e1, e2, e3, e4]
        rcases hpl with e | e | e | e | e <;> rw [e] <;> first | exact ⟨true, rfl, rfl⟩ | exact ⟨a.text == b.text, rfl, rfl⟩
      · simp only [not_or] at hpl
        obtain ⟨n1, n2, n3, n4, n5⟩ := hpl
        have q1 : (a.kind == 1) = false := by simpa using n1
        have q2 : (a.kind == 2) = false := by simpa using n2
        have q3 : (a.kind == 3) = false := by simpa using n3
        have q4 : (a.kind == 4) = false := by simpa using n4
        have q5 : (a.kind == 5) = false := by simpa using n5
        simp only [q1, q2, q3, q4, q5, Bool.or_false, Bool.false_eq_true, if_false]
        by_cases h6 : a.kind = 6
        · have q6 : (a.kind == 6) = true := by simpa using h6
          rw [a6 h6, b6 (hkb ▸ h6)]
          simp only [q6, if_true, List.length_nil, decide_true, Bool.not_true, Bool.false_eq_true, if_false]
          by_cases hl : a.items.length = b.items.length
          · simp only [hl, decide_true, Bool.not_true, Bool.false_eq_true, if_false]
            rw [grdS (by omega), grdS (by omega)]
            exact items_same (N := N) (jq_Equal N D) (ref14_Equal N D) b (okE d) ih bh a.items [] ah (by simpa using hl)
          · simp only [hl, decide_false, Bool.not_false, if_true]
            exact ⟨false, rfl, rfl⟩
        · have q6 : (a.kind == 6) = false := by simpa using h6
          simp only [q6, Bool.false_eq_true, if_false]
          by_cases h7 : a.kind = 7
          · have q7 : (a.kind == 7) = true := by simpa using h7
            have la := a7 h7
            have lb := b7 (hkb ▸ h7)
            simp only [q7, if_true]
            by_cases hl : a.keys.length = b.keys.length
            · have hl2 : a.items.length = b.items.length := by omega
              simp only [hl, hl2, decide_true, Bool.not_true, Bool.false_eq_true, if_false]
              rw [grd_true (show fitsS b.keys.length ∧ fitsS b.items.length ∧ fitsS b.keys.length ∧ fitsS b.items.length from by unfold fitsS; omega), grdS (by omega)]
              by_cases hd0 : d = 0
              · subst hd0
                have e0 : a.keys = [] := by
                  cases ha : a.items with
                  | nil => rw [ha] at la; exact List.length_eq_zero_iff.1 la
                  | cons x xs => have := ah x (by rw [ha]; simp); cases this
                rw [e0]
                exact ⟨true, by rw [jq_keys], by rw [ref14_Equal_L2]⟩
              · exact keys_same (N := N) (jq_Equal N D) (ref14_Equal N D) a b h7 (hkb ▸ h7) (by omega) (by omega) (okE d) ih ah bh (okE_zero.mono d (by omega)) a.keys
            · have hl2 : ¬ a.items.length = b.items.length := by omega
              simp only [hl, hl2, decide_false, Bool.not_false, if_true]
              exact ⟨false, rfl, rfl⟩
          · have q7 : (a.kind == 7) = false := by simpa using h7
            simp only [q7, Bool.false_eq_true, if_false]
            refine ⟨false, rfl, ?_⟩
            cases decide (a.items.length = b.items.length) <;> cases decide (a.keys.length = b.keys.length) <;> rfl
    · exact ⟨false, by simp, by simp⟩
/-- every valid value equals itself -/
theorem items_refl (rc : ApiValue → ApiValue → Option Bool) (items : List ApiValue) : ∀ (xs pre : List ApiValue), items = pre ++ xs → (∀ x, x ∈ xs → rc x x = some true) → jq_items rc items xs (pre.length : Int) = some true
  | [], _, _, _ => by rw [jq_items]
  | x :: xs, pre, e, h => by
    rw [jq_items, idx_at e, Option.bind_some, h x (by simp), Option.bind_some, if_pos rfl, len_snoc pre x]
    exact items_refl rc items xs (pre ++ [x]) (by rw [e]; simp) fun y hy => h y (by simp [hy])
theorem equal_refl : ∀ (D d : Nat) (a : ApiValue), okE d a → (shpV N a = true) → d ≤ D → jq_Equal N D a a = some true
  | 0, d, a, h, _, hd => by cases h; omega
  | D + 1, d, a, h, hs, hd => by
    cases h with
    | mk a ak ai az a6 a7 ah =>
    rename_i d
    rw [jq_Equal]
    cases shp_of hs with
    | word k hk => rcases hk with rfl | rfl | rfl <;> rfl
    | num s _ => simp
    | str s _ => simp
    | arr xs hx =>
      have := items_refl (jq_Equal N D) xs xs [] rfl fun x hm => equal_refl D d x (ah x hm) (hx x hm) (by omega)
      simp only [bne_self_eq_false, Bool.false_eq_true, if_false]
      rw [if_neg (by decide), if_neg (by decide), if_pos (by rfl), grdS (by simp only [] at ai ⊢; omega)]
      exact this
    | obj ks xs hl hdk hx =>
      simp only [bne_self_eq_false, Bool.false_eq_true, if_false]
      rw [if_neg (by decide), if_neg (by decide), if_neg (by decide), if_pos (by rfl), grd_true (by simp only [fitsS] at ak ai ⊢; omega)]
      have key : ∀ qs : List (List UInt8), (∀ k, k ∈ qs → k ∈ ks) → jq_keys (jq_Equal N D) (jq_mem xs ks 0 ([], [])) (jq_mem xs ks 0 ([], [])) qs = some true := by
        intro qs
        induction qs with
        | nil => intro _; rw [jq_keys]
        | cons k qs ih =>
          intro hm
          obtain ⟨x, h1, h2, _⟩ := getL_map id ks xs k hl (hm k (by simp))
          rw [jq_keys, members_get, h2]
          simp only [if_true]
          rw [equal_refl D d x (ah x h1) (hx x h1) (by omega), Option.bind_some, if_pos rfl]
          exact ih fun y hy => hm y (by simp [hy])
      exact key ks fun _ h => h
theorem sane14g : law14_sane 1099511627776 = some true := by kernel_rfl
theorem jsondocGets_said (v : ApiValue) (_ : okApiValue v) (w : ApiValue) (_ : okApiValue w) (key : List UInt8) (_ : key.length ≤ reachBytes) : law14_JsondocGets 1099511627776 v w key = some true := by
  unfold law14_JsondocGets
  rw [sane14g, Option.bind_some, if_pos rfl]
  obtain ⟨b, e1, hb⟩ := keepV_ok (N := 1099511627776) (by omega) v 60 (by omega)
  obtain ⟨c, e2, hc⟩ := keepV_ok (N := 1099511627776) (by omega) w 60 (by omega)
  simp only [joinK_eq]
  rw [show (60 : Int) = ((60 : Nat) : Int) from rfl, e1, Option.bind_some]
  cases b
  · rfl
  · rw [if_pos rfl, e2, Option.bind_some]
    cases c
    · rfl
    · obtain ⟨hv, nv⟩ := hb rfl
      obtain ⟨hw, nw⟩ := hc rfl
      have v1 := valid_ok (N := 1099511627776) (by omega) hv (by omega)
      have v2 := valid_ok (N := 1099511627776) (by omega) hw (by omega)
      unfold wjson_Valid
      rw [if_pos rfl, v1, Option.bind_some]
      cases s1 : (decide (nestV v ≤ 64) && shpV 1099511627776 v)
      · rfl
      · simp only [Option.bind_some, if_true]
        rw [v2, Option.bind_some]
        cases s2 : (decide (nestV w ≤ 64) && shpV 1099511627776 w)
        · rfl
        · rw [Bool.and_eq_true] at s1 s2
          have ov := okE_of 70 v hv s1.2
          have ow := okE_of 70 w hw s2.2
          obtain ⟨r, q1, q2⟩ := equal_same (N := 1099511627776) 1099511627776 70 v w ov ow (by omega)
          have q3 := equal_refl (N := 1099511627776) 1099511627776 70 v ov s1.2 (by omega)
          have hk := hv.keys
          have hs := same_refl (N := 1099511627776) 1099511627776 69 _ (okW_get hv (by omega) key).d (by omega)
          unfold jsondoc_Equal
          simp only [Option.bind_some, Bool.not_true, Bool.false_eq_true, if_false, if_true]
          rw [get_eq v key (by omega), Option.bind_some, rget_eq v key (by omega), Option.bind_some]
          simp [hs, q1, q2, q3]
end
end Go.VM
