/- JSON values: bounds, members, sameness. -/
import Derived.Test.YtbmilkoebhmnnaaGreatDoorDefs
import Derived.Test.YtbmilkoebhmnnaaGreatDoorOk
set_option linter.unusedVariables false
set_option linter.unusedSimpArgs false
namespace Go.VM
def zeroV : ApiValue := ApiValue.mk 0 [] [] []
def getL : List (List UInt8) → List ApiValue → List UInt8 → ApiValue × Bool
  | k :: ks, x :: xs, key => if k == key then (x, true) else getL ks xs key
  | _, _, _ => (zeroV, false)
def getJ (v : ApiValue) (key : List UInt8) : ApiValue × Bool := if v.kind == 7 then getL v.keys v.items key else (zeroV, false)
mutual
def cntV : ApiValue → Nat
  | ⟨_, _, _, items⟩ => 1 + cntVs items
def cntVs : List ApiValue → Nat
  | [] => 0
  | x :: xs => cntV x + cntVs xs
end
theorem cntV_eq (v : ApiValue) : cntV v = 1 + cntVs v.items := by cases v; rw [cntV]
/-- a value nested less than d times, its parts within bounds -/
inductive okW : Nat → ApiValue → Prop
  | mk {d : Nat} (v : ApiValue) (ht : v.text.length ≤ 300) (hk : v.keys.length ≤ 910) (hl : ∀ k, k ∈ v.keys → k.length ≤ 300) (hi : v.items.length ≤ 900) (h : ∀ x, x ∈ v.items → okW d x) : okW (d + 1) v
section
variable {N : Nat}
theorem okW.text {d : Nat} {v : ApiValue} : okW d v → v.text.length ≤ 300 | .mk _ h _ _ _ _ => h
theorem okW.keys {d : Nat} {v : ApiValue} : okW d v → v.keys.length ≤ 910 | .mk _ _ h _ _ _ => h
theorem okW.klen {d : Nat} {v : ApiValue} : okW d v → ∀ k, k ∈ v.keys → k.length ≤ 300 | .mk _ _ _ h _ _ => h
theorem okW.items {d : Nat} {v : ApiValue} : okW d v → v.items.length ≤ 900 | .mk _ _ _ _ h _ => h
theorem okW.sub {d : Nat} {v : ApiValue} : okW (d + 1) v → ∀ x, x ∈ v.items → okW d x | .mk _ _ _ _ _ h => h
theorem okW.pos {d : Nat} {v : ApiValue} : okW d v → 0 < d | .mk _ _ _ _ _ _ => by omega
theorem okW.mono {d : Nat} {v : ApiValue} (h : okW d v) : ∀ e, d ≤ e → okW e v := by
  induction h with
  | mk v ht hk hl hi h ih =>
    intro e he
    obtain ⟨e', rfl⟩ : ∃ e', e = e' + 1 := ⟨e - 1, by omega⟩
    exact .mk v ht hk hl hi fun x hx => ih x hx e' (by omega)
theorem okW_zero : okW 1 zeroV := .mk _ (by simp [zeroV]) (by simp [zeroV]) (by simp [zeroV]) (by simp [zeroV]) (by simp [zeroV])
theorem size_loop1 (k6 : Unit → Option Int) : ∀ (l : List (List UInt8)), (keep_size_L1 N k6 l = k6 () ∧ ∀ k, k ∈ l → k.length ≤ 300) ∨ keep_size_L1 N k6 l = some (-1)
  | [] => by rw [keep_size_L1]; exact .inl ⟨rfl, by simp⟩
  | x :: l => by
    rw [keep_size_L1]
    split
    · exact .inr rfl
    · rename_i hx
      rcases size_loop1 k6 l with h | h
      · refine .inl ⟨h.1, fun k hk => ?_⟩
        rcases List.mem_cons.1 hk with rfl | hk
        · simp only [decide_eq_true_eq] at hx; omega
        · exact h.2 k hk
      · exact .inr h
theorem size_loop2 (dn : Nat) (rc : ApiValue → Int → Int → Option Int) (hd : dn ≤ 900) : ∀ (l : List ApiValue) (ln : Nat), ln ≤ 900 →
    (∀ x, x ∈ l → ∀ n : Nat, n ≤ 900 → ∃ r : Int, rc x n dn = some r ∧ r ≤ n ∧ (0 ≤ r → okW dn x ∧ r + cntV x = n)) →
    ∃ r : Int, keep_size_L2 N ((dn + 1 : Nat) : Int) rc (fun j => some j) l (ln : Int) = some r ∧ r ≤ ln ∧ (0 ≤ r → (∀ x, x ∈ l → okW dn x) ∧ r + cntVs l = ln)
  | [], ln, _, _ => by rw [keep_size_L2]; exact ⟨ln, rfl, by omega, by simp [cntVs]⟩
  | x :: l, ln, hln, hr => by
    obtain ⟨r, e1, e2, e3⟩ := hr x (by simp) ln hln
    rw [keep_size_L2, show wr .i64 (((dn + 1 : Nat) : Int) - 1) = (dn : Int) by rw [wr_i64 (by omega)]; omega, e1, Option.bind_some]
    split
    · exact ⟨-1, rfl, by omega, by omega⟩
    · rename_i hn
      have hn' : 0 ≤ r := by simpa using hn
      obtain ⟨rn, rfl⟩ := Int.eq_ofNat_of_zero_le hn'
      obtain ⟨r2, f1, f2, f3⟩ := size_loop2 dn rc hd l rn (by omega) (fun y hy => hr y (by simp [hy]))
      refine ⟨r2, f1, by omega, fun h => ⟨fun y hy => ?_, ?_⟩⟩
      · rcases List.mem_cons.1 hy with rfl | hy
        · exact (e3 hn').1
        · exact (f3 h).1 y hy
      · have := (e3 hn').2; have := (f3 h).2; rw [cntVs]; omega
theorem size_ok : ∀ (D : Nat) (v : ApiValue) (ln dn : Nat), dn < D → dn ≤ 900 → ln ≤ 900 → ∃ r : Int, keep_size N D v ln dn = some r ∧ r ≤ ln ∧ (0 ≤ r → okW dn v ∧ r + cntV v = ln)
  | 0, _, _, _, h, _, _ => by omega
  | D + 1, v, ln, dn, hd, hdn, hl => by
    rw [keep_size, joinK_eq]
    simp only [joinK_eq, if_true]
    have none : ∃ r : Int, some (-1 : Int) = some r ∧ r ≤ (ln : Int) ∧ (0 ≤ r → okW dn v ∧ r + cntV v = ln) := ⟨-1, rfl, by omega, by omega⟩
    split
    · exact none
    · split
      · exact none
      · split
        · exact none
        · split
          · exact none
          · rename_i h1 h2 h3 h4
            simp only [decide_eq_true_eq] at h1 h2 h3 h4
            by_cases h5 : decide ((v.items.length : Int) > (ln : Int)) = true
            · rw [if_pos h5]; exact none
            · rw [if_neg h5]
              simp only [decide_eq_true_eq] at h5
              rw [wr_i64 (by omega)] at h4
              obtain ⟨l1, rfl⟩ : ∃ l1, ln = l1 + 1 := ⟨ln - 1, by omega⟩
              obtain ⟨d1, rfl⟩ : ∃ d1, dn = d1 + 1 := ⟨dn - 1, by omega⟩
              rw [grdS (by omega), show wr .i64 (((l1 + 1 : Nat) : Int) - 1) = (l1 : Int) by rw [wr_i64 (by omega)]; omega]
              rcases size_loop1 (N := N) (fun _ => grd (fitsS v.items.length) (keep_size_L2 N ((d1 + 1 : Nat) : Int) (keep_size N D) (fun j => some j) v.items (l1 : Int))) v.keys with e1 | e1
              · rw [e1.1, grdS (by omega)]
                obtain ⟨r, f1, f2, f3⟩ := size_loop2 (N := N) d1 (keep_size N D) (by omega) v.items l1 (by omega) (fun x hx n hn => size_ok D x n d1 (by omega) (by omega) hn)
                exact ⟨r, f1, by omega, fun h => ⟨.mk _ (by omega) (by omega) e1.2 (by omega) (f3 h).1, by have := (f3 h).2; rw [cntV_eq]; omega⟩⟩
              · rw [e1]; exact none
theorem keepV_ok (hN : 71 ≤ N) (v : ApiValue) (n : Nat) (hn : n ≤ 800) : ∃ b, keep_Value N v n = some b ∧ (b = true → okW 70 v ∧ cntV v ≤ n) := by
  obtain ⟨r, e1, e2, e3⟩ := size_ok (N := N) N v n 70 (by omega) (by omega) (by omega)
  refine ⟨decide (r ≥ 0), ?_, fun h => ?_⟩
  · unfold keep_Value
    rw [show (70 : Int) = ((70 : Nat) : Int) from rfl, e1]; rfl
  · have h0 : 0 ≤ r := by simpa using h
    have := e3 h0
    exact ⟨this.1, by omega⟩
theorem get_none (v : ApiValue) (key : List UInt8) (k5 : Unit → Option (ApiValue × Bool)) : ∀ (ks : List (List UInt8)) (i : Int), (v.items.length : Int) ≤ i → jsondoc_Get_L1 N v key k5 ks i = k5 ()
  | [], i, h => by rw [jsondoc_Get_L1]
  | x :: ks, i, h => by
    have h3 : decide (i < (v.items.length : Int)) = false := by simp; omega
    rw [jsondoc_Get_L1, joinK_eq, h3, get_none v key k5 ks (i + 1) (by omega)]
    simp
theorem get_loop (v : ApiValue) (key : List UInt8) (k5 : Unit → Option (ApiValue × Bool)) (h5 : k5 () = some (zeroV, false)) : ∀ (ks : List (List UInt8)) (xs xpre : List ApiValue), v.items = xpre ++ xs →
    jsondoc_Get_L1 N v key k5 ks (xpre.length : Int) = some (if v.kind == 7 then getL ks xs key else (zeroV, false))
  | [], xs, xpre, hx => by
    rw [jsondoc_Get_L1]; simp [h5, getL]
  | x :: ks, [], xpre, hx => by
    have e : getL (x :: ks) [] key = (zeroV, false) := by simp [getL]
    rw [get_none v key k5 _ _ (by rw [hx]; simp), h5, e]; simp
  | x :: ks, y :: ys, xpre, hx => by
    have ih := get_loop v key k5 h5 ks ys (xpre ++ [y]) (by rw [hx]; simp)
    rw [jsondoc_Get_L1, joinK_eq, lt_at hx, idx_at hx, Option.bind_some, len_snoc xpre y, ih, getL]
    cases v.kind == 7 <;> cases x == key <;> simp
theorem get_eq (v : ApiValue) (key : List UInt8) (hb : v.keys.length ≤ 900000) : jsondoc_Get N v key = some (getJ v key) := by
  have := get_loop (N := N) v key (fun _ => some (zeroV, false)) rfl v.keys v.items [] rfl
  unfold jsondoc_Get getJ
  rw [joinK_eq, grdS (by omega)]
  exact this
theorem rget_none (v : ApiValue) (key : List UInt8) (k2 : Unit → Option (ApiValue × Bool)) : ∀ (ks : List (List UInt8)) (i : Int), (v.items.length : Int) ≤ i → ref14_Get_L1 N v key k2 ks i = k2 ()
  | [], i, h => by rw [ref14_Get_L1]
  | x :: ks, i, h => by
    have h3 : decide (i < (v.items.length : Int)) = false := by simp; omega
    rw [ref14_Get_L1, joinK_eq, h3, rget_none v key k2 ks (i + 1) (by omega)]
    simp
theorem rget_loop (v : ApiValue) (key : List UInt8) (k2 : Unit → Option (ApiValue × Bool)) (h5 : k2 () = some (zeroV, false)) : ∀ (ks : List (List UInt8)) (xs xpre : List ApiValue), v.items = xpre ++ xs →
    ref14_Get_L1 N v key k2 ks (xpre.length : Int) = some (getL ks xs key)
  | [], xs, xpre, hx => by
    rw [ref14_Get_L1]; simp [h5, getL]
  | x :: ks, [], xpre, hx => by
    have e : getL (x :: ks) [] key = (zeroV, false) := by simp [getL]
    rw [rget_none v key k2 _ _ (by rw [hx]; simp), h5, e]
  | x :: ks, y :: ys, xpre, hx => by
    have ih := rget_loop v key k2 h5 ks ys (xpre ++ [y]) (by rw [hx]; simp)
    rw [ref14_Get_L1, joinK_eq, lt_at hx, idx_at hx, Option.bind_some, len_snoc xpre y, ih, getL]
    cases x == key <;> simp
theorem rget_eq (v : ApiValue) (key : List UInt8) (hb : v.keys.length ≤ 4611686018427387904) : ref14_Get N v key = some (getJ v key) := by
  unfold ref14_Get getJ
  cases h : (v.kind == 7)
  · have : (v.kind != 7) = true := by simp only [bne, h, Bool.not_false]
    rw [if_pos this]; rfl
  · have : (v.kind != 7) = false := by simp only [bne, h, Bool.not_true]
    rw [this, if_neg (by simp), joinK_eq, grdS (by omega)]
    exact rget_loop (N := N) v key (fun _ => some (zeroV, false)) rfl v.keys v.items [] rfl
theorem getL_mem : ∀ (ks : List (List UInt8)) (xs : List ApiValue) (key : List UInt8), (getL ks xs key).1 ∈ xs ∨ (getL ks xs key).1 = zeroV
  | [], _, _ => .inr rfl
  | _ :: _, [], _ => .inr rfl
  | k :: ks, x :: xs, key => by
    rw [getL]
    split
    · exact .inl (by simp)
    · rcases getL_mem ks xs key with h | h
      · exact .inl (by simp [h])
      · exact .inr h
theorem getJ_mem (v : ApiValue) (key : List UInt8) : (getJ v key).1 ∈ v.items ∨ (getJ v key).1 = zeroV := by
  unfold getJ; split
  · exact getL_mem _ _ _
  · exact .inr rfl
theorem okW_get {d : Nat} {v : ApiValue} (h : okW (d + 1) v) (hd : 1 ≤ d) (key : List UInt8) : okW d (getJ v key).1 := by
  rcases getJ_mem v key with e | e
  · exact h.sub _ e
  · rw [e]; exact okW_zero.mono _ hd
/-- how often a value is nested, and how long its lists are: enough for the comparison to end -/
inductive okD : Nat → ApiValue → Prop
  | mk {d : Nat} (v : ApiValue) (hk : v.keys.length ≤ 4611686018427387904) (hi : v.items.length ≤ 4611686018427387904) (h : ∀ x, x ∈ v.items → okD d x) : okD (d + 1) v
theorem okW.d {d : Nat} {v : ApiValue} (h : okW d v) : okD d v := by
  induction h with
  | mk v ht hk hl hi h ih => exact .mk v (by omega) (by omega) ih
theorem same_loop2 (v : ApiValue) (k14 : Unit → Option Bool) (h : k14 () = some true) : ∀ (suf pre : List (List UInt8)), v.keys = pre ++ suf → ref14_Same_L2 N v k14 suf (pre.length : Int) = some true
  | [], _, _ => by rw [ref14_Same_L2]; exact h
  | x :: suf, pre, e => by
    rw [ref14_Same_L2, idx_at e, Option.bind_some, if_pos (by simp), len_snoc pre x]
    exact same_loop2 v k14 h suf (pre ++ [x]) (by rw [e]; simp)
theorem same_loop1 (v : ApiValue) (rc : ApiValue → ApiValue → Option Bool) (k6 : Unit → Option Bool) (h : k6 () = some true) : ∀ (suf pre : List ApiValue), v.items = pre ++ suf → (∀ x, x ∈ suf → rc x x = some true) → ref14_Same_L1 N v rc k6 suf (pre.length : Int) = some true
  | [], _, _, _ => by rw [ref14_Same_L1]; exact h
  | x :: suf, pre, e, hr => by
    rw [ref14_Same_L1, idx_at e, Option.bind_some, hr x (by simp), Option.bind_some, if_pos rfl, len_snoc pre x]
    exact same_loop1 v rc k6 h suf (pre ++ [x]) (by rw [e]; simp) fun y hy => hr y (by simp [hy])
theorem same_refl : ∀ (D d : Nat) (v : ApiValue), okD d v → d ≤ D → ref14_Same N D v v = some true
  | 0, d, v, h, hd => by cases h; omega
  | D + 1, d, v, h, hd => by
    cases h with
    | mk v hk hi h =>
      rename_i d
      rw [ref14_Same]
      simp only [joinK_eq, bne_self_eq_false, Bool.false_eq_true, if_false, beq_self_eq_true, if_true]
      rw [grdS hi]
      refine same_loop1 v _ _ ?_ v.items [] rfl fun x hx => same_refl D d x (h x hx) (by omega)
      rw [grdS hk]
      exact same_loop2 v _ rfl v.keys [] rfl
end
end Go.VM
