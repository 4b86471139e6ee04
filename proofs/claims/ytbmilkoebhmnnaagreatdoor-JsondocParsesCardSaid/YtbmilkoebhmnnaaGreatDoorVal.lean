/- JSON values: bounds, members, sameness. -/
import Derived.Test.YtbmilkoebhmnnaaGreatDoorDefs
import Derived.Test.YtbmilkoebhmnnaaGreatDoorOk
set_option linter.unusedVariables false
set_option linter.unusedSimpArgs false
namespace Go.VM
def zeroV : ApiValue := ApiValue.mk 0 [] [] []
def getL : List (List UInt8) → List ApiValue → List UInt8 → ApiValue × Bool
  | k :: ks, x :: xs, key => if k == key then (x, true) else getL ks xs key
  | _, _, _ => (zeroV, false)
def getJ (v : ApiValue) (key : List UInt8) : ApiValue × Bool := if v.kind == 7 then getL v.keys v.items key else (zeroV, false)
/-- a value nested less than d times, its parts within bounds -/
inductive okW : Nat → ApiValue → Prop
  | mk {d : Nat} (v : ApiValue) (ht : v.text.length ≤ 300) (hk : v.keys.length ≤ 910) (hl : ∀ k, k ∈ v.keys → k.length ≤ 300) (hi : v.items.length ≤ 900) (h : ∀ x, x ∈ v.items → okW d x) : okW (d + 1) v
section
variable {N : Nat}
theorem okW.text {d : Nat} {v : ApiValue} : okW d v → v.text.length ≤ 300 | .mk _ h _ _ _ _ => h
theorem okW.keys {d : Nat} {v : ApiValue} : okW d v → v.keys.length ≤ 910 | .mk _ _ h _ _ _ => h
theorem okW.items {d : Nat} {v : ApiValue} : okW d v → v.items.length ≤ 900 | .mk _ _ _ _ h _ => h
theorem okW.sub {d : Nat} {v : ApiValue} : okW (d + 1) v → ∀ x, x ∈ v.items → okW d x | .mk _ _ _ _ _ h => h
theorem okW.pos {d : Nat} {v : ApiValue} : okW d v → 0 < d | .mk _ _ _ _ _ _ => by omega
theorem okW.mono {d : Nat} {v : ApiValue} (h : okW d v) : ∀ e, d ≤ e → okW e v := by
  induction h with
  | mk v ht hk hl hi h ih =>
    intro e he
    obtain ⟨e', rfl⟩ : ∃ e', e = e' + 1 := ⟨e - 1, by omega⟩
    exact .mk v ht hk hl hi fun x hx => ih x hx e' (by omega)
theorem rget_none (v : ApiValue) (key : List UInt8) (k2 : Unit → Option (ApiValue × Bool)) : ∀ (ks : List (List UInt8)) (i : Int), (v.items.length : Int) ≤ i → ref14_Get_L1 N v key k2 ks i = k2 ()
  | [], i, h => by rw [ref14_Get_L1]
  | x :: ks, i, h => by
    have h3 : decide (i < (v.items.length : Int)) = false := by simp; omega
    rw [ref14_Get_L1, joinK_eq, h3, rget_none v key k2 ks (i + 1) (by omega)]
    simp
theorem rget_loop (v : ApiValue) (key : List UInt8) (k2 : Unit → Option (ApiValue × Bool)) (h5 : k2 () = some (zeroV, false)) : ∀ (ks : List (List UInt8)) (xs xpre : List ApiValue), v.items = xpre ++ xs →
    ref14_Get_L1 N v key k2 ks (xpre.length : Int) = some (getL ks xs key)
  | [], xs, xpre, hx => by
    rw [ref14_Get_L1]; simp [h5, getL]
  | x :: ks, [], xpre, hx => by
    have e : getL (x :: ks) [] key = (zeroV, false) := by simp [getL]
    rw [rget_none v key k2 _ _ (by rw [hx]; simp), h5, e]
  | x :: ks, y :: ys, xpre, hx => by
    have ih := rget_loop v key k2 h5 ks ys (xpre ++ [y]) (by rw [hx]; simp)
    rw [ref14_Get_L1, joinK_eq, lt_at hx, idx_at hx, Option.bind_some, len_snoc xpre y, ih, getL]
    cases x == key <;> simp
theorem rget_eq (v : ApiValue) (key : List UInt8) (hb : v.keys.length ≤ 4611686018427387904) : ref14_Get N v key = some (getJ v key) := by
  unfold ref14_Get getJ
  cases h : (v.kind == 7)
  · have : (v.kind != 7) = true := by simp only [bne, h, Bool.not_false]
    rw [if_pos this]; rfl
  · have : (v.kind != 7) = false := by simp only [bne, h, Bool.not_true]
    rw [this, if_neg (by simp), joinK_eq, grdS (by omega)]
    exact rget_loop (N := N) v key (fun _ => some (zeroV, false)) rfl v.keys v.items [] rfl
/-- how often a value is nested, and how long its lists are: enough for the comparison to end -/
inductive okD : Nat → ApiValue → Prop
  | mk {d : Nat} (v : ApiValue) (hk : v.keys.length ≤ 4611686018427387904) (hi : v.items.length ≤ 4611686018427387904) (h : ∀ x, x ∈ v.items → okD d x) : okD (d + 1) v
theorem okW.d {d : Nat} {v : ApiValue} (h : okW d v) : okD d v := by
  induction h with
  | mk v ht hk hl hi h ih => exact .mk v (by omega) (by omega) ih
theorem same_loop2 (v : ApiValue) (k14 : Unit → Option Bool) (h : k14 () = some true) : ∀ (suf pre : List (List UInt8)), v.keys = pre ++ suf → ref14_Same_L2 N v k14 suf (pre.length : Int) = some true
  | [], _, _ => by rw [ref14_Same_L2]; exact h
  | x :: suf, pre, e => by
    rw [ref14_Same_L2, idx_at e, Option.bind_some, if_pos (by simp), len_snoc pre x]
    exact same_loop2 v k14 h suf (pre ++ [x]) (by rw [e]; simp)
theorem same_loop1 (v : ApiValue) (rc : ApiValue → ApiValue → Option Bool) (k6 : Unit → Option Bool) (h : k6 () = some true) : ∀ (suf pre : List ApiValue), v.items = pre ++ suf → (∀ x, x ∈ suf → rc x x = some true) → ref14_Same_L1 N v rc k6 suf (pre.length : Int) = some true
  | [], _, _, _ => by rw [ref14_Same_L1]; exact h
  | x :: suf, pre, e, hr => by
    rw [ref14_Same_L1, idx_at e, Option.bind_some, hr x (by simp), Option.bind_some, if_pos rfl, len_snoc pre x]
    exact same_loop1 v rc k6 h suf (pre ++ [x]) (by rw [e]; simp) fun y hy => hr y (by simp [hy])
theorem same_refl : ∀ (D d : Nat) (v : ApiValue), okD d v → d ≤ D → ref14_Same N D v v = some true
  | 0, d, v, h, hd => by cases h; omega
  | D + 1, d, v, h, hd => by
    cases h with
    | mk v hk hi h =>
      rename_i d
      rw [ref14_Same]
      simp only [joinK_eq, bne_self_eq_false, Bool.false_eq_true, if_false, beq_self_eq_true, if_true]
      rw [grdS hi]
      refine same_loop1 v _ _ ?_ v.items [] rfl fun x hx => same_refl D d x (h x hx) (by omega)
      rw [grdS hk]
      exact same_loop2 v _ rfl v.keys [] rfl
end
end Go.VM
