import Derived.Test.YtbmilkoebhmnnaaDoorL1
set_option linter.unusedVariables false
set_option linter.unusedSimpArgs false
namespace Go.VM
section
variable {N : Nat}
def Gz : List UInt8 → Option Nat
  | x :: y :: a :: b :: c :: d :: _ => if x = 92 ∧ y = 117 ∧ [a, b, c, d].all Jj = true then some (UK 0 [a, b, c, d]) else none
  | _ => none
theorem OY {t : List UInt8} (h : t.length < 6) : Gz t = none := by
  match t, h with
  | [], _ => rfl
  | [_], _ => rfl
  | [_, _], _ => rfl
  | [_, _, _], _ => rfl
  | [_, _, _, _], _ => rfl
  | [_, _, _, _, _], _ => rfl
  | _ :: _ :: _ :: _ :: _ :: _ :: _, h => simp at h; omega
theorem six {t : List UInt8} (h : ¬ t.length < 6) : ∃ x y a b c d r, t = x :: y :: a :: b :: c :: d :: r := by
  match t, h with
  | x :: y :: a :: b :: c :: d :: r, _ => exact ⟨x, y, a, b, c, d, r, rfl⟩
  | [], h => simp at h
  | [_], h => simp at h
  | [_, _], h => simp at h
  | [_, _, _], h => simp at h
  | [_, _, _, _], h => simp at h
  | [_, _, _, _, _], h => simp at h
theorem AEy (l : List UInt8) : (ABn l).2 = if l.all Jj = true then 0 else 1 := by unfold ABn; split <;> rfl
theorem AFF (l : List UInt8) : (ABn l).1 = if l.all Jj = true then ((UK 0 l : Nat) : Int) else 0 := by unfold ABn; split <;> rfl
theorem YS {l t : List UInt8} {i : Nat} (ht : l.drop i = t) (hi : i ≤ l.length) (hb : l.length ≤ 2 ^ 50) :
    Dc N ⟨l, (i : Int)⟩ = some (match Gz t with | some n => ((n : Int), true, ⟨l, ((i + 6 : Nat) : Int)⟩) | none => (0, false, ⟨l, (i : Int)⟩)) := by
  have hl := CL ht hi
  unfold Dc
  have w6 : wr .i64 ((i : Int) + 6) = ((i + 6 : Nat) : Int) := by rw [A8 (by omega)]; simp
  have w2 : wr .i64 ((i : Int) + 2) = ((i + 2 : Nat) : Int) := by rw [A8 (by omega)]; simp
  have w0 : wr .i64 ((l.length : Int) - (i : Int)) = ((t.length : Nat) : Int) := by rw [A8 (by omega)]; omega
  simp only [AO, w6, w2, w0]
  by_cases h6 : t.length < 6
  · have : ((t.length : Nat) : Int) < 6 := by omega
    simp only [this, decide_true, if_true, OY h6]
  · have c0 : ¬ ((t.length : Nat) : Int) < 6 := by omega
    simp only [c0, decide_false, Bool.false_eq_true, if_false]
    obtain ⟨x, y, a, b, c, d, r, rfl⟩ := six h6
    have hl' : l.length = i + 6 + r.length := by rw [hl]; simp only [List.length_cons]; omega
    rw [Df l i (i + 2) (by omega) (by omega), Option.bind_some, Df l (i + 2) (i + 6) (by omega) (by omega), Option.bind_some]
    have e : (l.drop (i + 2)).take (i + 6 - (i + 2)) = [a, b, c, d] := by
      rw [← List.drop_drop, ht, show i + 6 - (i + 2) = 4 by omega]; rfl
    have e2 : (l.drop i).take (i + 2 - i) = [x, y] := by
      rw [ht, show i + 2 - i = 2 by omega]; rfl
    rw [e, e2, ADX _ (by simp) (by simp), Option.bind_some]
    unfold Gz
    by_cases k1 : x = 92 ∧ y = 117
    · obtain ⟨rfl, rfl⟩ := k1
      rw [show (!(([92, 117] : List UInt8) == [92, 117])) = false from rfl]
      simp only [Bool.false_eq_true, if_false, true_and]
      rw [AEy, AFF]
      by_cases k3 : [a, b, c, d].all Jj = true
      · have := PD [a, b, c, d] 0 k3
        simp only [k3, if_true]
        rw [FN (by simp at this; omega)]; rfl
      · simp only [k3, if_false, Bool.false_eq_true]; rfl
    · have k1' : (!(([x, y] : List UInt8) == [92, 117])) = true := by
        have : ([x, y] : List UInt8) ≠ [92, 117] := fun e => k1 (by simpa using e)
        simp only [Bool.not_eq_true', beq_eq_false_iff_ne]; exact this
      have k4 : ¬ (x = 92 ∧ y = 117 ∧ [a, b, c, d].all Jj = true) := fun h => k1 ⟨h.1, h.2.1⟩
      simp only [k1', if_true, k4, if_false]
theorem Mk {t : List UInt8} {n : Nat} (h : Gz t = some n) : n < 65536 ∧ 6 ≤ t.length ∧ ∃ r, t = 92 :: 117 :: r := by
  by_cases h6 : t.length < 6
  · rw [OY h6] at h; cases h
  · obtain ⟨x, y, a, b, c, d, r, rfl⟩ := six h6
    simp only [Gz] at h
    by_cases hc : x = 92 ∧ y = 117 ∧ [a, b, c, d].all Jj = true
    · rw [if_pos hc] at h
      simp only [Option.some.injEq] at h; subst h
      have := PD [a, b, c, d] 0 hc.2.2
      obtain ⟨rfl, rfl, _⟩ := hc
      exact ⟨by simpa using this, by simp, _, rfl⟩
    · rw [if_neg hc] at h; cases h
def KY (n : Nat) : Option UInt8 :=
  if n = 34 then some 34 else if n = 92 then some 92 else if n = 47 then some 47 else if n = 98 then some 8 else if n = 102 then some 12 else if n = 110 then some 10 else if n = 114 then some 13 else if n = 116 then some 9 else none
def Q3 (hi lo : Nat) : Nat := 65536 + (hi - 55296) * 1024 + lo - 56320
def Ic (t : List UInt8) : List UInt8 × Nat × Int :=
  match Gz t with
  | some hi =>
    if 55296 ≤ hi ∧ hi ≤ 56319 then
      match Gz (t.drop 6) with
      | some lo => if 56320 ≤ lo ∧ lo ≤ 57343 then (KI (Q3 hi lo), 12, 0) else ([], 0, 7)
      | none => ([], 0, 7)
    else if 56320 ≤ hi ∧ hi ≤ 57343 then ([], 0, 7) else (KI hi, 6, 0)
  | none =>
    match t with
    | _ :: c :: _ => match KY c.toNat with | some b => ([b], 2, 0) | none => ([], 0, 130)
    | _ => ([], 0, 130)
theorem Zq {hi lo : Nat} (h1 : 55296 ≤ hi ∧ hi ≤ 56319) (h2 : 56320 ≤ lo ∧ lo ≤ 57343) : Bl ((Q3 hi lo : Nat) : Int) = true := by
  have h : 65536 ≤ Q3 hi lo ∧ Q3 hi lo ≤ 1114111 := by unfold Q3; omega
  generalize Q3 hi lo = n at h
  simp only [Bl, Bool.and_eq_true, Bool.or_eq_true, decide_eq_true_eq]; omega
theorem AI9 {hi lo : Nat} (h1 : 55296 ≤ hi ∧ hi ≤ 56319) (h2 : 56320 ≤ lo ∧ lo ≤ 57343) : wr .i64 (wr .i64 (wr .i64 (65536 + wr .i64 (wr .i64 ((hi : Int) - 55296) * 1024)) + (lo : Int)) - 56320) = ((Q3 hi lo : Nat) : Int) := by
  rw [A8 (n := (hi : Int) - 55296) (by omega), A8 (n := ((hi : Int) - 55296) * 1024) (by omega), A8 (n := 65536 + ((hi : Int) - 55296) * 1024) (by omega), A8 (n := 65536 + ((hi : Int) - 55296) * 1024 + (lo : Int)) (by omega), A8 (by omega)]
  unfold Q3; omega
def Kv (t : List UInt8) : List UInt8 × Nat × Int :=
  match t with
  | _ :: c :: _ => (match KY c.toNat with | some b => ([b], 2, 0) | none => ([], 0, 130))
  | _ => ([], 0, 130)
theorem NA {t : List UInt8} (h : Gz t = none) : Ic t = Kv t := by
  unfold Ic Kv; rw [h]
theorem NI {t : List UInt8} {hi : Nat} (h : Gz t = some hi) : Ic t = ((
    if 55296 ≤ hi ∧ hi ≤ 56319 then
      match Gz (t.drop 6) with
      | some lo => if 56320 ≤ lo ∧ lo ≤ 57343 then (KI (Q3 hi lo), 12, 0) else ([], 0, 7)
      | none => ([], 0, 7)
    else if 56320 ≤ hi ∧ hi ≤ 57343 then ([], 0, 7) else (KI hi, 6, 0)) : List UInt8 × Nat × Int) := by
  unfold Ic; rw [h]
theorem Sy {n : Nat} (h : Bl (n : Int) = true) : encR (n : Int) = (KI n, 0) := by unfold encR; rw [if_pos h]; rfl
theorem PG {n : Nat} (h : Bl (n : Int) = false) : encR (n : Int) = ([], 4) := by unfold encR; rw [if_neg (by rw [h]; decide)]
theorem Zi {l t : List UInt8} {i : Nat} (ht : l.drop i = t) (hi : i ≤ l.length) (hb : l.length ≤ 2 ^ 50) (hN : 9 ≤ N) :
    ∃ q : TokenReader, Dq N ⟨l, (i : Int)⟩ = some ((Ic t).1, (Ic t).2.2, q) ∧ ((Ic t).2.2 = 0 → q = ⟨l, ((i + (Ic t).2.1 : Nat) : Int)⟩) := by
  have hl := CL ht hi
  unfold Dq
  rw [YS ht hi hb, Option.bind_some]
  cases hu : Gz t with
  | none =>
    have w1 : wr .i64 ((i : Int) + 1) = ((i + 1 : Nat) : Int) := by rw [A8 (by omega)]; simp
    rw [NA hu]
    simp only [Bool.false_eq_true, if_false, w1, AO]
    unfold FU
    match t, ht, hl with
    | [], ht, hl =>
      simp only [List.length_nil] at hl
      have c : ¬ ((i + 1 : Nat) : Int) < (l.length : Int) := by omega
      have c' : ((i + 1 : Nat) : Int) ≥ (l.length : Int) := by omega
      simp only [c, decide_false, Bool.false_eq_true, if_false, Option.bind_some]
      simp only [strings_IndexByte, Ae, Option.bind_some, c', decide_true, if_true]
      exact ⟨_, rfl, fun h => by cases h⟩
    | [_], ht, hl =>
      simp only [List.length_nil, List.length_cons] at hl
      have c : ¬ ((i + 1 : Nat) : Int) < (l.length : Int) := by omega
      have c' : ((i + 1 : Nat) : Int) ≥ (l.length : Int) := by omega
      simp only [c, decide_false, Bool.false_eq_true, if_false, Option.bind_some]
      simp only [strings_IndexByte, Ae, Option.bind_some, c', decide_true, if_true]
      exact ⟨_, rfl, fun h => by cases h⟩
    | x :: c :: r, ht, hl =>
      simp only [List.length_cons] at hl
      have d : ((i + 1 : Nat) : Int) < (l.length : Int) := by omega
      have d' : ¬ ((i + 1 : Nat) : Int) ≥ (l.length : Int) := by omega
      have hc := MG (j := 1) ht rfl
      have w2 : wr .i64 (((i + 1 : Nat) : Int) + 1) = ((i + 2 : Nat) : Int) := by rw [A8 (by omega)]; omega
      simp only [d, decide_true, if_true]
      rw [hc, Option.bind_some, Option.bind_some]
      simp only [strings_IndexByte, Ae, Option.bind_some, d', decide_false, Bool.false_eq_true, if_false, IV, w2]
      have key := EA (f := fun n => if decide (Go.Lib.indexByte ([34, 92, 47, 98, 102, 110, 114, 116] : List UInt8) (UInt8.ofNat n) < 0) = true then none else sub ([34, 92, 47, 8, 12, 10, 13, 9] : List UInt8) (Go.Lib.indexByte [34, 92, 47, 98, 102, 110, 114, 116] (UInt8.ofNat n)) (wr .i64 (Go.Lib.indexByte [34, 92, 47, 98, 102, 110, 114, 116] (UInt8.ofNat n) + 1))) (g := fun n => (KY n).map fun b => [b]) (by kernel_rfl) c
      simp only [UInt8.ofNat_toNat] at key
      by_cases hneg : Go.Lib.indexByte ([34, 92, 47, 98, 102, 110, 114, 116] : List UInt8) c < 0
      · simp only [hneg, decide_true, if_true] at key ⊢
        have : KY c.toNat = none := by
          cases hs : KY c.toNat with
          | none => rfl
          | some b => rw [hs] at key; cases key
        simp only [Kv, this]
        exact ⟨_, rfl, fun h => by cases h⟩
      · simp only [hneg, decide_false, Bool.false_eq_true, if_false] at key ⊢
        cases hs : KY c.toNat with
        | none =>
          exfalso
          rw [hs] at key
          have f : ∀ c : UInt8, (if decide (Go.Lib.indexByte ([34, 92, 47, 98, 102, 110, 114, 116] : List UInt8) c < 0) = true then true else (KY c.toNat).isSome) = true := by
            intro c
            have := EA (f := fun n => if decide (Go.Lib.indexByte ([34, 92, 47, 98, 102, 110, 114, 116] : List UInt8) (UInt8.ofNat n) < 0) = true then true else (KY n).isSome) (g := fun n => true) (by kernel_rfl) c
            simpa only [UInt8.ofNat_toNat] using this
          have := f c
          simp only [hneg, decide_false, Bool.false_eq_true, if_false, hs] at this
          cases this
        | some b =>
          rw [hs] at key
          rw [key]
          simp only [Kv, hs, Option.map_some, Option.bind_some]
          exact ⟨_, rfl, fun _ => rfl⟩
  | some hi' =>
    obtain ⟨h1, h2, r, rfl⟩ := Mk hu
    rw [NI hu]
    simp only [if_true, AO]
    by_cases c1 : 55296 ≤ hi' ∧ hi' ≤ 56319
    · have d1 : (hi' : Int) ≥ 55296 := by omega
      have d2 : (hi' : Int) ≤ 56319 := by omega
      have hp : Bl (hi' : Int) = false := by
        have : ¬ Bl (hi' : Int) = true := by
          simp only [Bl, Bool.and_eq_true, Bool.or_eq_true, decide_eq_true_eq]; omega
        simpa using this
      simp only [c1, d1, d2, and_self, if_true, decide_true]
      rw [YS (t := (92 :: 117 :: r).drop 6) (by rw [← List.drop_drop, ht]) (by omega) hb, Option.bind_some]
      cases hu2 : Gz ((92 :: 117 :: r).drop 6) with
      | none =>
        simp only [Bool.false_eq_true, if_false]
        rw [Ih (by omega), PG hp]
        exact ⟨_, rfl, fun h => by cases h⟩
      | some lo =>
        simp only [if_true]
        by_cases c2 : 56320 ≤ lo ∧ lo ≤ 57343
        · have e1 : (lo : Int) ≥ 56320 := by omega
          have e2 : (lo : Int) ≤ 57343 := by omega
          simp only [e1, e2, c2, and_self, if_true, decide_true]
          rw [AI9 c1 c2, Ih (by omega), Sy (Zq c1 c2)]
          simp only [Option.bind_some, bne_self_eq_false, Bool.false_eq_true, if_false, show i + 6 + 6 = i + 12 by omega]
          exact ⟨_, rfl, fun _ => rfl⟩
        · by_cases c3 : (lo : Int) ≥ 56320
          · have e2 : ¬ (lo : Int) ≤ 57343 := by omega
            simp only [c3, e2, decide_true, decide_false, Bool.false_eq_true, if_false, if_true, c2]
            rw [Ih (by omega), PG hp]
            exact ⟨_, rfl, fun h => by cases h⟩
          · simp only [c3, decide_false, Bool.false_eq_true, if_false, c2]
            rw [Ih (by omega), PG hp]
            exact ⟨_, rfl, fun h => by cases h⟩
    · rw [if_neg c1]
      have hk : (if decide ((hi' : Int) ≥ 55296) = true then decide ((hi' : Int) ≤ 56319) else false) = false := by
        by_cases c : (hi' : Int) ≥ 55296
        · have : ¬ (hi' : Int) ≤ 56319 := by omega
          simp [c, this]
        · simp [c]
      by_cases c2 : 56320 ≤ hi' ∧ hi' ≤ 57343
      · rw [if_pos c2]
        have hp : Bl (hi' : Int) = false := by
          have : ¬ Bl (hi' : Int) = true := by
            simp only [Bl, Bool.and_eq_true, Bool.or_eq_true, decide_eq_true_eq]; omega
          simpa using this
        have d1 : (hi' : Int) ≥ 55296 := by omega
        have d2 : ¬ (hi' : Int) ≤ 56319 := by omega
        simp only [d1, d2, decide_true, decide_false, Bool.false_eq_true, if_true, if_false]
        rw [Ih (by omega), PG hp]
        exact ⟨_, rfl, fun h => by cases h⟩
      · rw [if_neg c2]
        have hp : Bl (hi' : Int) = true := by
          simp only [Bl, Bool.and_eq_true, Bool.or_eq_true, decide_eq_true_eq]; omega
        by_cases c3 : (hi' : Int) ≥ 55296
        · have d2 : ¬ (hi' : Int) ≤ 56319 := by omega
          simp only [c3, d2, decide_true, decide_false, Bool.false_eq_true, if_true, if_false]
          rw [Ih (by omega), Sy hp]
          exact ⟨_, rfl, fun _ => rfl⟩
        · simp only [c3, decide_false, Bool.false_eq_true, if_false]
          rw [Ih (by omega), Sy hp]
          exact ⟨_, rfl, fun _ => rfl⟩
end
end Go.VM
namespace Go.VM
section
variable {N : Nat}
theorem Qd {t : List UInt8} {r n : Nat} (h : IC t = some (r, n)) : 1 ≤ n ∧ n ≤ t.length ∧ n ≤ 4 := by
  match t, h with
  | [], h => cases h
  | a :: t, h =>
    simp only [IC] at h
    split at h
    · simp only [Option.some.injEq, Prod.mk.injEq] at h; obtain ⟨_, rfl⟩ := h; simp
    · split at h
      · match t, h with
        | [], h => cases h
        | b :: t, h =>
          simp only at h
          split at h
          · simp only [Option.some.injEq, Prod.mk.injEq] at h; obtain ⟨_, rfl⟩ := h; simp
          · cases h
      · split at h
        · match t, h with
          | [], h => cases h
          | [_], h => cases h
          | b :: c :: t, h =>
            simp only at h
            split at h
            · simp only [Option.some.injEq, Prod.mk.injEq] at h; obtain ⟨_, rfl⟩ := h; simp
            · cases h
        · split at h
          · match t, h with
            | [], h => cases h
            | [_], h => cases h
            | [_, _], h => cases h
            | b :: c :: d :: t, h =>
              simp only at h
              split at h
              · simp only [Option.some.injEq, Prod.mk.injEq] at h; obtain ⟨_, rfl⟩ := h; simp
              · cases h
          · cases h
theorem YF (r : Nat) : 1 ≤ (KI r).length ∧ (KI r).length ≤ 4 := by
  unfold KI
  split
  · simp
  · split
    · simp
    · split <;> simp
theorem AFC {t : List UInt8} (h : (Ic t).2.2 = 0) : 2 ≤ (Ic t).2.1 ∧ (Ic t).2.1 ≤ t.length ∧ (Ic t).1.length ≤ 4 ∧ (Ic t).1.length ≤ (Ic t).2.1 := by
  cases hu : Gz t with
  | none =>
    rw [NA hu] at h ⊢
    match t, h with
    | [], h => cases h
    | [_], h => cases h
    | _ :: c :: r, h =>
      simp only [Kv] at h ⊢
      cases hs : KY c.toNat with
      | none => rw [hs] at h; cases h
      | some b => simp
  | some hi =>
    obtain ⟨h1, h2, _⟩ := Mk hu
    rw [NI hu] at h ⊢
    by_cases c1 : 55296 ≤ hi ∧ hi ≤ 56319
    · simp only [c1, and_self, if_true] at h ⊢
      cases hu2 : Gz (t.drop 6) with
      | none => rw [hu2] at h; cases h
      | some lo =>
        obtain ⟨_, h3, _⟩ := Mk hu2
        rw [hu2] at h
        simp only at h ⊢
        by_cases c2 : 56320 ≤ lo ∧ lo ≤ 57343
        · simp only [c2, and_self, if_true] at h ⊢
          have := YF (Q3 hi lo)
          rw [List.length_drop] at h3
          exact ⟨by omega, by omega, by omega, by omega⟩
        · rw [if_neg c2] at h; cases h
    · rw [if_neg c1] at h ⊢
      by_cases c2 : 56320 ≤ hi ∧ hi ≤ 57343
      · rw [if_pos c2] at h; cases h
      · rw [if_neg c2]
        have := YF hi
        exact ⟨by simp, by simpa using h2, by simpa using this.2, by simp only []; omega⟩
def Dn : Nat → List UInt8 → Nat → List UInt8 → List UInt8 × Nat × Int
  | 0, _, _, _ => ([], 0, 130)
  | _ + 1, [], _, _ => ([], 0, 130)
  | k + 1, c :: t, i, out =>
    if c.toNat = 34 then (out, i + 1, 0)
    else if c.toNat = 92 then
      if (Ic (c :: t)).2.2 = 0 then Dn k ((c :: t).drop (Ic (c :: t)).2.1) (i + (Ic (c :: t)).2.1) (out ++ (Ic (c :: t)).1)
      else ([], 0, (Ic (c :: t)).2.2)
    else if c.toNat < 32 then ([], 0, 130)
    else
      match IC (c :: t) with
      | some (_, n) => Dn k ((c :: t).drop n) (i + n) (out ++ (c :: t).take n)
      | none => ([], 0, 7)
def outT (r : List UInt8 × Nat × Int) : List UInt8 × Int × Int := if r.2.2 = 0 then (r.1, (r.2.1 : Int), 0) else ([], 0, r.2.2)
theorem QP {n : Nat} {k : Nat} : ((n : Int) == (k : Int)) = decide (n = k) := by
  by_cases h : n = k
  · simp [h]
  · have : ¬ (n : Int) = (k : Int) := by omega
    simp [h]; omega
theorem AKQ (c : UInt8) : (AP c == 34) = decide (c.toNat = 34) := QP (k := 34)
theorem AK3 (c : UInt8) : (AP c == 92) = decide (c.toNat = 92) := QP (k := 92)
theorem AK4 (c : UInt8) : decide (AP c < 32) = decide (c.toNat < 32) := by
  have := c.toNat_lt
  simp only [AP]; congr 1; simp only [eq_iff_iff]; omega
theorem QO {i r n : Nat} : Fz i (some (r, n)) = ((r : Int), ((i + n : Nat) : Int), 0) := rfl
theorem head_drop {l t : List UInt8} {c : UInt8} {i : Nat} (ht : l.drop i = c :: t) : idx l (i : Int) = some c := by
  have := MG (j := 0) ht rfl
  simpa using this
section
variable {l : List UInt8}
theorem Lx (hb : l.length ≤ 2 ^ 40) (hN : 9 ≤ N) (k2 : Bool × List UInt8 × List UInt8 × Int → Option (List UInt8 × Int × TokenReader)) (hk : ∀ q, ∃ q', k2 q = some ([], 130, q')) : ∀ (k : Nat) (t : List UInt8) (i : Nat) (ad : Bool) (out : List UInt8), l.drop i = t → i ≤ l.length → t.length < k → out.length ≤ i →
    ∃ q, BU N k2 k ad out l (i : Int) = some ((outT (Dn k t i out)).1, (outT (Dn k t i out)).2.2, q) ∧ ((Dn k t i out).2.2 = 0 → q = ⟨l, ((Dn k t i out).2.1 : Int)⟩)
  | 0, t, i, ad, out, ht, hi, h, ho => by omega
  | k + 1, [], i, ad, out, ht, hi, h, ho => by
    have hl := CL ht hi
    simp only [List.length_nil] at hl
    have c : ¬ (i : Int) < (l.length : Int) := by omega
    rw [BU, Dn]
    obtain ⟨q, hq⟩ := hk (ad, out, l, (i : Int))
    rw [if_neg (by simpa using c), hq]
    exact ⟨q, rfl, fun h => by cases h⟩
  | k + 1, c :: t, i, ad, out, ht, hi, h, ho => by
    have hl := CL ht hi
    simp only [List.length_cons] at hl h
    have c0 : (i : Int) < (l.length : Int) := by omega
    have w1 : wr .i64 ((i : Int) + 1) = ((i + 1 : Nat) : Int) := by rw [A8 (by omega)]; simp
    rw [BU, Dn]
    rw [if_pos (decide_eq_true c0), head_drop ht, Option.bind_some, AKQ, AK3, AK4, w1]
    have ws : ∀ x : List UInt8, x.length ≤ 4 → BZ N (StringsBuilder.mk ad out) x = some ((x.length : Int), (), StringsBuilder.mk true (out ++ x)) := by
      intro x hx
      unfold BZ DF
      cases ad <;> simp only [Bool.false_eq_true, if_false, if_true, Option.bind_some] <;> rw [AL (by unfold Bn; omega)]
    by_cases c1 : c.toNat = 34
    · rw [if_pos (decide_eq_true c1), if_pos c1]
      exact ⟨_, rfl, fun _ => rfl⟩
    · rw [if_neg (by simpa using c1), if_neg c1]
      by_cases c2 : c.toNat = 92
      · rw [if_pos (decide_eq_true c2), if_pos c2]
        obtain ⟨q, hq, hq0⟩ := Zi (N := N) ht hi (by omega) hN
        rw [hq, Option.bind_some]
        by_cases c3 : (Ic (c :: t)).2.2 = 0
        · obtain ⟨e1, e2, e3, e4⟩ := AFC c3
          rw [if_neg (by simpa using c3), ws _ e3, Option.bind_some, if_pos c3]
          rw [hq0 c3]
          simp only [List.length_cons] at e2
          exact Lx hb hN k2 hk k _ _ true _ (by rw [← List.drop_drop, ht]) (by omega) (by simp only [List.length_drop, List.length_cons]; omega) (by simp only [List.length_append]; omega)
        · rw [if_pos (by simpa using c3), if_neg c3]
          refine ⟨q, ?_, fun h => absurd h c3⟩
          unfold outT; rw [if_neg c3]
      · rw [if_neg (by simpa using c2), if_neg c2]
        by_cases c3 : c.toNat < 32
        · rw [if_pos (decide_eq_true c3), if_pos c3]
          exact ⟨_, rfl, fun h => by cases h⟩
        · rw [if_neg (by simpa using c3), if_neg c3]
          unfold FV
          simp only [AO]
          rw [AEj (by omega) (by omega) (by omega), Option.bind_some, ht]
          cases hd : IC (c :: t) with
          | none => exact ⟨_, rfl, fun h => by cases h⟩
          | some p =>
            obtain ⟨r, n⟩ := p
            obtain ⟨e1, e2, e3⟩ := Qd hd
            simp only [List.length_cons] at e2
            rw [QO, if_neg (by simp), Df l i (i + n) (by omega) (by omega), Option.bind_some, Nat.add_sub_cancel_left, ht, Option.bind_some]
            rw [if_neg (by simp), ws _ (by rw [List.length_take]; omega), Option.bind_some]
            exact Lx hb hN k2 hk k _ _ true _ (by rw [← List.drop_drop, ht]) (by omega) (by simp only [List.length_drop, List.length_cons]; omega) (by rw [List.length_append, List.length_take]; omega)
theorem AHf (hb : l.length ≤ 2 ^ 40) (hN : l.length + 9 ≤ N) {i : Nat} (hi : i < l.length) : ∃ q, EL N ⟨l, (i : Int)⟩ = some ((outT (Dn N (l.drop (i + 1)) (i + 1) [])).1, (outT (Dn N (l.drop (i + 1)) (i + 1) [])).2.2, q) ∧ ((Dn N (l.drop (i + 1)) (i + 1) []).2.2 = 0 → q = ⟨l, ((Dn N (l.drop (i + 1)) (i + 1) []).2.1 : Int)⟩) := by
  unfold EL
  rw [AO, A8 (by simp only []; omega)]
  exact Lx hb (by omega) _ (fun q => ⟨_, rfl⟩) N _ (i + 1) false [] rfl (by omega) (by rw [List.length_drop]; omega) (by simp)
end
end
end Go.VM
namespace Go.VM
section
variable {N : Nat}
theorem Lu {α : Type} (p : α → Bool) (t : List α) : t.take (t.takeWhile p).length = t.takeWhile p :=
  (List.prefix_iff_eq_take.1 (List.takeWhile_prefix p)).symm
theorem QX {α : Type} (p : α → Bool) (t : List α) : (t.takeWhile p).length ≤ t.length := (List.takeWhile_sublist p).length_le
def Cq (c : UInt8) : Bool := decide (48 ≤ c.toNat) && decide (c.toNat ≤ 57)
def AFP (n : Nat) : Bool := (decide (65 ≤ n) && decide (n ≤ 90)) || (decide (97 ≤ n) && decide (n ≤ 122))
def Bu (c : UInt8) : Bool := AFP c.toNat
def wsN (n : Nat) : Bool := decide (n = 32) || decide (n = 9) || decide (n = 10) || decide (n = 13)
def wsB (c : UInt8) : Bool := wsN c.toNat
theorem TQ (c : UInt8) : DL N (AP c) = some (Cq c) :=
  EA (f := fun n => DL N (n : Int)) (g := fun n => some (decide (48 ≤ n) && decide (n ≤ 57))) (by kernel_rfl) c
theorem AAm (c : UInt8) : FE N (AP c) = some (Cq c) :=
  EA (f := fun n => FE N (n : Int)) (g := fun n => some (decide (48 ≤ n) && decide (n ≤ 57))) (by kernel_rfl) c
theorem SS (c : UInt8) : FK N (AP c) = some (Bu c) :=
  EA (f := fun n => FK N (n : Int)) (g := fun n => some (AFP n)) (by kernel_rfl) c
theorem AI2 (c : UInt8) : Hz N (AP c) = some (wsB c) :=
  EA (f := fun n => Hz N (n : Int)) (g := fun n => some (wsN n)) (by kernel_rfl) c
theorem XW (c : UInt8) (k2 : Unit → Option Bool) (h : k2 () = some false) : ∀ l : List UInt8, Dv N (AP c) k2 l = some (l.contains c)
  | [] => by rw [Dv]; simpa using h
  | x :: l => by
    rw [Dv, XW c k2 h l, List.contains_cons]
    by_cases e : x = c
    · subst e; simp
    · have e1 : ¬ c = x := fun h => e h.symm
      have : (AP x == AP c) = false := by
        have : ¬ x.toNat = c.toNat := fun h => e (UInt8.toNat_inj.1 h)
        simp only [AP, beq_eq_false_iff_ne, ne_eq]; omega
      simp [this, e1]
theorem Ua (c : UInt8) (l : List UInt8) (h : l.length ≤ 1000) : Gt N (AP c) l = some (l.contains c) := by
  unfold Gt
  rw [AO, JC (by omega)]
  exact XW c _ rfl l
theorem index_ge : ∀ (l : List UInt8) (c : UInt8), decide (Go.Lib.indexByte l c ≥ 0) = l.contains c
  | [], c => rfl
  | x :: l, c => by
    have ih := index_ge l c
    have h := Go.Lib.indexByte_ge l c
    rw [Go.Lib.indexByte, List.contains_cons]
    by_cases e : x = c
    · subst e; simp
    · have e1 : (c == x) = false := by simpa using fun h : c = x => e h.symm
      have e2 : (x == c) = false := by simpa using e
      rw [e1, e2, Bool.false_or, ← ih]
      simp only [Bool.false_eq_true, if_false]
      by_cases k : Go.Lib.indexByte l c = -1
      · simp [k]
      · have k' : (Go.Lib.indexByte l c == -1) = false := by simpa using k
        rw [k']; simp only [Bool.false_eq_true, if_false]
        congr 1; simp only [eq_iff_iff]; omega
theorem Rf (l : List UInt8) (c : UInt8) : strings_IndexByte N l (AP c) = some (Go.Lib.indexByte l c) := by
  unfold strings_IndexByte Ae; rw [IV]; rfl
section
variable {l : List UInt8}
theorem Vy (hb : l.length ≤ 2 ^ 50) (s : Int) (k2 : Int → Option (List UInt8 × TokenReader)) : ∀ (t : List UInt8) (i : Nat), l.drop i = t → i ≤ l.length → AV N ⟨l, s⟩ k2 t.length (i : Int) = k2 ((i + (t.takeWhile Cq).length : Nat) : Int)
  | [], i, ht, hi => by rw [List.length_nil, AV]; rfl
  | c :: t, i, ht, hi => by
    have hl := CL ht hi
    simp only [List.length_cons] at hl
    rw [List.length_cons, AV]
    rw [head_drop ht, Option.bind_some, TQ, Option.bind_some, List.takeWhile_cons]
    cases Cq c
    · simp
    · rw [if_pos rfl, if_pos rfl, show (i : Int) + 1 = ((i + 1 : Nat) : Int) by simp, Vy hb s k2 t (i + 1) (by rw [← List.drop_drop, ht]; rfl) (by omega)]
      rw [List.length_cons]; congr 2; omega
theorem Xz (hb : l.length ≤ 2 ^ 50) (s : Int) (k2 : Int → Option (List UInt8 × TokenReader)) : ∀ (t : List UInt8) (i : Nat), l.drop i = t → i ≤ l.length → AU N ⟨l, s⟩ k2 t.length (i : Int) = k2 ((i + (t.takeWhile Bu).length : Nat) : Int)
  | [], i, ht, hi => by rw [List.length_nil, AU]; rfl
  | c :: t, i, ht, hi => by
    have hl := CL ht hi
    simp only [List.length_cons] at hl
    rw [List.length_cons, AU]
    rw [head_drop ht, Option.bind_some, SS, Option.bind_some, List.takeWhile_cons]
    cases Bu c
    · simp
    · rw [if_pos rfl, if_pos rfl, show (i : Int) + 1 = ((i + 1 : Nat) : Int) by simp, Xz hb s k2 t (i + 1) (by rw [← List.drop_drop, ht]; rfl) (by omega)]
      rw [List.length_cons]; congr 2; omega
theorem XT (hb : l.length ≤ 2 ^ 50) (s : Int) (k2 : Int → Option (List UInt8 × TokenReader)) : ∀ (t : List UInt8) (i : Nat), l.drop i = t → i ≤ l.length → Aa N ⟨l, s⟩ k2 t.length (i : Int) = k2 ((i + (t.takeWhile wsB).length : Nat) : Int)
  | [], i, ht, hi => by rw [List.length_nil, Aa]; rfl
  | c :: t, i, ht, hi => by
    have hl := CL ht hi
    simp only [List.length_cons] at hl
    rw [List.length_cons, Aa]
    rw [head_drop ht, Option.bind_some, AI2, Option.bind_some, List.takeWhile_cons]
    cases wsB c
    · simp
    · rw [if_pos rfl, if_pos rfl, show (i : Int) + 1 = ((i + 1 : Nat) : Int) by simp, XT hb s k2 t (i + 1) (by rw [← List.drop_drop, ht]; rfl) (by omega)]
      rw [List.length_cons]; congr 2; omega
variable {t : List UInt8} {i : Nat}
theorem Nt (p : UInt8 → Bool) (ht : l.drop i = t) (hi : i ≤ l.length) : sub l (i : Int) ((i + (t.takeWhile p).length : Nat) : Int) = some (t.takeWhile p) := by
  have hl := CL ht hi
  have := QX p t
  rw [Df l i _ (by omega) (by omega), Nat.add_sub_cancel_left, ht, Lu]
theorem ADq (ht : l.drop i = t) (hi : i ≤ l.length) (hb : l.length ≤ 2 ^ 50) : BB N ⟨l, (i : Int)⟩ = some (t.takeWhile Cq, ⟨l, ((i + (t.takeWhile Cq).length : Nat) : Int)⟩) := by
  have hl := CL ht hi
  unfold BB
  rw [AO, AL (by simp only []; omega)]
  rw [show ((l.length : Int) - (i : Int)).toNat = t.length by omega, Vy hb _ _ t i ht hi]
  simp only []
  rw [Nt Cq ht hi, Option.bind_some]
theorem AJL (ht : l.drop i = t) (hi : i ≤ l.length) (hb : l.length ≤ 2 ^ 50) : BA N ⟨l, (i : Int)⟩ = some (t.takeWhile Bu, ⟨l, ((i + (t.takeWhile Bu).length : Nat) : Int)⟩) := by
  have hl := CL ht hi
  unfold BA
  rw [AO, AL (by simp only []; omega)]
  rw [show ((l.length : Int) - (i : Int)).toNat = t.length by omega, Xz hb _ _ t i ht hi]
  simp only []
  rw [Nt Bu ht hi, Option.bind_some]
theorem AHh (ht : l.drop i = t) (hi : i ≤ l.length) (hb : l.length ≤ 2 ^ 50) : Bb N ⟨l, (i : Int)⟩ = some (t.takeWhile wsB, ⟨l, ((i + (t.takeWhile wsB).length : Nat) : Int)⟩) := by
  have hl := CL ht hi
  unfold Bb
  rw [AO, AL (by simp only []; omega)]
  rw [show ((l.length : Int) - (i : Int)).toNat = t.length by omega, XT hb _ _ t i ht hi]
  simp only []
  rw [Nt wsB ht hi, Option.bind_some]
def Bz (set t : List UInt8) : Bool := match t with | c :: _ => set.contains c | [] => false
theorem KN (set : List UInt8) (ht : l.drop i = t) (hi : i ≤ l.length) (hb : l.length ≤ 2 ^ 50) : A7 N ⟨l, (i : Int)⟩ set = some (Bz set t, ⟨l, ((i + (if Bz set t = true then 1 else 0) : Nat) : Int)⟩) := by
  have hl := CL ht hi
  unfold A7
  rw [AO]
  match t, ht, hl with
  | [], ht, hl =>
    simp only [List.length_nil] at hl
    have c : ¬ (i : Int) < (l.length : Int) := by omega
    rw [if_neg (by simpa using c)]; rfl
  | c :: t, ht, hl =>
    simp only [List.length_cons] at hl
    have c0 : (i : Int) < (l.length : Int) := by omega
    rw [if_pos (decide_eq_true c0)]
    simp only []
    rw [head_drop ht, Option.bind_some, Rf, Option.bind_some, index_ge, A8 (by omega)]
    have key : ∀ b : Bool, (if b = true then some (true, (⟨l, (i : Int) + 1⟩ : TokenReader)) else some (false, (⟨l, (i : Int)⟩ : TokenReader))) = some (b, (⟨l, ((i + (if b = true then 1 else 0) : Nat) : Int)⟩ : TokenReader)) := by
      intro b; cases b <;> simp
    exact key _
def DU (t : List UInt8) : Nat := (t.takeWhile Cq).length
theorem Jp (t : List UInt8) : DU t ≤ t.length := QX _ _
theorem Ru (t : List UInt8) : (t.takeWhile Cq == []) = decide (DU t = 0) := by
  unfold DU
  cases t.takeWhile Cq <;> simp
def AY (t : List UInt8) : Nat := if Bz [45] t = true then 1 else 0
def CY (t : List UInt8) : Nat := if Bz [48] t = true then 1 else DU t
def Dk (t : List UInt8) : Nat := if Bz [46] t = true ∧ 0 < DU (t.drop 1) then 1 + DU (t.drop 1) else 0
def F3 (t : List UInt8) : Nat := if Bz [43, 45] (t.drop 1) = true then 1 else 0
def IJ (t : List UInt8) : Nat := if Bz [101, 69] t = true ∧ 0 < DU (t.drop (1 + F3 t)) then 1 + F3 t + DU (t.drop (1 + F3 t)) else 0
def Ck (t : List UInt8) : Nat :=
  if CY (t.drop (AY t)) = 0 then 0
  else AY t + CY (t.drop (AY t)) + Dk (t.drop (AY t + CY (t.drop (AY t)))) +
    IJ (t.drop (AY t + CY (t.drop (AY t)) + Dk (t.drop (AY t + CY (t.drop (AY t))))))
theorem FL {set t : List UInt8} (h : Bz set t = true) : 0 < t.length := by
  cases t with
  | nil => cases h
  | cons => simp
theorem Mg (t : List UInt8) : AY t ≤ t.length := by
  unfold AY; split
  · rename_i h; exact FL h
  · omega
theorem Mm (t : List UInt8) : CY t ≤ t.length := by
  unfold CY; split
  · rename_i h; exact FL h
  · exact Jp t
theorem MW (t : List UInt8) : Dk t ≤ t.length := by
  unfold Dk; split
  · rename_i h
    have := FL h.1
    have := Jp (t.drop 1)
    rw [List.length_drop] at this; omega
  · omega
theorem Tu (t : List UInt8) : IJ t ≤ t.length := by
  unfold IJ; split
  · rename_i h
    have h1 := FL h.1
    have := Jp (t.drop (1 + F3 t))
    rw [List.length_drop] at this
    have h2 := h.2
    omega
  · omega
theorem AAd (t : List UInt8) : Ck t ≤ t.length := by
  unfold Ck
  split
  · omega
  · have h1 := Mg t
    have h2 := Mm (t.drop (AY t))
    have h3 := MW (t.drop (AY t + CY (t.drop (AY t))))
    have h4 := Tu (t.drop (AY t + CY (t.drop (AY t)) + Dk (t.drop (AY t + CY (t.drop (AY t))))))
    simp only [List.length_drop] at h2 h3 h4
    omega
theorem QQ {f : Int} (ht : l.drop i = t) (hi : i ≤ l.length) (hb : l.length ≤ 2 ^ 50) : Bc N ⟨l, (i : Int)⟩ f = some ⟨l, if 0 < DU t then ((i + DU t : Nat) : Int) else f⟩ := by
  unfold Bc
  rw [ADq ht hi hb, Option.bind_some]
  simp only [Ru]
  by_cases h : DU t = 0
  · rw [if_pos (decide_eq_true h), if_neg (by omega)]
  · rw [if_neg (by simpa using h), if_pos (by omega)]; rfl
theorem JW {a : Nat} (ht : l.drop i = t) (n : Nat) (h : a = i + n) : l.drop a = t.drop n := by rw [h, ← List.drop_drop, ht]
theorem Lr (ht : l.drop i = t) (hi : i ≤ l.length) (hb : l.length ≤ 2 ^ 50) :
    if Ck t = 0 then ∃ q, BF N ⟨l, (i : Int)⟩ = some ([], false, q) else BF N ⟨l, (i : Int)⟩ = some (t.take (Ck t), true, ⟨l, ((i + Ck t : Nat) : Int)⟩) := by
  have hl := CL ht hi
  have h1 := Mg t
  have h2 := Mm (t.drop (AY t))
  have h3 := MW (t.drop (AY t + CY (t.drop (AY t))))
  have h4 := Tu (t.drop (AY t + CY (t.drop (AY t)) + Dk (t.drop (AY t + CY (t.drop (AY t))))))
  simp only [List.length_drop] at h2 h3 h4
  unfold BF
  rw [KN [45] ht hi hb, Option.bind_some]
  change if Ck t = 0 then ∃ q, AR _ _ = some ([], false, q) else AR _ _ = _
  rw [show (if Bz [45] t = true then 1 else 0) = AY t from rfl]
  have hta := JW ht (AY t) rfl
  rw [KN [48] hta (by omega) hb]
  simp only [Option.bind_some]
  have rest : ∀ a : Nat, a = i + (AY t + CY (t.drop (AY t))) → CY (t.drop (AY t)) ≠ 0 →
      (AR (fun j11 : TokenReader => AR (fun j19 : TokenReader => Option.bind (sub j19.s (i : Int) j19.at_) fun x29 => some (x29, true, j19)) fun k20 =>
        Option.bind (A7 N j11 ([101, 69] : List UInt8)) fun y23 => if y23.1 = true then Option.bind (A7 N y23.2 ([43, 45] : List UInt8)) fun y25 => Option.bind (Bc N y25.2 j11.at_) fun y27 => k20 y27 else k20 y23.2) fun k12 =>
      Option.bind (A7 N ⟨l, (a : Int)⟩ ([46] : List UInt8)) fun y15 => if y15.1 = true then Option.bind (Bc N y15.2 (a : Int)) fun y17 => k12 y17 else k12 y15.2) = some (t.take (Ck t), true, (⟨l, ((i + Ck t : Nat) : Int)⟩ : TokenReader)) := by
    intro a ha hne
    have htb := JW ht (AY t + CY (t.drop (AY t))) ha
    have hnum : Ck t = AY t + CY (t.drop (AY t)) + Dk (t.drop (AY t + CY (t.drop (AY t)))) + IJ (t.drop (AY t + CY (t.drop (AY t)) + Dk (t.drop (AY t + CY (t.drop (AY t)))))) := by
      unfold Ck; rw [if_neg hne]
    have last : ∀ b : Nat, b = i + (AY t + CY (t.drop (AY t)) + Dk (t.drop (AY t + CY (t.drop (AY t))))) →
        (AR (fun j19 : TokenReader => Option.bind (sub j19.s (i : Int) j19.at_) fun x29 => some (x29, true, j19)) fun k20 =>
          Option.bind (A7 N ⟨l, (b : Int)⟩ ([101, 69] : List UInt8)) fun y23 => if y23.1 = true then Option.bind (A7 N y23.2 ([43, 45] : List UInt8)) fun y25 => Option.bind (Bc N y25.2 (b : Int)) fun y27 => k20 y27 else k20 y23.2) = some (t.take (Ck t), true, (⟨l, ((i + Ck t : Nat) : Int)⟩ : TokenReader)) := by
      intro b hb'
      have htc := JW ht _ hb'
      have fin : ∀ e : Nat, e = i + Ck t → (Option.bind (sub l (i : Int) (e : Int)) fun x29 => some (x29, true, (⟨l, (e : Int)⟩ : TokenReader))) = some (t.take (Ck t), true, (⟨l, ((i + Ck t : Nat) : Int)⟩ : TokenReader)) := by
        rintro e rfl
        have := AAd t
        rw [Df l i _ (by omega) (by omega), Option.bind_some, Nat.add_sub_cancel_left, ht]
      rw [AO, KN [101, 69] htc (by omega) hb, Option.bind_some]
      generalize hc : t.drop (AY t + CY (t.drop (AY t)) + Dk (t.drop (AY t + CY (t.drop (AY t))))) = c at *
      by_cases he : Bz [101, 69] c = true
      · have hpos := FL he
        have hcl : c.length = t.length - (AY t + CY (t.drop (AY t)) + Dk (t.drop (AY t + CY (t.drop (AY t))))) := by rw [← hc, List.length_drop]
        simp only [he, if_true]
        rw [KN [43, 45] (JW htc 1 rfl) (by omega) hb, Option.bind_some]
        rw [show (if Bz [43, 45] (c.drop 1) = true then 1 else 0) = F3 c from rfl]
        have hes : F3 c ≤ c.length - 1 := by
          unfold F3; split
          · rename_i h; have := FL h; rw [List.length_drop] at this; omega
          · omega
        rw [QQ (JW htc (1 + F3 c) (by omega)) (by omega) hb, Option.bind_some]
        by_cases hr : 0 < DU (c.drop (1 + F3 c))
        · rw [if_pos hr]
          refine fin _ ?_
          rw [hnum, show IJ c = 1 + F3 c + DU (c.drop (1 + F3 c)) by unfold IJ; rw [if_pos ⟨he, hr⟩]]
          omega
        · rw [if_neg hr]
          refine fin _ ?_
          rw [hnum, show IJ c = 0 by unfold IJ; rw [if_neg (fun h => hr h.2)]]
          omega
      · rw [Bool.not_eq_true] at he
        simp only [he, Bool.false_eq_true, if_false]
        refine fin _ ?_
        rw [hnum, show IJ c = 0 by unfold IJ; rw [if_neg (by rw [he]; simp)]]
        omega
    rw [AO, KN [46] htb (by omega) hb, Option.bind_some]
    generalize hc : t.drop (AY t + CY (t.drop (AY t))) = c at *
    by_cases he : Bz [46] c = true
    · have hpos := FL he
      have hcl : c.length = t.length - (AY t + CY (t.drop (AY t))) := by rw [← hc, List.length_drop]
      simp only [he, if_true]
      rw [QQ (JW htb 1 rfl) (by omega) hb, Option.bind_some]
      by_cases hr : 0 < DU (c.drop 1)
      · rw [if_pos hr]
        refine last _ ?_
        rw [show Dk c = 1 + DU (c.drop 1) by unfold Dk; rw [if_pos ⟨he, hr⟩]]
        omega
      · rw [if_neg hr]
        refine last _ ?_
        rw [show Dk c = 0 by unfold Dk; rw [if_neg (fun h => hr h.2)]]
        omega
    · rw [Bool.not_eq_true] at he
      simp only [he, Bool.false_eq_true, if_false]
      refine last _ ?_
      rw [show Dk c = 0 by unfold Dk; rw [if_neg (by rw [he]; simp)]]
      omega
  have hnz : Ck t = 0 ↔ CY (t.drop (AY t)) = 0 := by
    unfold Ck
    constructor
    · intro h; by_cases k : CY (t.drop (AY t)) = 0
      · exact k
      · rw [if_neg k] at h; omega
    · intro h; rw [if_pos h]
  by_cases h0 : Bz [48] (t.drop (AY t)) = true
  · have hin : CY (t.drop (AY t)) = 1 := by unfold CY; rw [if_pos h0]
    rw [if_neg (by rw [hnz, hin]; decide)]
    simp only [h0, if_true]
    rw [AO]
    simp only [Bool.false_eq_true, if_false]
    exact rest _ (by rw [hin]; omega) (by rw [hin]; decide)
  · have hin : CY (t.drop (AY t)) = DU (t.drop (AY t)) := by unfold CY; rw [if_neg h0]
    rw [Bool.not_eq_true] at h0
    simp only [h0, Bool.false_eq_true, if_false, Nat.add_zero]
    rw [ADq hta (by omega) hb]
    simp only [Option.bind_some, AO, Ru]
    by_cases hr : DU (t.drop (AY t)) = 0
    · rw [if_pos (by rw [hnz, hin]; exact hr)]
      simp only [hr, decide_true, if_true]
      exact ⟨_, rfl⟩
    · rw [if_neg (by rw [hnz, hin]; exact hr)]
      simp only [hr, decide_false, Bool.false_eq_true, if_false]
      have := rest (i + AY t + DU (t.drop (AY t))) (by rw [hin]; omega) (by rw [hin]; exact hr)
      simp only [AO] at this
      exact this
end
end
end Go.VM
namespace Go.VM
section
variable {N : Nat}
theorem BQ {α β : Type} {K : α → Option β} {body : (α → Option β) → Option β} {a : α} (h : ∀ k : α → Option β, body k = k a) : AR K body = K a := h K
theorem SK (l : List UInt8) (k2 : Int → Option Int) (hb : l.length ≤ 2 ^ 50) : ∀ (t : List UInt8) (i k : Nat), l.drop i = t → i ≤ l.length → t.length < k → EO N l k2 k (i : Int) = k2 ((i + DU t : Nat) : Int)
  | [], i, k + 1, ht, hi, _ => by
    have hl := CL ht hi
    simp only [List.length_nil] at hl
    have c : ¬ (i : Int) < (l.length : Int) := by omega
    rw [EO, AO, if_neg (by simpa using c)]
    dsimp only
    rw [if_neg (by decide)]; rfl
  | c :: t, i, k + 1, ht, hi, hk => by
    have hl := CL ht hi
    simp only [List.length_cons] at hl hk
    have c0 : (i : Int) < (l.length : Int) := by omega
    rw [EO, AO, if_pos (decide_eq_true c0), head_drop ht, Option.bind_some, AAm, Option.bind_some]
    unfold DU
    rw [List.takeWhile_cons]
    cases Cq c
    · simp
    · dsimp only
      rw [if_pos rfl, if_pos rfl, A8 (by omega), show (i : Int) + 1 = ((i + 1 : Nat) : Int) by simp, SK l k2 hb t (i + 1) k (by rw [← List.drop_drop, ht]; rfl) (by omega) (by omega)]
      rw [List.length_cons]; unfold DU; congr 2; omega
theorem AG6 (t : List UInt8) (hb : t.length ≤ 2 ^ 50) (hN : t.length < N) : GR N t = some ((DU t : Nat) : Int) := by
  unfold GR
  rw [AO]
  have := SK (N := N) t (fun j => some j) hb t 0 N (by simp) (by omega) hN
  simpa using this
theorem Pv (t : List UInt8) (i : Nat) : GJ N t (i : Int) = some (t.drop i) := by
  unfold GJ
  by_cases h : (i : Int) ≥ (t.length : Int)
  · rw [if_pos (decide_eq_true h), List.drop_of_length_le (by omega)]
  · rw [if_neg (by simpa using h), Df t i t.length (by omega) (by omega), Option.bind_some, List.take_of_length_le (by simp)]
theorem K4 {β : Type} (t : List UInt8) (i : Nat) (k : Bool → Option β) (f : UInt8 → Option β) (set : List UInt8) (hf : ∀ c r, t.drop i = c :: r → f c = k (set.contains c)) :
    (if decide ((i : Int) < (t.length : Int)) = true then Option.bind (idx t (i : Int)) f else k false) = k (Bz set (t.drop i)) := by
  by_cases hi : i ≤ t.length
  · obtain ⟨u, hu⟩ : ∃ u, t.drop i = u := ⟨_, rfl⟩
    have hl := CL hu hi
    rw [hu]
    cases u with
    | nil =>
      simp only [List.length_nil] at hl
      have c : ¬ (i : Int) < (t.length : Int) := by omega
      rw [if_neg (by simpa using c)]; rfl
    | cons c r =>
      simp only [List.length_cons] at hl
      have c0 : (i : Int) < (t.length : Int) := by omega
      rw [if_pos (decide_eq_true c0), head_drop hu, Option.bind_some, hf c r hu]; rfl
  · have c : ¬ (i : Int) < (t.length : Int) := by omega
    rw [if_neg (by simpa using c), List.drop_of_length_le (by omega)]; rfl
theorem MC (c : UInt8) (k : UInt8) : ([k] : List UInt8).contains c = decide (c.toNat = k.toNat) := by
  by_cases h : c = k
  · subst h; simp
  · have : ¬ c.toNat = k.toNat := fun e => h (UInt8.toNat_inj.1 e)
    simp [h, this]
theorem AEx (c : UInt8) : (AP c == 45) = ([45] : List UInt8).contains c := by rw [MC]; exact QP (k := 45)
theorem ALF (c : UInt8) : (AP c == 46) = ([46] : List UInt8).contains c := by rw [MC]; exact QP (k := 46)
theorem AKz (c : UInt8) : (AP c == 48) = ([48] : List UInt8).contains c := by rw [MC]; exact QP (k := 48)
theorem VT {t : List UInt8} : CY t = 0 ↔ (t = [] ∨ ∃ c r, t = c :: r ∧ Cq c = false) := by
  cases t with
  | nil => exact ⟨fun _ => .inl rfl, fun _ => rfl⟩
  | cons c r =>
    constructor
    · intro h
      refine .inr ⟨c, r, rfl, ?_⟩
      unfold CY at h
      split at h
      · cases h
      · unfold DU at h
        rw [List.takeWhile_cons] at h
        cases hd : Cq c
        · rfl
        · rw [hd] at h; simp at h
    · rintro (h | ⟨c', r', h, hd⟩)
      · cases h
      · cases h
        have h48 : Bz [48] (c :: r) = false := by
          show ([48] : List UInt8).contains c = false
          rw [MC]
          have : ¬ c.toNat = 48 := fun e => by simp [Cq, e] at hd
          simpa using this
        unfold CY; rw [h48, if_neg (by simp)]
        unfold DU; rw [List.takeWhile_cons, hd]; rfl
theorem Oh (t : List UInt8) (hb : t.length ≤ 2 ^ 50) (hN : t.length < N) : F6 N t = some ((Ck t : Nat) : Int) := by
  have h1 := Mg t
  have h2 := Mm (t.drop (AY t))
  have h3 := MW (t.drop (AY t + CY (t.drop (AY t))))
  have h4 := Tu (t.drop (AY t + CY (t.drop (AY t)) + Dk (t.drop (AY t + CY (t.drop (AY t))))))
  simp only [List.length_drop] at h2 h3 h4
  have run : ∀ n : Nat, GR N (t.drop n) = some ((DU (t.drop n) : Nat) : Int) := fun n => AG6 _ (by rw [List.length_drop]; omega) (by rw [List.length_drop]; omega)
  have wn : ∀ n : Nat, n ≤ 2 ^ 51 → wr .i64 (n : Int) = (n : Int) := fun n h => FN (by omega)
  have w1 : ∀ n : Nat, n ≤ 2 ^ 51 → wr .i64 ((n : Int) + 1) = ((n + 1 : Nat) : Int) := fun n h => by rw [A8 (by omega)]; simp
  have hsub : sub t (AY t : Int) (t.length : Int) = some (t.drop (AY t)) := by
    rw [Df t (AY t) t.length h1 (Nat.le_refl _), List.take_of_length_le (by simp)]
  have hs2 : AY t ≤ 1 := by unfold AY; split <;> omega
  unfold F6
  refine (BQ (a := ((AY t : Nat) : Int)) fun k2 => (BQ (a := Bz [45] t) fun k6 => ?_).trans ?_).trans ?_
  · have key := K4 t 0 k6 (fun x9 => k6 (AP x9 == 45)) [45] (fun c r _ => by rw [AEx])
    simpa using key
  · unfold AY
    cases Bz [45] t <;> rfl
  try dsimp only
  refine (BQ (a := decide (CY (t.drop (AY t)) = 0)) fun k11 => ?_).trans ?_
  · obtain ⟨u, hu⟩ : ∃ u, t.drop (AY t) = u := ⟨_, rfl⟩
    have hl := CL hu h1
    rw [hu]
    cases u with
    | nil =>
      simp only [List.length_nil] at hl
      rw [if_pos (by simp; omega)]; rfl
    | cons c r =>
      simp only [List.length_cons] at hl
      rw [if_neg (by simp; omega), head_drop hu, Option.bind_some, AAm, Option.bind_some]
      congr 1
      cases hd : Cq c
      · rw [decide_eq_true (VT.2 (.inr ⟨c, r, rfl, hd⟩))]; rfl
      · have : ¬ CY (c :: r) = 0 := fun h => by
          rcases VT.1 h with h | ⟨c', r', h, hd'⟩
          · cases h
          · cases h; rw [hd] at hd'; cases hd'
        rw [decide_eq_false this]; rfl
  try dsimp only
  by_cases hz : CY (t.drop (AY t)) = 0
  · rw [if_pos (decide_eq_true hz)]
    unfold Ck; rw [if_pos hz]; rfl
  rw [if_neg (by simpa using hz)]
  have hnum : Ck t = AY t + CY (t.drop (AY t)) + Dk (t.drop (AY t + CY (t.drop (AY t)))) + IJ (t.drop (AY t + CY (t.drop (AY t)) + Dk (t.drop (AY t + CY (t.drop (AY t)))))) := by
    unfold Ck; rw [if_neg hz]
  refine (BQ (a := ((AY t + CY (t.drop (AY t)) : Nat) : Int)) fun k18 => ?_).trans ?_
  · obtain ⟨u, hu⟩ : ∃ u, t.drop (AY t) = u := ⟨_, rfl⟩
    cases u with
    | nil => rw [hu] at hz; exact absurd rfl hz
    | cons c r =>
      rw [head_drop hu, Option.bind_some, AKz, hsub, Option.bind_some, run]
      rw [hu] at h2 ⊢
      rw [show ([48] : List UInt8).contains c = Bz [48] (c :: r) from rfl]
      unfold CY at h2 ⊢
      by_cases h0 : Bz [48] (c :: r) = true
      · rw [if_pos h0] at h2
        rw [if_pos h0, if_pos h0, w1 _ (by omega)]
      · rw [if_neg h0] at h2
        rw [if_neg h0, if_neg h0, Option.bind_some, A8 (by omega)]; congr 1
  try dsimp only
  rw [w1 _ (by omega), Pv]
  generalize hi' : AY t + CY (t.drop (AY t)) = i at *
  have hil : i ≤ t.length := by omega
  refine (BQ (a := ((i + Dk (t.drop i) : Nat) : Int)) fun k26 => ?_).trans ?_
  · rw [Option.bind_some, run, Option.bind_some]
    have hr := Jp (t.drop (i + 1))
    rw [List.length_drop] at hr
    refine (BQ (a := Bz [46] (t.drop i) && decide (0 < DU (t.drop (i + 1)))) fun k34 => ?_).trans ?_
    · refine (K4 t i (fun b => k34 (b && decide (0 < DU (t.drop (i + 1))))) _ [46] (fun c r _ => ?_)).trans rfl
      rw [ALF]
      cases ([46] : List UInt8).contains c
      · rfl
      · rw [if_pos rfl]; congr 1; rw [Bool.true_and]; congr 1; simp only [eq_iff_iff]; omega
    try dsimp only
    unfold Dk
    rw [List.drop_drop]
    by_cases hc : Bz [46] (t.drop i) = true ∧ 0 < DU (t.drop (i + 1))
    · rw [if_pos (by simpa using hc), if_pos hc, A8 (n := 1 + _) (by omega), A8 (by omega)]; congr 1
    · rw [if_neg (by simpa using hc), if_neg hc]; rfl
  try dsimp only
  generalize hj : i + Dk (t.drop i) = j at *
  have hjl : j ≤ t.length := by omega
  rw [w1 _ (by omega)]
  refine (BQ (a := ((j + IJ (t.drop j) : Nat) : Int)) fun k39 => ?_).trans ?_
  · refine (BQ (a := Bz [101, 69] (t.drop j)) fun k43 => K4 t j k43 _ [101, 69] (fun c r _ => by rw [Ua _ _ (by decide), Option.bind_some])).trans ?_
    try dsimp only
    by_cases he : Bz [101, 69] (t.drop j) = true
    · rw [if_pos he]
      have hpos := FL he
      rw [List.length_drop] at hpos
      have hes : F3 (t.drop j) ≤ t.length - j - 1 := by
        unfold F3; split
        · rename_i h
          have := FL h
          simp only [List.length_drop] at this; omega
        · omega
      refine (BQ (a := ((j + (1 + F3 (t.drop j)) : Nat) : Int)) fun k50 => (BQ (a := Bz [43, 45] (t.drop (j + 1))) fun k54 => K4 t (j + 1) k54 _ [43, 45] (fun c r _ => by rw [Ua _ _ (by decide), Option.bind_some])).trans ?_).trans ?_
      · try dsimp only
        unfold F3
        rw [List.drop_drop]
        by_cases h : Bz [43, 45] (t.drop (j + 1)) = true
        · rw [if_pos h, if_pos h, w1 _ (by omega)]
        · rw [if_neg h, if_neg h]
      try dsimp only
      rw [Pv, Option.bind_some, run, Option.bind_some]
      have hr := Jp (t.drop (j + (1 + F3 (t.drop j))))
      rw [List.length_drop] at hr
      have hex : IJ (t.drop j) = if 0 < DU (t.drop (j + (1 + F3 (t.drop j)))) then 1 + F3 (t.drop j) + DU (t.drop (j + (1 + F3 (t.drop j)))) else 0 := by
        unfold IJ
        rw [List.drop_drop]
        by_cases h : 0 < DU (t.drop (j + (1 + F3 (t.drop j))))
        · rw [if_pos ⟨he, h⟩, if_pos h]
        · rw [if_neg (fun k => h k.2), if_neg h]
      rw [hex]
      by_cases h : 0 < DU (t.drop (j + (1 + F3 (t.drop j))))
      · rw [if_pos (by simp; omega), if_pos h, A8 (by omega)]; congr 1; omega
      · rw [if_neg (by simp; omega), if_neg h]; rfl
    · rw [if_neg he, show IJ (t.drop j) = 0 by unfold IJ; rw [if_neg (fun k => he k.1)]]; rfl
  try dsimp only
  rw [hnum]
end
end Go.VM
namespace Go.VM
section
variable {N : Nat}
def J6 : List UInt8 := [123, 125, 91, 93, 58, 44]
def isWord (w : List UInt8) : Bool := w == [116, 114, 117, 101] || (w == [102, 97, 108, 115, 101] || w == [110, 117, 108, 108])
def JV (e : Int) : ApiToken × Int × Int := (ApiToken.mk 0 [] 0, 0, e)
def LA (N : Nat) (p : Nat) (t : List UInt8) : ApiToken × Int × Int :=
  match t with
  | [] => (ApiToken.mk 1 [] p, p, 0)
  | c :: r =>
    if J6.contains c = true then (ApiToken.mk 2 [c] p, ((p + 1 : Nat) : Int), 0)
    else if c.toNat = 34 then
      if (Dn N r (p + 1) []).2.2 = 0 then (ApiToken.mk 3 (Dn N r (p + 1) []).1 p, ((Dn N r (p + 1) []).2.1 : Int), 0) else JV (Dn N r (p + 1) []).2.2
    else if (([45] : List UInt8).contains c || Cq c) = true then
      if Ck (c :: r) = 0 then JV 130 else (ApiToken.mk 4 ((c :: r).take (Ck (c :: r))) p, ((p + Ck (c :: r) : Nat) : Int), 0)
    else if isWord ((c :: r).takeWhile Bu) = true then (ApiToken.mk 5 ((c :: r).takeWhile Bu) p, ((p + ((c :: r).takeWhile Bu).length : Nat) : Int), 0)
    else JV 130
theorem JP (N p : Nat) (c : UInt8) (r : List UInt8) : LA N p (c :: r) = (
  if J6.contains c = true then (ApiToken.mk 2 [c] p, ((p + 1 : Nat) : Int), 0)
  else if c.toNat = 34 then
    if (Dn N r (p + 1) []).2.2 = 0 then (ApiToken.mk 3 (Dn N r (p + 1) []).1 p, ((Dn N r (p + 1) []).2.1 : Int), 0) else JV (Dn N r (p + 1) []).2.2
  else if (([45] : List UInt8).contains c || Cq c) = true then
    if Ck (c :: r) = 0 then JV 130 else (ApiToken.mk 4 ((c :: r).take (Ck (c :: r))) p, ((p + Ck (c :: r) : Nat) : Int), 0)
  else if isWord ((c :: r).takeWhile Bu) = true then (ApiToken.mk 5 ((c :: r).takeWhile Bu) p, ((p + ((c :: r).takeWhile Bu).length : Nat) : Int), 0)
  else JV 130) := rfl
def J7 (N : Nat) (l : List UInt8) (i : Nat) : ApiToken × Int × Int :=
  LA N (i + ((l.drop i).takeWhile wsB).length) (l.drop (i + ((l.drop i).takeWhile wsB).length))
theorem Zo (c : UInt8) (h : J6.contains c = true) : NC (AP c) = [c] := by
  have := EA (f := fun n => if J6.contains (UInt8.ofNat n) = true then NC (n : Int) else []) (g := fun n => if J6.contains (UInt8.ofNat n) = true then [UInt8.ofNat n] else []) (by kernel_rfl) c
  simp only [UInt8.ofNat_toNat, h, if_true] at this
  exact this
section
variable {l t : List UInt8} {i p : Nat}
theorem AAH {β : Type} (w : List UInt8) (k : Bool → Option β) : (if (w == ([116, 114, 117, 101] : List UInt8)) = true then k true else if (w == ([102, 97, 108, 115, 101] : List UInt8)) = true then k true else k (w == ([110, 117, 108, 108] : List UInt8))) = k (isWord w) := by
  unfold isWord
  cases w == ([116, 114, 117, 101] : List UInt8) <;> cases w == ([102, 97, 108, 115, 101] : List UInt8) <;> rfl
theorem Zn {c : UInt8} {r : List UInt8} (h : isWord ((c :: r).takeWhile Bu) = true) : Bu c = true := by
  cases ha : Bu c
  · rw [List.takeWhile_cons, ha] at h
    rw [if_neg (by decide)] at h; exact absurd h (by decide)
  · rfl
theorem ACn (ht : l.drop p = t) (hp : p ≤ l.length) (hb : l.length ≤ 2 ^ 40) (hN : l.length + 10 ≤ N) :
    ∃ q k x, Dz N ⟨l, (p : Int)⟩ = some (k, x, (LA N p t).2.2, q) ∧ ((LA N p t).2.2 = 0 → (LA N p t) = (ApiToken.mk k x p, q.at_, 0)) := by
  have hl := CL ht hp
  unfold Dz
  match t, ht, hl with
  | [], ht, hl =>
    simp only [List.length_nil] at hl
    rw [if_pos (by simp; omega)]
    exact ⟨_, _, _, rfl, fun _ => rfl⟩
  | c :: r, ht, hl =>
    simp only [List.length_cons] at hl
    have w1 : wr .i64 ((p : Int) + 1) = ((p + 1 : Nat) : Int) := by rw [A8 (by omega)]; simp
    rw [JP, if_neg (by simp; omega)]
    simp only [AO]
    rw [head_drop ht, Option.bind_some, Rf, Option.bind_some, index_ge, w1]
    by_cases c3 : J6.contains c = true
    · rw [show (([123, 125, 91, 93, 58, 44] : List UInt8).contains c) = true from c3, if_pos rfl, Zo c c3]
      simp only [c3, if_true]
      exact ⟨_, _, _, rfl, fun _ => rfl⟩
    · rw [Bool.not_eq_true] at c3
      rw [show (([123, 125, 91, 93, 58, 44] : List UInt8).contains c) = false from c3, if_neg (by decide), AKQ]
      simp only [c3, Bool.false_eq_true, if_false]
      by_cases c4 : c.toNat = 34
      · rw [if_pos (decide_eq_true c4)]
        simp only [c4, if_true]
        obtain ⟨q, hq, hq0⟩ := AHf (N := N) (l := l) hb (by omega) (i := p) (by omega)
        have hr : l.drop (p + 1) = r := by rw [← List.drop_drop, ht]; rfl
        rw [hr] at hq hq0
        rw [hq, Option.bind_some]
        unfold outT
        by_cases c5 : (Dn N r (p + 1) []).2.2 = 0
        · rw [if_pos c5, if_pos c5]
          exact ⟨q, _, _, rfl, fun _ => by rw [hq0 c5]⟩
        · rw [if_neg c5, if_neg c5]
          exact ⟨q, _, _, rfl, fun h => absurd h c5⟩
      · rw [if_neg (by simpa using c4)]
        simp only [c4, if_false]
        rw [AEx, TQ, Option.bind_some, SS, Option.bind_some]
        have num : ∃ q k x, (Option.bind (BF N ⟨l, (p : Int)⟩) fun y16 => if y16.2.1 = true then some ((4 : Int), y16.1, (0 : Int), y16.2.2) else some (0, [], 130, y16.2.2)) = some (k, x, (if Ck (c :: r) = 0 then JV 130 else (ApiToken.mk 4 ((c :: r).take (Ck (c :: r))) p, ((p + Ck (c :: r) : Nat) : Int), 0)).2.2, q) ∧ ((if Ck (c :: r) = 0 then JV 130 else (ApiToken.mk 4 ((c :: r).take (Ck (c :: r))) p, ((p + Ck (c :: r) : Nat) : Int), 0)).2.2 = 0 → (if Ck (c :: r) = 0 then JV 130 else (ApiToken.mk 4 ((c :: r).take (Ck (c :: r))) p, ((p + Ck (c :: r) : Nat) : Int), 0)) = (ApiToken.mk k x p, q.at_, 0)) := by
          have hn := Lr (N := N) ht hp (by omega)
          by_cases c6 : Ck (c :: r) = 0
          · rw [if_pos c6] at hn
            obtain ⟨q, hq⟩ := hn
            rw [hq, Option.bind_some, if_pos c6]
            exact ⟨_, _, _, rfl, fun h => by cases h⟩
          · rw [if_neg c6] at hn
            rw [hn, Option.bind_some, if_neg c6]
            exact ⟨_, _, _, rfl, fun _ => rfl⟩
        have word : (([45] : List UInt8).contains c || Cq c) = false → ∃ q k x, (if Bu c = true then Option.bind (BA N ⟨l, (p : Int)⟩) fun y20 => (if (y20.1 == ([116, 114, 117, 101] : List UInt8)) = true then (if true = true then some ((5 : Int), y20.1, (0 : Int), y20.2) else some (0, [], 130, y20.2)) else if (y20.1 == ([102, 97, 108, 115, 101] : List UInt8)) = true then (if true = true then some ((5 : Int), y20.1, (0 : Int), y20.2) else some (0, [], 130, y20.2)) else (if (y20.1 == ([110, 117, 108, 108] : List UInt8)) = true then some ((5 : Int), y20.1, (0 : Int), y20.2) else some (0, [], 130, y20.2))) else some (0, [], 130, ⟨l, (p : Int)⟩)) = some (k, x, (if isWord ((c :: r).takeWhile Bu) = true then (ApiToken.mk 5 ((c :: r).takeWhile Bu) p, ((p + ((c :: r).takeWhile Bu).length : Nat) : Int), 0) else JV 130).2.2, q) ∧ ((if isWord ((c :: r).takeWhile Bu) = true then (ApiToken.mk 5 ((c :: r).takeWhile Bu) p, ((p + ((c :: r).takeWhile Bu).length : Nat) : Int), 0) else JV 130).2.2 = 0 → (if isWord ((c :: r).takeWhile Bu) = true then (ApiToken.mk 5 ((c :: r).takeWhile Bu) p, ((p + ((c :: r).takeWhile Bu).length : Nat) : Int), 0) else JV 130) = (ApiToken.mk k x p, q.at_, 0)) := by
          intro _
          by_cases c6 : Bu c = true
          · rw [if_pos c6, AJL ht hp (by omega), Option.bind_some]
            rw [AAH ((c :: r).takeWhile Bu) (fun b => if b = true then some ((5 : Int), (c :: r).takeWhile Bu, (0 : Int), (⟨l, ((p + ((c :: r).takeWhile Bu).length : Nat) : Int)⟩ : TokenReader)) else some (0, [], 130, ⟨l, ((p + ((c :: r).takeWhile Bu).length : Nat) : Int)⟩))]
            try dsimp only
            by_cases c7 : isWord ((c :: r).takeWhile Bu) = true
            · rw [if_pos c7, if_pos c7]
              exact ⟨_, _, _, rfl, fun _ => rfl⟩
            · rw [if_neg c7, if_neg c7]
              exact ⟨_, _, _, rfl, fun h => by cases h⟩
          · rw [if_neg c6, if_neg (fun h => c6 (Zn h))]
            exact ⟨_, _, _, rfl, fun h => by cases h⟩
        by_cases k1 : ([45] : List UInt8).contains c = true
        · simp only [k1, Bool.true_or, if_true]
          exact num
        · rw [Bool.not_eq_true] at k1
          simp only [k1, Bool.false_or, Bool.false_eq_true, if_false]
          by_cases k2 : Cq c = true
          · simp only [k2, if_true]
            exact num
          · rw [Bool.not_eq_true] at k2
            simp only [k2, Bool.false_eq_true, if_false]
            exact word (by rw [k1, k2]; rfl)
theorem AEN (hb : l.length ≤ 2 ^ 40) (hN : l.length + 10 ≤ N) (hi : i ≤ l.length) : He N l (i : Int) = some (J7 N l i) := by
  obtain ⟨t0, ht0⟩ : ∃ t0, l.drop i = t0 := ⟨_, rfl⟩
  have hl0 := CL ht0 hi
  have hw := QX wsB t0
  unfold He J7
  have c1 : ¬ ((i : Int) < 0) := by omega
  have c2 : ¬ ((i : Int) > (l.length : Int)) := by omega
  refine (BQ (a := false) fun k => ?_).trans ?_
  · rw [if_neg (by simp), decide_eq_false c2]
  try dsimp only
  rw [if_neg (by decide), AHh ht0 hi (by omega), Option.bind_some, ht0]
  obtain ⟨q, k, x, e1, e2⟩ := ACn (N := N) (l := l) (p := i + (t0.takeWhile wsB).length) rfl (by omega) hb hN
  try dsimp only
  rw [e1, Option.bind_some]
  try dsimp only
  by_cases h : (LA N (i + (t0.takeWhile wsB).length) (l.drop (i + (t0.takeWhile wsB).length))).2.2 = 0
  · rw [if_neg (by simpa using h), e2 h]
  · rw [if_pos (by simpa using h)]
    have noT : ∀ (p : Nat) (t : List UInt8), (LA N p t).2.2 ≠ 0 → LA N p t = JV (LA N p t).2.2 := by
      intro p t h
      unfold LA at h ⊢
      match t, h with
      | [], h => exact absurd rfl h
      | c :: r, h =>
        dsimp only at h ⊢
        by_cases k1 : J6.contains c = true
        · rw [if_pos k1] at h; exact absurd rfl h
        rw [if_neg k1] at h ⊢
        by_cases k2 : c.toNat = 34
        · rw [if_pos k2] at h ⊢
          by_cases k3 : (Dn N r (p + 1) []).2.2 = 0
          · rw [if_pos k3] at h; exact absurd rfl h
          · rw [if_neg k3]; rfl
        rw [if_neg k2] at h ⊢
        by_cases k3 : (([45] : List UInt8).contains c || Cq c) = true
        · rw [if_pos k3] at h ⊢
          by_cases k4 : Ck (c :: r) = 0
          · rw [if_pos k4]; rfl
          · rw [if_neg k4] at h; exact absurd rfl h
        rw [if_neg k3] at h ⊢
        by_cases k4 : isWord ((c :: r).takeWhile Bu) = true
        · rw [if_pos k4] at h; exact absurd rfl h
        · rw [if_neg k4]; rfl
    rw [noT _ _ h]; rfl
end
end
end Go.VM
