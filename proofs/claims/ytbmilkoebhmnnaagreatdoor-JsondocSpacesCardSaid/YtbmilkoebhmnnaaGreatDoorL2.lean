import Derived.Test.YtbmilkoebhmnnaaGreatDoorL1
set_option linter.unusedVariables false
set_option linter.unusedSimpArgs false
namespace Go.VM
section
variable {N : Nat}
def G5 : List UInt8 → Option Nat
  | x :: y :: a :: b :: c :: d :: _ => if x = 92 ∧ y = 117 ∧ [a, b, c, d].all J6 = true then some (Vl 0 [a, b, c, d]) else none
  | _ => none
theorem O7 {t : List UInt8} (h : t.length < 6) : G5 t = none := by
  match t, h with
  | [], _ => rfl
  | [_], _ => rfl
  | [_, _], _ => rfl
  | [_, _, _], _ => rfl
  | [_, _, _, _], _ => rfl
  | [_, _, _, _, _], _ => rfl
  | _ :: _ :: _ :: _ :: _ :: _ :: _, h => simp at h; omega
theorem six {t : List UInt8} (h : ¬ t.length < 6) : ∃ x y a b c d r, t = x :: y :: a :: b :: c :: d :: r := by
  match t, h with
  | x :: y :: a :: b :: c :: d :: r, _ => exact ⟨x, y, a, b, c, d, r, rfl⟩
  | [], h => simp at h
  | [_], h => simp at h
  | [_, _], h => simp at h
  | [_, _, _], h => simp at h
  | [_, _, _, _], h => simp at h
  | [_, _, _, _, _], h => simp at h
theorem AEi (l : List UInt8) : (AEG l).2 = if l.all J6 = true then 0 else 1 := by unfold AEG; split <;> rfl
theorem AGz (l : List UInt8) : (AEG l).1 = if l.all J6 = true then ((Vl 0 l : Nat) : Int) else 0 := by unfold AEG; split <;> rfl
theorem WE {l t : List UInt8} {i : Nat} (ht : l.drop i = t) (hi : i ≤ l.length) (hb : l.length ≤ 2 ^ 50) :
    Dm N ⟨l, (i : Int)⟩ = some (match G5 t with | some n => ((n : Int), true, ⟨l, ((i + 6 : Nat) : Int)⟩) | none => (0, false, ⟨l, (i : Int)⟩)) := by
  have hl := BG ht hi
  unfold Dm
  have w6 : wr .i64 ((i : Int) + 6) = ((i + 6 : Nat) : Int) := by rw [Ar (by omega)]; simp
  have w2 : wr .i64 ((i : Int) + 2) = ((i + 2 : Nat) : Int) := by rw [Ar (by omega)]; simp
  have w0 : wr .i64 ((l.length : Int) - (i : Int)) = ((t.length : Nat) : Int) := by rw [Ar (by omega)]; omega
  simp only [AP, w6, w2, w0]
  by_cases h6 : t.length < 6
  · have : ((t.length : Nat) : Int) < 6 := by omega
    simp only [this, decide_true, if_true, O7 h6]
  · have c0 : ¬ ((t.length : Nat) : Int) < 6 := by omega
    simp only [c0, decide_false, Bool.false_eq_true, if_false]
    obtain ⟨x, y, a, b, c, d, r, rfl⟩ := six h6
    have hl' : l.length = i + 6 + r.length := by rw [hl]; simp only [List.length_cons]; omega
    rw [Dj l i (i + 2) (by omega) (by omega), Option.bind_some, Dj l (i + 2) (i + 6) (by omega) (by omega), Option.bind_some]
    have e : (l.drop (i + 2)).take (i + 6 - (i + 2)) = [a, b, c, d] := by
      rw [← List.drop_drop, ht, show i + 6 - (i + 2) = 4 by omega]; rfl
    have e2 : (l.drop i).take (i + 2 - i) = [x, y] := by
      rw [ht, show i + 2 - i = 2 by omega]; rfl
    rw [e, e2, AEh _ (by simp) (by simp), Option.bind_some]
    unfold G5
    by_cases k1 : x = 92 ∧ y = 117
    · obtain ⟨rfl, rfl⟩ := k1
      rw [show (!(([92, 117] : List UInt8) == [92, 117])) = false from rfl]
      simp only [Bool.false_eq_true, if_false, true_and]
      rw [AEi, AGz]
      by_cases k3 : [a, b, c, d].all J6 = true
      · have := PX [a, b, c, d] 0 k3
        simp only [k3, if_true]
        rw [F5 (by simp at this; omega)]; rfl
      · simp only [k3, if_false, Bool.false_eq_true]; rfl
    · have k1' : (!(([x, y] : List UInt8) == [92, 117])) = true := by
        have : ([x, y] : List UInt8) ≠ [92, 117] := fun e => k1 (by simpa using e)
        simp only [Bool.not_eq_true', beq_eq_false_iff_ne]; exact this
      have k4 : ¬ (x = 92 ∧ y = 117 ∧ [a, b, c, d].all J6 = true) := fun h => k1 ⟨h.1, h.2.1⟩
      simp only [k1', if_true, k4, if_false]
theorem M0 {t : List UInt8} {n : Nat} (h : G5 t = some n) : n < 65536 ∧ 6 ≤ t.length ∧ ∃ r, t = 92 :: 117 :: r := by
  by_cases h6 : t.length < 6
  · rw [O7 h6] at h; cases h
  · obtain ⟨x, y, a, b, c, d, r, rfl⟩ := six h6
    simp only [G5] at h
    by_cases hc : x = 92 ∧ y = 117 ∧ [a, b, c, d].all J6 = true
    · rw [if_pos hc] at h
      simp only [Option.some.injEq] at h; subst h
      have := PX [a, b, c, d] 0 hc.2.2
      obtain ⟨rfl, rfl, _⟩ := hc
      exact ⟨by simpa using this, by simp, _, rfl⟩
    · rw [if_neg hc] at h; cases h
def KW (n : Nat) : Option UInt8 :=
  if n = 34 then some 34 else if n = 92 then some 92 else if n = 47 then some 47 else if n = 98 then some 8 else if n = 102 then some 12 else if n = 110 then some 10 else if n = 114 then some 13 else if n = 116 then some 9 else none
def Rn (hi lo : Nat) : Nat := 65536 + (hi - 55296) * 1024 + lo - 56320
def Iy (t : List UInt8) : List UInt8 × Nat × Int :=
  match G5 t with
  | some hi =>
    if 55296 ≤ hi ∧ hi ≤ 56319 then
      match G5 (t.drop 6) with
      | some lo => if 56320 ≤ lo ∧ lo ≤ 57343 then (Kc (Rn hi lo), 12, 0) else ([], 0, 7)
      | none => ([], 0, 7)
    else if 56320 ≤ hi ∧ hi ≤ 57343 then ([], 0, 7) else (Kc hi, 6, 0)
  | none =>
    match t with
    | _ :: c :: _ => match KW c.toNat with | some b => ([b], 2, 0) | none => ([], 0, 130)
    | _ => ([], 0, 130)
theorem AA9 {hi lo : Nat} (h1 : 55296 ≤ hi ∧ hi ≤ 56319) (h2 : 56320 ≤ lo ∧ lo ≤ 57343) : Bp ((Rn hi lo : Nat) : Int) = true := by
  have h : 65536 ≤ Rn hi lo ∧ Rn hi lo ≤ 1114111 := by unfold Rn; omega
  generalize Rn hi lo = n at h
  simp only [Bp, Bool.and_eq_true, Bool.or_eq_true, decide_eq_true_eq]; omega
theorem AK9 {hi lo : Nat} (h1 : 55296 ≤ hi ∧ hi ≤ 56319) (h2 : 56320 ≤ lo ∧ lo ≤ 57343) : wr .i64 (wr .i64 (wr .i64 (65536 + wr .i64 (wr .i64 ((hi : Int) - 55296) * 1024)) + (lo : Int)) - 56320) = ((Rn hi lo : Nat) : Int) := by
  rw [Ar (n := (hi : Int) - 55296) (by omega), Ar (n := ((hi : Int) - 55296) * 1024) (by omega), Ar (n := 65536 + ((hi : Int) - 55296) * 1024) (by omega), Ar (n := 65536 + ((hi : Int) - 55296) * 1024 + (lo : Int)) (by omega), Ar (by omega)]
  unfold Rn; omega
def K9 (t : List UInt8) : List UInt8 × Nat × Int :=
  match t with
  | _ :: c :: _ => (match KW c.toNat with | some b => ([b], 2, 0) | none => ([], 0, 130))
  | _ => ([], 0, 130)
theorem NZ {t : List UInt8} (h : G5 t = none) : Iy t = K9 t := by
  unfold Iy K9; rw [h]
theorem Nz {t : List UInt8} {hi : Nat} (h : G5 t = some hi) : Iy t = ((
    if 55296 ≤ hi ∧ hi ≤ 56319 then
      match G5 (t.drop 6) with
      | some lo => if 56320 ≤ lo ∧ lo ≤ 57343 then (Kc (Rn hi lo), 12, 0) else ([], 0, 7)
      | none => ([], 0, 7)
    else if 56320 ≤ hi ∧ hi ≤ 57343 then ([], 0, 7) else (Kc hi, 6, 0)) : List UInt8 × Nat × Int) := by
  unfold Iy; rw [h]
theorem Ul {n : Nat} (h : Bp (n : Int) = true) : encR (n : Int) = (Kc n, 0) := by unfold encR; rw [if_pos h]; rfl
theorem PT {n : Nat} (h : Bp (n : Int) = false) : encR (n : Int) = ([], 4) := by unfold encR; rw [if_neg (by rw [h]; decide)]
theorem AAx {l t : List UInt8} {i : Nat} (ht : l.drop i = t) (hi : i ≤ l.length) (hb : l.length ≤ 2 ^ 50) (hN : 9 ≤ N) :
    ∃ q : TokenReader, Dx N ⟨l, (i : Int)⟩ = some ((Iy t).1, (Iy t).2.2, q) ∧ ((Iy t).2.2 = 0 → q = ⟨l, ((i + (Iy t).2.1 : Nat) : Int)⟩) := by
  have hl := BG ht hi
  unfold Dx
  rw [WE ht hi hb, Option.bind_some]
  cases hu : G5 t with
  | none =>
    have w1 : wr .i64 ((i : Int) + 1) = ((i + 1 : Nat) : Int) := by rw [Ar (by omega)]; simp
    rw [NZ hu]
    simp only [Bool.false_eq_true, if_false, w1, AP]
    unfold FU
    match t, ht, hl with
    | [], ht, hl =>
      simp only [List.length_nil] at hl
      have c : ¬ ((i + 1 : Nat) : Int) < (l.length : Int) := by omega
      have c' : ((i + 1 : Nat) : Int) ≥ (l.length : Int) := by omega
      simp only [c, decide_false, Bool.false_eq_true, if_false, Option.bind_some]
      simp only [strings_IndexByte, Ag, Option.bind_some, c', decide_true, if_true]
      exact ⟨_, rfl, fun h => by cases h⟩
    | [_], ht, hl =>
      simp only [List.length_nil, List.length_cons] at hl
      have c : ¬ ((i + 1 : Nat) : Int) < (l.length : Int) := by omega
      have c' : ((i + 1 : Nat) : Int) ≥ (l.length : Int) := by omega
      simp only [c, decide_false, Bool.false_eq_true, if_false, Option.bind_some]
      simp only [strings_IndexByte, Ag, Option.bind_some, c', decide_true, if_true]
      exact ⟨_, rfl, fun h => by cases h⟩
    | x :: c :: r, ht, hl =>
      simp only [List.length_cons] at hl
      have d : ((i + 1 : Nat) : Int) < (l.length : Int) := by omega
      have d' : ¬ ((i + 1 : Nat) : Int) ≥ (l.length : Int) := by omega
      have hc := NM (j := 1) ht rfl
      have w2 : wr .i64 (((i + 1 : Nat) : Int) + 1) = ((i + 2 : Nat) : Int) := by rw [Ar (by omega)]; omega
      simp only [d, decide_true, if_true]
      rw [hc, Option.bind_some, Option.bind_some]
      simp only [strings_IndexByte, Ag, Option.bind_some, d', decide_false, Bool.false_eq_true, if_false, Im, w2]
      have key := Co (f := fun n => if decide (Go.Lib.indexByte ([34, 92, 47, 98, 102, 110, 114, 116] : List UInt8) (UInt8.ofNat n) < 0) = true then none else sub ([34, 92, 47, 8, 12, 10, 13, 9] : List UInt8) (Go.Lib.indexByte [34, 92, 47, 98, 102, 110, 114, 116] (UInt8.ofNat n)) (wr .i64 (Go.Lib.indexByte [34, 92, 47, 98, 102, 110, 114, 116] (UInt8.ofNat n) + 1))) (g := fun n => (KW n).map fun b => [b]) (by kernel_rfl) c
      simp only [UInt8.ofNat_toNat] at key
      by_cases hneg : Go.Lib.indexByte ([34, 92, 47, 98, 102, 110, 114, 116] : List UInt8) c < 0
      · simp only [hneg, decide_true, if_true] at key ⊢
        have : KW c.toNat = none := by
          cases hs : KW c.toNat with
          | none => rfl
          | some b => rw [hs] at key; cases key
        simp only [K9, this]
        exact ⟨_, rfl, fun h => by cases h⟩
      · simp only [hneg, decide_false, Bool.false_eq_true, if_false] at key ⊢
        cases hs : KW c.toNat with
        | none =>
          exfalso
          rw [hs] at key
          have f : ∀ c : UInt8, (if decide (Go.Lib.indexByte ([34, 92, 47, 98, 102, 110, 114, 116] : List UInt8) c < 0) = true then true else (KW c.toNat).isSome) = true := by
            intro c
            have := Co (f := fun n => if decide (Go.Lib.indexByte ([34, 92, 47, 98, 102, 110, 114, 116] : List UInt8) (UInt8.ofNat n) < 0) = true then true else (KW n).isSome) (g := fun n => true) (by kernel_rfl) c
            simpa only [UInt8.ofNat_toNat] using this
          have := f c
          simp only [hneg, decide_false, Bool.false_eq_true, if_false, hs] at this
          cases this
        | some b =>
          rw [hs] at key
          rw [key]
          simp only [K9, hs, Option.map_some, Option.bind_some]
          exact ⟨_, rfl, fun _ => rfl⟩
  | some hi' =>
    obtain ⟨h1, h2, r, rfl⟩ := M0 hu
    rw [Nz hu]
    simp only [if_true, AP]
    by_cases c1 : 55296 ≤ hi' ∧ hi' ≤ 56319
    · have d1 : (hi' : Int) ≥ 55296 := by omega
      have d2 : (hi' : Int) ≤ 56319 := by omega
      have hp : Bp (hi' : Int) = false := by
        have : ¬ Bp (hi' : Int) = true := by
          simp only [Bp, Bool.and_eq_true, Bool.or_eq_true, decide_eq_true_eq]; omega
        simpa using this
      simp only [c1, d1, d2, and_self, if_true, decide_true]
      rw [WE (t := (92 :: 117 :: r).drop 6) (by rw [← List.drop_drop, ht]) (by omega) hb, Option.bind_some]
      cases hu2 : G5 ((92 :: 117 :: r).drop 6) with
      | none =>
        simp only [Bool.false_eq_true, if_false]
        rw [Io (by omega), PT hp]
        exact ⟨_, rfl, fun h => by cases h⟩
      | some lo =>
        simp only [if_true]
        by_cases c2 : 56320 ≤ lo ∧ lo ≤ 57343
        · have e1 : (lo : Int) ≥ 56320 := by omega
          have e2 : (lo : Int) ≤ 57343 := by omega
          simp only [e1, e2, c2, and_self, if_true, decide_true]
          rw [AK9 c1 c2, Io (by omega), Ul (AA9 c1 c2)]
          simp only [Option.bind_some, bne_self_eq_false, Bool.false_eq_true, if_false, show i + 6 + 6 = i + 12 by omega]
          exact ⟨_, rfl, fun _ => rfl⟩
        · by_cases c3 : (lo : Int) ≥ 56320
          · have e2 : ¬ (lo : Int) ≤ 57343 := by omega
            simp only [c3, e2, decide_true, decide_false, Bool.false_eq_true, if_false, if_true, c2]
            rw [Io (by omega), PT hp]
            exact ⟨_, rfl, fun h => by cases h⟩
          · simp only [c3, decide_false, Bool.false_eq_true, if_false, c2]
            rw [Io (by omega), PT hp]
            exact ⟨_, rfl, fun h => by cases h⟩
    · rw [if_neg c1]
      have hk : (if decide ((hi' : Int) ≥ 55296) = true then decide ((hi' : Int) ≤ 56319) else false) = false := by
        by_cases c : (hi' : Int) ≥ 55296
        · have : ¬ (hi' : Int) ≤ 56319 := by omega
          simp [c, this]
        · simp [c]
      by_cases c2 : 56320 ≤ hi' ∧ hi' ≤ 57343
      · rw [if_pos c2]
        have hp : Bp (hi' : Int) = false := by
          have : ¬ Bp (hi' : Int) = true := by
            simp only [Bp, Bool.and_eq_true, Bool.or_eq_true, decide_eq_true_eq]; omega
          simpa using this
        have d1 : (hi' : Int) ≥ 55296 := by omega
        have d2 : ¬ (hi' : Int) ≤ 56319 := by omega
        simp only [d1, d2, decide_true, decide_false, Bool.false_eq_true, if_true, if_false]
        rw [Io (by omega), PT hp]
        exact ⟨_, rfl, fun h => by cases h⟩
      · rw [if_neg c2]
        have hp : Bp (hi' : Int) = true := by
          simp only [Bp, Bool.and_eq_true, Bool.or_eq_true, decide_eq_true_eq]; omega
        by_cases c3 : (hi' : Int) ≥ 55296
        · have d2 : ¬ (hi' : Int) ≤ 56319 := by omega
          simp only [c3, d2, decide_true, decide_false, Bool.false_eq_true, if_true, if_false]
          rw [Io (by omega), Ul hp]
          exact ⟨_, rfl, fun _ => rfl⟩
        · simp only [c3, decide_false, Bool.false_eq_true, if_false]
          rw [Io (by omega), Ul hp]
          exact ⟨_, rfl, fun _ => rfl⟩
end
end Go.VM
namespace Go.VM
section
variable {N : Nat}
theorem P5 {t : List UInt8} {r n : Nat} (h : IP t = some (r, n)) : 1 ≤ n ∧ n ≤ t.length ∧ n ≤ 4 := by
  match t, h with
  | [], h => cases h
  | a :: t, h =>
    simp only [IP] at h
    split at h
    · simp only [Option.some.injEq, Prod.mk.injEq] at h; obtain ⟨_, rfl⟩ := h; simp
    · split at h
      · match t, h with
        | [], h => cases h
        | b :: t, h =>
          simp only at h
          split at h
          · simp only [Option.some.injEq, Prod.mk.injEq] at h; obtain ⟨_, rfl⟩ := h; simp
          · cases h
      · split at h
        · match t, h with
          | [], h => cases h
          | [_], h => cases h
          | b :: c :: t, h =>
            simp only at h
            split at h
            · simp only [Option.some.injEq, Prod.mk.injEq] at h; obtain ⟨_, rfl⟩ := h; simp
            · cases h
        · split at h
          · match t, h with
            | [], h => cases h
            | [_], h => cases h
            | [_, _], h => cases h
            | b :: c :: d :: t, h =>
              simp only at h
              split at h
              · simp only [Option.some.injEq, Prod.mk.injEq] at h; obtain ⟨_, rfl⟩ := h; simp
              · cases h
          · cases h
theorem YD (r : Nat) : 1 ≤ (Kc r).length ∧ (Kc r).length ≤ 4 := by
  unfold Kc
  split
  · simp
  · split
    · simp
    · split <;> simp
theorem AHA {t : List UInt8} (h : (Iy t).2.2 = 0) : 2 ≤ (Iy t).2.1 ∧ (Iy t).2.1 ≤ t.length ∧ (Iy t).1.length ≤ 4 ∧ (Iy t).1.length ≤ (Iy t).2.1 := by
  cases hu : G5 t with
  | none =>
    rw [NZ hu] at h ⊢
    match t, h with
    | [], h => cases h
    | [_], h => cases h
    | _ :: c :: r, h =>
      simp only [K9] at h ⊢
      cases hs : KW c.toNat with
      | none => rw [hs] at h; cases h
      | some b => simp
  | some hi =>
    obtain ⟨h1, h2, _⟩ := M0 hu
    rw [Nz hu] at h ⊢
    by_cases c1 : 55296 ≤ hi ∧ hi ≤ 56319
    · simp only [c1, and_self, if_true] at h ⊢
      cases hu2 : G5 (t.drop 6) with
      | none => rw [hu2] at h; cases h
      | some lo =>
        obtain ⟨_, h3, _⟩ := M0 hu2
        rw [hu2] at h
        simp only at h ⊢
        by_cases c2 : 56320 ≤ lo ∧ lo ≤ 57343
        · simp only [c2, and_self, if_true] at h ⊢
          have := YD (Rn hi lo)
          rw [List.length_drop] at h3
          exact ⟨by omega, by omega, by omega, by omega⟩
        · rw [if_neg c2] at h; cases h
    · rw [if_neg c1] at h ⊢
      by_cases c2 : 56320 ≤ hi ∧ hi ≤ 57343
      · rw [if_pos c2] at h; cases h
      · rw [if_neg c2]
        have := YD hi
        exact ⟨by simp, by simpa using h2, by simpa using this.2, by simp only []; omega⟩
def Dr : Nat → List UInt8 → Nat → List UInt8 → List UInt8 × Nat × Int
  | 0, _, _, _ => ([], 0, 130)
  | _ + 1, [], _, _ => ([], 0, 130)
  | k + 1, c :: t, i, out =>
    if c.toNat = 34 then (out, i + 1, 0)
    else if c.toNat = 92 then
      if (Iy (c :: t)).2.2 = 0 then Dr k ((c :: t).drop (Iy (c :: t)).2.1) (i + (Iy (c :: t)).2.1) (out ++ (Iy (c :: t)).1)
      else ([], 0, (Iy (c :: t)).2.2)
    else if c.toNat < 32 then ([], 0, 130)
    else
      match IP (c :: t) with
      | some (_, n) => Dr k ((c :: t).drop n) (i + n) (out ++ (c :: t).take n)
      | none => ([], 0, 7)
def outT (r : List UInt8 × Nat × Int) : List UInt8 × Int × Int := if r.2.2 = 0 then (r.1, (r.2.1 : Int), 0) else ([], 0, r.2.2)
theorem Q4 {n : Nat} {k : Nat} : ((n : Int) == (k : Int)) = decide (n = k) := by
  by_cases h : n = k
  · simp [h]
  · have : ¬ (n : Int) = (k : Int) := by omega
    simp [h]; omega
theorem ALc (c : UInt8) : (AL c == 34) = decide (c.toNat = 34) := Q4 (k := 34)
theorem AMV (c : UInt8) : (AL c == 92) = decide (c.toNat = 92) := Q4 (k := 92)
theorem AMh (c : UInt8) : decide (AL c < 32) = decide (c.toNat < 32) := by
  have := c.toNat_lt
  simp only [AL]; congr 1; simp only [eq_iff_iff]; omega
theorem QG {i r n : Nat} : F3 i (some (r, n)) = ((r : Int), ((i + n : Nat) : Int), 0) := rfl
theorem head_drop {l t : List UInt8} {c : UInt8} {i : Nat} (ht : l.drop i = c :: t) : idx l (i : Int) = some c := by
  have := NM (j := 0) ht rfl
  simpa using this
section
variable {l : List UInt8}
theorem MJ (hb : l.length ≤ 2 ^ 40) (hN : 9 ≤ N) (k2 : Bool × List UInt8 × List UInt8 × Int → Option (List UInt8 × Int × TokenReader)) (hk : ∀ q, ∃ q', k2 q = some ([], 130, q')) : ∀ (k : Nat) (t : List UInt8) (i : Nat) (ad : Bool) (out : List UInt8), l.drop i = t → i ≤ l.length → t.length < k → out.length ≤ i →
    ∃ q, BV N k2 k ad out l (i : Int) = some ((outT (Dr k t i out)).1, (outT (Dr k t i out)).2.2, q) ∧ ((Dr k t i out).2.2 = 0 → q = ⟨l, ((Dr k t i out).2.1 : Int)⟩)
  | 0, t, i, ad, out, ht, hi, h, ho => by omega
  | k + 1, [], i, ad, out, ht, hi, h, ho => by
    have hl := BG ht hi
    simp only [List.length_nil] at hl
    have c : ¬ (i : Int) < (l.length : Int) := by omega
    rw [BV, Dr]
    obtain ⟨q, hq⟩ := hk (ad, out, l, (i : Int))
    rw [if_neg (by simpa using c), hq]
    exact ⟨q, rfl, fun h => by cases h⟩
  | k + 1, c :: t, i, ad, out, ht, hi, h, ho => by
    have hl := BG ht hi
    simp only [List.length_cons] at hl h
    have c0 : (i : Int) < (l.length : Int) := by omega
    have w1 : wr .i64 ((i : Int) + 1) = ((i + 1 : Nat) : Int) := by rw [Ar (by omega)]; simp
    rw [BV, Dr]
    rw [if_pos (decide_eq_true c0), head_drop ht, Option.bind_some, ALc, AMV, AMh, w1]
    have ws : ∀ x : List UInt8, x.length ≤ 4 → Be N (StringsBuilder.mk ad out) x = some ((x.length : Int), (), StringsBuilder.mk true (out ++ x)) := by
      intro x hx
      unfold Be DR
      cases ad <;> simp only [Bool.false_eq_true, if_false, if_true, Option.bind_some] <;> rw [AO (by unfold Ba; omega)]
    by_cases c1 : c.toNat = 34
    · rw [if_pos (decide_eq_true c1), if_pos c1]
      exact ⟨_, rfl, fun _ => rfl⟩
    · rw [if_neg (by simpa using c1), if_neg c1]
      by_cases c2 : c.toNat = 92
      · rw [if_pos (decide_eq_true c2), if_pos c2]
        obtain ⟨q, hq, hq0⟩ := AAx (N := N) ht hi (by omega) hN
        rw [hq, Option.bind_some]
        by_cases c3 : (Iy (c :: t)).2.2 = 0
        · obtain ⟨e1, e2, e3, e4⟩ := AHA c3
          rw [if_neg (by simpa using c3), ws _ e3, Option.bind_some, if_pos c3]
          rw [hq0 c3]
          simp only [List.length_cons] at e2
          exact MJ hb hN k2 hk k _ _ true _ (by rw [← List.drop_drop, ht]) (by omega) (by simp only [List.length_drop, List.length_cons]; omega) (by simp only [List.length_append]; omega)
        · rw [if_pos (by simpa using c3), if_neg c3]
          refine ⟨q, ?_, fun h => absurd h c3⟩
          unfold outT; rw [if_neg c3]
      · rw [if_neg (by simpa using c2), if_neg c2]
        by_cases c3 : c.toNat < 32
        · rw [if_pos (decide_eq_true c3), if_pos c3]
          exact ⟨_, rfl, fun h => by cases h⟩
        · rw [if_neg (by simpa using c3), if_neg c3]
          unfold FW
          simp only [AP]
          rw [AFD (by omega) (by omega) (by omega), Option.bind_some, ht]
          cases hd : IP (c :: t) with
          | none => exact ⟨_, rfl, fun h => by cases h⟩
          | some p =>
            obtain ⟨r, n⟩ := p
            obtain ⟨e1, e2, e3⟩ := P5 hd
            simp only [List.length_cons] at e2
            rw [QG, if_neg (by simp), Dj l i (i + n) (by omega) (by omega), Option.bind_some, Nat.add_sub_cancel_left, ht, Option.bind_some]
            rw [if_neg (by simp), ws _ (by rw [List.length_take]; omega), Option.bind_some]
            exact MJ hb hN k2 hk k _ _ true _ (by rw [← List.drop_drop, ht]) (by omega) (by simp only [List.length_drop, List.length_cons]; omega) (by rw [List.length_append, List.length_take]; omega)
theorem AH6 (hb : l.length ≤ 2 ^ 40) (hN : l.length + 9 ≤ N) {i : Nat} (hi : i < l.length) : ∃ q, EY N ⟨l, (i : Int)⟩ = some ((outT (Dr N (l.drop (i + 1)) (i + 1) [])).1, (outT (Dr N (l.drop (i + 1)) (i + 1) [])).2.2, q) ∧ ((Dr N (l.drop (i + 1)) (i + 1) []).2.2 = 0 → q = ⟨l, ((Dr N (l.drop (i + 1)) (i + 1) []).2.1 : Int)⟩) := by
  unfold EY
  rw [AP, Ar (by simp only []; omega)]
  exact MJ hb (by omega) _ (fun q => ⟨_, rfl⟩) N _ (i + 1) false [] rfl (by omega) (by rw [List.length_drop]; omega) (by simp)
end
end
end Go.VM
namespace Go.VM
section
variable {N : Nat}
theorem MU {α : Type} (p : α → Bool) (t : List α) : t.take (t.takeWhile p).length = t.takeWhile p :=
  (List.prefix_iff_eq_take.1 (List.takeWhile_prefix p)).symm
theorem Qm {α : Type} (p : α → Bool) (t : List α) : (t.takeWhile p).length ≤ t.length := (List.takeWhile_sublist p).length_le
def Ca (c : UInt8) : Bool := decide (48 ≤ c.toNat) && decide (c.toNat ≤ 57)
def AG0 (n : Nat) : Bool := (decide (65 ≤ n) && decide (n ≤ 90)) || (decide (97 ≤ n) && decide (n ≤ 122))
def Bv (c : UInt8) : Bool := AG0 c.toNat
def wsN (n : Nat) : Bool := decide (n = 32) || decide (n = 9) || decide (n = 10) || decide (n = 13)
def wsB (c : UInt8) : Bool := wsN c.toNat
theorem UH (c : UInt8) : DX N (AL c) = some (Ca c) :=
  Co (f := fun n => DX N (n : Int)) (g := fun n => some (decide (48 ≤ n) && decide (n ≤ 57))) (by kernel_rfl) c
theorem ABt (c : UInt8) : FL N (AL c) = some (Ca c) :=
  Co (f := fun n => FL N (n : Int)) (g := fun n => some (decide (48 ≤ n) && decide (n ≤ 57))) (by kernel_rfl) c
theorem SN (c : UInt8) : FJ N (AL c) = some (Bv c) :=
  Co (f := fun n => FJ N (n : Int)) (g := fun n => some (AG0 n)) (by kernel_rfl) c
theorem AKM (c : UInt8) : H5 N (AL c) = some (wsB c) :=
  Co (f := fun n => H5 N (n : Int)) (g := fun n => some (wsN n)) (by kernel_rfl) c
theorem YW (c : UInt8) (k2 : Unit → Option Bool) (h : k2 () = some false) : ∀ l : List UInt8, D6 N (AL c) k2 l = some (l.contains c)
  | [] => by rw [D6]; simpa using h
  | x :: l => by
    rw [D6, YW c k2 h l, List.contains_cons]
    by_cases e : x = c
    · subst e; simp
    · have e1 : ¬ c = x := fun h => e h.symm
      have : (AL x == AL c) = false := by
        have : ¬ x.toNat = c.toNat := fun h => e (UInt8.toNat_inj.1 h)
        simp only [AL, beq_eq_false_iff_ne, ne_eq]; omega
      simp [this, e1]
theorem Ub (c : UInt8) (l : List UInt8) (h : l.length ≤ 1000) : Gt N (AL c) l = some (l.contains c) := by
  unfold Gt
  rw [AP, Ip (by omega)]
  exact YW c _ rfl l
theorem index_ge : ∀ (l : List UInt8) (c : UInt8), decide (Go.Lib.indexByte l c ≥ 0) = l.contains c
  | [], c => rfl
  | x :: l, c => by
    have ih := index_ge l c
    have h := Go.Lib.indexByte_ge l c
    rw [Go.Lib.indexByte, List.contains_cons]
    by_cases e : x = c
    · subst e; simp
    · have e1 : (c == x) = false := by simpa using fun h : c = x => e h.symm
      have e2 : (x == c) = false := by simpa using e
      rw [e1, e2, Bool.false_or, ← ih]
      simp only [Bool.false_eq_true, if_false]
      by_cases k : Go.Lib.indexByte l c = -1
      · simp [k]
      · have k' : (Go.Lib.indexByte l c == -1) = false := by simpa using k
        rw [k']; simp only [Bool.false_eq_true, if_false]
        congr 1; simp only [eq_iff_iff]; omega
theorem SL (l : List UInt8) (c : UInt8) : strings_IndexByte N l (AL c) = some (Go.Lib.indexByte l c) := by
  unfold strings_IndexByte Ag; rw [Im]; rfl
section
variable {l : List UInt8}
theorem Xw (hb : l.length ≤ 2 ^ 50) (s : Int) (k2 : Int → Option (List UInt8 × TokenReader)) : ∀ (t : List UInt8) (i : Nat), l.drop i = t → i ≤ l.length → AX N ⟨l, s⟩ k2 t.length (i : Int) = k2 ((i + (t.takeWhile Ca).length : Nat) : Int)
  | [], i, ht, hi => by rw [List.length_nil, AX]; rfl
  | c :: t, i, ht, hi => by
    have hl := BG ht hi
    simp only [List.length_cons] at hl
    rw [List.length_cons, AX]
    rw [head_drop ht, Option.bind_some, UH, Option.bind_some, List.takeWhile_cons]
    cases Ca c
    · simp
    · rw [if_pos rfl, if_pos rfl, show (i : Int) + 1 = ((i + 1 : Nat) : Int) by simp, Xw hb s k2 t (i + 1) (by rw [← List.drop_drop, ht]; rfl) (by omega)]
      rw [List.length_cons]; congr 2; omega
theorem XV (hb : l.length ≤ 2 ^ 50) (s : Int) (k2 : Int → Option (List UInt8 × TokenReader)) : ∀ (t : List UInt8) (i : Nat), l.drop i = t → i ≤ l.length → AV N ⟨l, s⟩ k2 t.length (i : Int) = k2 ((i + (t.takeWhile Bv).length : Nat) : Int)
  | [], i, ht, hi => by rw [List.length_nil, AV]; rfl
  | c :: t, i, ht, hi => by
    have hl := BG ht hi
    simp only [List.length_cons] at hl
    rw [List.length_cons, AV]
    rw [head_drop ht, Option.bind_some, SN, Option.bind_some, List.takeWhile_cons]
    cases Bv c
    · simp
    · rw [if_pos rfl, if_pos rfl, show (i : Int) + 1 = ((i + 1 : Nat) : Int) by simp, XV hb s k2 t (i + 1) (by rw [← List.drop_drop, ht]; rfl) (by omega)]
      rw [List.length_cons]; congr 2; omega
theorem ZK (hb : l.length ≤ 2 ^ 50) (s : Int) (k2 : Int → Option (List UInt8 × TokenReader)) : ∀ (t : List UInt8) (i : Nat), l.drop i = t → i ≤ l.length → AZ N ⟨l, s⟩ k2 t.length (i : Int) = k2 ((i + (t.takeWhile wsB).length : Nat) : Int)
  | [], i, ht, hi => by rw [List.length_nil, AZ]; rfl
  | c :: t, i, ht, hi => by
    have hl := BG ht hi
    simp only [List.length_cons] at hl
    rw [List.length_cons, AZ]
    rw [head_drop ht, Option.bind_some, AKM, Option.bind_some, List.takeWhile_cons]
    cases wsB c
    · simp
    · rw [if_pos rfl, if_pos rfl, show (i : Int) + 1 = ((i + 1 : Nat) : Int) by simp, ZK hb s k2 t (i + 1) (by rw [← List.drop_drop, ht]; rfl) (by omega)]
      rw [List.length_cons]; congr 2; omega
variable {t : List UInt8} {i : Nat}
theorem Nu (p : UInt8 → Bool) (ht : l.drop i = t) (hi : i ≤ l.length) : sub l (i : Int) ((i + (t.takeWhile p).length : Nat) : Int) = some (t.takeWhile p) := by
  have hl := BG ht hi
  have := Qm p t
  rw [Dj l i _ (by omega) (by omega), Nat.add_sub_cancel_left, ht, MU]
theorem AFz (ht : l.drop i = t) (hi : i ≤ l.length) (hb : l.length ≤ 2 ^ 50) : BB N ⟨l, (i : Int)⟩ = some (t.takeWhile Ca, ⟨l, ((i + (t.takeWhile Ca).length : Nat) : Int)⟩) := by
  have hl := BG ht hi
  unfold BB
  rw [AP, AO (by simp only []; omega)]
  rw [show ((l.length : Int) - (i : Int)).toNat = t.length by omega, Xw hb _ _ t i ht hi]
  simp only []
  rw [Nu Ca ht hi, Option.bind_some]
theorem AKj (ht : l.drop i = t) (hi : i ≤ l.length) (hb : l.length ≤ 2 ^ 50) : BC N ⟨l, (i : Int)⟩ = some (t.takeWhile Bv, ⟨l, ((i + (t.takeWhile Bv).length : Nat) : Int)⟩) := by
  have hl := BG ht hi
  unfold BC
  rw [AP, AO (by simp only []; omega)]
  rw [show ((l.length : Int) - (i : Int)).toNat = t.length by omega, XV hb _ _ t i ht hi]
  simp only []
  rw [Nu Bv ht hi, Option.bind_some]
theorem AHt (ht : l.drop i = t) (hi : i ≤ l.length) (hb : l.length ≤ 2 ^ 50) : Bg N ⟨l, (i : Int)⟩ = some (t.takeWhile wsB, ⟨l, ((i + (t.takeWhile wsB).length : Nat) : Int)⟩) := by
  have hl := BG ht hi
  unfold Bg
  rw [AP, AO (by simp only []; omega)]
  rw [show ((l.length : Int) - (i : Int)).toNat = t.length by omega, ZK hb _ _ t i ht hi]
  simp only []
  rw [Nu wsB ht hi, Option.bind_some]
def Bz (set t : List UInt8) : Bool := match t with | c :: _ => set.contains c | [] => false
theorem Kq (set : List UInt8) (ht : l.drop i = t) (hi : i ≤ l.length) (hb : l.length ≤ 2 ^ 50) : A9 N ⟨l, (i : Int)⟩ set = some (Bz set t, ⟨l, ((i + (if Bz set t = true then 1 else 0) : Nat) : Int)⟩) := by
  have hl := BG ht hi
  unfold A9
  rw [AP]
  match t, ht, hl with
  | [], ht, hl =>
    simp only [List.length_nil] at hl
    have c : ¬ (i : Int) < (l.length : Int) := by omega
    rw [if_neg (by simpa using c)]; rfl
  | c :: t, ht, hl =>
    simp only [List.length_cons] at hl
    have c0 : (i : Int) < (l.length : Int) := by omega
    rw [if_pos (decide_eq_true c0)]
    simp only []
    rw [head_drop ht, Option.bind_some, SL, Option.bind_some, index_ge, Ar (by omega)]
    have key : ∀ b : Bool, (if b = true then some (true, (⟨l, (i : Int) + 1⟩ : TokenReader)) else some (false, (⟨l, (i : Int)⟩ : TokenReader))) = some (b, (⟨l, ((i + (if b = true then 1 else 0) : Nat) : Int)⟩ : TokenReader)) := by
      intro b; cases b <;> simp
    exact key _
def Dc (t : List UInt8) : Nat := (t.takeWhile Ca).length
theorem KA (t : List UInt8) : Dc t ≤ t.length := Qm _ _
theorem SA (t : List UInt8) : (t.takeWhile Ca == []) = decide (Dc t = 0) := by
  unfold Dc
  cases t.takeWhile Ca <;> simp
def AY (t : List UInt8) : Nat := if Bz [45] t = true then 1 else 0
def CY (t : List UInt8) : Nat := if Bz [48] t = true then 1 else Dc t
def Dv (t : List UInt8) : Nat := if Bz [46] t = true ∧ 0 < Dc (t.drop 1) then 1 + Dc (t.drop 1) else 0
def F4 (t : List UInt8) : Nat := if Bz [43, 45] (t.drop 1) = true then 1 else 0
def IM (t : List UInt8) : Nat := if Bz [101, 69] t = true ∧ 0 < Dc (t.drop (1 + F4 t)) then 1 + F4 t + Dc (t.drop (1 + F4 t)) else 0
def Ci (t : List UInt8) : Nat :=
  if CY (t.drop (AY t)) = 0 then 0
  else AY t + CY (t.drop (AY t)) + Dv (t.drop (AY t + CY (t.drop (AY t)))) +
    IM (t.drop (AY t + CY (t.drop (AY t)) + Dv (t.drop (AY t + CY (t.drop (AY t))))))
theorem FH {set t : List UInt8} (h : Bz set t = true) : 0 < t.length := by
  cases t with
  | nil => cases h
  | cons => simp
theorem Mm (t : List UInt8) : AY t ≤ t.length := by
  unfold AY; split
  · rename_i h; exact FH h
  · omega
theorem NK (t : List UInt8) : CY t ≤ t.length := by
  unfold CY; split
  · rename_i h; exact FH h
  · exact KA t
theorem NC (t : List UInt8) : Dv t ≤ t.length := by
  unfold Dv; split
  · rename_i h
    have := FH h.1
    have := KA (t.drop 1)
    rw [List.length_drop] at this; omega
  · omega
theorem VT (t : List UInt8) : IM t ≤ t.length := by
  unfold IM; split
  · rename_i h
    have h1 := FH h.1
    have := KA (t.drop (1 + F4 t))
    rw [List.length_drop] at this
    have h2 := h.2
    omega
  · omega
theorem AB1 (t : List UInt8) : Ci t ≤ t.length := by
  unfold Ci
  split
  · omega
  · have h1 := Mm t
    have h2 := NK (t.drop (AY t))
    have h3 := NC (t.drop (AY t + CY (t.drop (AY t))))
    have h4 := VT (t.drop (AY t + CY (t.drop (AY t)) + Dv (t.drop (AY t + CY (t.drop (AY t))))))
    simp only [List.length_drop] at h2 h3 h4
    omega
theorem QF {f : Int} (ht : l.drop i = t) (hi : i ≤ l.length) (hb : l.length ≤ 2 ^ 50) : Bi N ⟨l, (i : Int)⟩ f = some ⟨l, if 0 < Dc t then ((i + Dc t : Nat) : Int) else f⟩ := by
  unfold Bi
  rw [AFz ht hi hb, Option.bind_some]
  simp only [SA]
  by_cases h : Dc t = 0
  · rw [if_pos (decide_eq_true h), if_neg (by omega)]
  · rw [if_neg (by simpa using h), if_pos (by omega)]; rfl
theorem Ji {a : Nat} (ht : l.drop i = t) (n : Nat) (h : a = i + n) : l.drop a = t.drop n := by rw [h, ← List.drop_drop, ht]
theorem MW (ht : l.drop i = t) (hi : i ≤ l.length) (hb : l.length ≤ 2 ^ 50) :
    if Ci t = 0 then ∃ q, BJ N ⟨l, (i : Int)⟩ = some ([], false, q) else BJ N ⟨l, (i : Int)⟩ = some (t.take (Ci t), true, ⟨l, ((i + Ci t : Nat) : Int)⟩) := by
  have hl := BG ht hi
  have h1 := Mm t
  have h2 := NK (t.drop (AY t))
  have h3 := NC (t.drop (AY t + CY (t.drop (AY t))))
  have h4 := VT (t.drop (AY t + CY (t.drop (AY t)) + Dv (t.drop (AY t + CY (t.drop (AY t))))))
  simp only [List.length_drop] at h2 h3 h4
  unfold BJ
  rw [Kq [45] ht hi hb, Option.bind_some]
  change if Ci t = 0 then ∃ q, AR _ _ = some ([], false, q) else AR _ _ = _
  rw [show (if Bz [45] t = true then 1 else 0) = AY t from rfl]
  have hta := Ji ht (AY t) rfl
  rw [Kq [48] hta (by omega) hb]
  simp only [Option.bind_some]
  have rest : ∀ a : Nat, a = i + (AY t + CY (t.drop (AY t))) → CY (t.drop (AY t)) ≠ 0 →
      (AR (fun j11 : TokenReader => AR (fun j19 : TokenReader => Option.bind (sub j19.s (i : Int) j19.at_) fun x29 => some (x29, true, j19)) fun k20 =>
        Option.bind (A9 N j11 ([101, 69] : List UInt8)) fun y23 => if y23.1 = true then Option.bind (A9 N y23.2 ([43, 45] : List UInt8)) fun y25 => Option.bind (Bi N y25.2 j11.at_) fun y27 => k20 y27 else k20 y23.2) fun k12 =>
      Option.bind (A9 N ⟨l, (a : Int)⟩ ([46] : List UInt8)) fun y15 => if y15.1 = true then Option.bind (Bi N y15.2 (a : Int)) fun y17 => k12 y17 else k12 y15.2) = some (t.take (Ci t), true, (⟨l, ((i + Ci t : Nat) : Int)⟩ : TokenReader)) := by
    intro a ha hne
    have htb := Ji ht (AY t + CY (t.drop (AY t))) ha
    have hnum : Ci t = AY t + CY (t.drop (AY t)) + Dv (t.drop (AY t + CY (t.drop (AY t)))) + IM (t.drop (AY t + CY (t.drop (AY t)) + Dv (t.drop (AY t + CY (t.drop (AY t)))))) := by
      unfold Ci; rw [if_neg hne]
    have last : ∀ b : Nat, b = i + (AY t + CY (t.drop (AY t)) + Dv (t.drop (AY t + CY (t.drop (AY t))))) →
        (AR (fun j19 : TokenReader => Option.bind (sub j19.s (i : Int) j19.at_) fun x29 => some (x29, true, j19)) fun k20 =>
          Option.bind (A9 N ⟨l, (b : Int)⟩ ([101, 69] : List UInt8)) fun y23 => if y23.1 = true then Option.bind (A9 N y23.2 ([43, 45] : List UInt8)) fun y25 => Option.bind (Bi N y25.2 (b : Int)) fun y27 => k20 y27 else k20 y23.2) = some (t.take (Ci t), true, (⟨l, ((i + Ci t : Nat) : Int)⟩ : TokenReader)) := by
      intro b hb'
      have htc := Ji ht _ hb'
      have fin : ∀ e : Nat, e = i + Ci t → (Option.bind (sub l (i : Int) (e : Int)) fun x29 => some (x29, true, (⟨l, (e : Int)⟩ : TokenReader))) = some (t.take (Ci t), true, (⟨l, ((i + Ci t : Nat) : Int)⟩ : TokenReader)) := by
        rintro e rfl
        have := AB1 t
        rw [Dj l i _ (by omega) (by omega), Option.bind_some, Nat.add_sub_cancel_left, ht]
      rw [AP, Kq [101, 69] htc (by omega) hb, Option.bind_some]
      generalize hc : t.drop (AY t + CY (t.drop (AY t)) + Dv (t.drop (AY t + CY (t.drop (AY t))))) = c at *
      by_cases he : Bz [101, 69] c = true
      · have hpos := FH he
        have hcl : c.length = t.length - (AY t + CY (t.drop (AY t)) + Dv (t.drop (AY t + CY (t.drop (AY t))))) := by rw [← hc, List.length_drop]
        simp only [he, if_true]
        rw [Kq [43, 45] (Ji htc 1 rfl) (by omega) hb, Option.bind_some]
        rw [show (if Bz [43, 45] (c.drop 1) = true then 1 else 0) = F4 c from rfl]
        have hes : F4 c ≤ c.length - 1 := by
          unfold F4; split
          · rename_i h; have := FH h; rw [List.length_drop] at this; omega
          · omega
        rw [QF (Ji htc (1 + F4 c) (by omega)) (by omega) hb, Option.bind_some]
        by_cases hr : 0 < Dc (c.drop (1 + F4 c))
        · rw [if_pos hr]
          refine fin _ ?_
          rw [hnum, show IM c = 1 + F4 c + Dc (c.drop (1 + F4 c)) by unfold IM; rw [if_pos ⟨he, hr⟩]]
          omega
        · rw [if_neg hr]
          refine fin _ ?_
          rw [hnum, show IM c = 0 by unfold IM; rw [if_neg (fun h => hr h.2)]]
          omega
      · rw [Bool.not_eq_true] at he
        simp only [he, Bool.false_eq_true, if_false]
        refine fin _ ?_
        rw [hnum, show IM c = 0 by unfold IM; rw [if_neg (by rw [he]; simp)]]
        omega
    rw [AP, Kq [46] htb (by omega) hb, Option.bind_some]
    generalize hc : t.drop (AY t + CY (t.drop (AY t))) = c at *
    by_cases he : Bz [46] c = true
    · have hpos := FH he
      have hcl : c.length = t.length - (AY t + CY (t.drop (AY t))) := by rw [← hc, List.length_drop]
      simp only [he, if_true]
      rw [QF (Ji htb 1 rfl) (by omega) hb, Option.bind_some]
      by_cases hr : 0 < Dc (c.drop 1)
      · rw [if_pos hr]
        refine last _ ?_
        rw [show Dv c = 1 + Dc (c.drop 1) by unfold Dv; rw [if_pos ⟨he, hr⟩]]
        omega
      · rw [if_neg hr]
        refine last _ ?_
        rw [show Dv c = 0 by unfold Dv; rw [if_neg (fun h => hr h.2)]]
        omega
    · rw [Bool.not_eq_true] at he
      simp only [he, Bool.false_eq_true, if_false]
      refine last _ ?_
      rw [show Dv c = 0 by unfold Dv; rw [if_neg (by rw [he]; simp)]]
      omega
  have hnz : Ci t = 0 ↔ CY (t.drop (AY t)) = 0 := by
    unfold Ci
    constructor
    · intro h; by_cases k : CY (t.drop (AY t)) = 0
      · exact k
      · rw [if_neg k] at h; omega
    · intro h; rw [if_pos h]
  by_cases h0 : Bz [48] (t.drop (AY t)) = true
  · have hin : CY (t.drop (AY t)) = 1 := by unfold CY; rw [if_pos h0]
    rw [if_neg (by rw [hnz, hin]; decide)]
    simp only [h0, if_true]
    rw [AP]
    simp only [Bool.false_eq_true, if_false]
    exact rest _ (by rw [hin]; omega) (by rw [hin]; decide)
  · have hin : CY (t.drop (AY t)) = Dc (t.drop (AY t)) := by unfold CY; rw [if_neg h0]
    rw [Bool.not_eq_true] at h0
    simp only [h0, Bool.false_eq_true, if_false, Nat.add_zero]
    rw [AFz hta (by omega) hb]
    simp only [Option.bind_some, AP, SA]
    by_cases hr : Dc (t.drop (AY t)) = 0
    · rw [if_pos (by rw [hnz, hin]; exact hr)]
      simp only [hr, decide_true, if_true]
      exact ⟨_, rfl⟩
    · rw [if_neg (by rw [hnz, hin]; exact hr)]
      simp only [hr, decide_false, Bool.false_eq_true, if_false]
      have := rest (i + AY t + Dc (t.drop (AY t))) (by rw [hin]; omega) (by rw [hin]; exact hr)
      simp only [AP] at this
      exact this
end
end
end Go.VM
namespace Go.VM
section
variable {N : Nat}
theorem BS {α β : Type} {K : α → Option β} {body : (α → Option β) → Option β} {a : α} (h : ∀ k : α → Option β, body k = k a) : AR K body = K a := h K
theorem SB (l : List UInt8) (k2 : Int → Option Int) (hb : l.length ≤ 2 ^ 50) : ∀ (t : List UInt8) (i k : Nat), l.drop i = t → i ≤ l.length → t.length < k → EQ N l k2 k (i : Int) = k2 ((i + Dc t : Nat) : Int)
  | [], i, k + 1, ht, hi, _ => by
    have hl := BG ht hi
    simp only [List.length_nil] at hl
    have c : ¬ (i : Int) < (l.length : Int) := by omega
    rw [EQ, AP, if_neg (by simpa using c)]
    dsimp only
    rw [if_neg (by decide)]; rfl
  | c :: t, i, k + 1, ht, hi, hk => by
    have hl := BG ht hi
    simp only [List.length_cons] at hl hk
    have c0 : (i : Int) < (l.length : Int) := by omega
    rw [EQ, AP, if_pos (decide_eq_true c0), head_drop ht, Option.bind_some, ABt, Option.bind_some]
    unfold Dc
    rw [List.takeWhile_cons]
    cases Ca c
    · simp
    · dsimp only
      rw [if_pos rfl, if_pos rfl, Ar (by omega), show (i : Int) + 1 = ((i + 1 : Nat) : Int) by simp, SB l k2 hb t (i + 1) k (by rw [← List.drop_drop, ht]; rfl) (by omega) (by omega)]
      rw [List.length_cons]; unfold Dc; congr 2; omega
theorem AIJ (t : List UInt8) (hb : t.length ≤ 2 ^ 50) (hN : t.length < N) : GR N t = some ((Dc t : Nat) : Int) := by
  unfold GR
  rw [AP]
  have := SB (N := N) t (fun j => some j) hb t 0 N (by simp) (by omega) hN
  simpa using this
theorem QS (t : List UInt8) (i : Nat) : GJ N t (i : Int) = some (t.drop i) := by
  unfold GJ
  by_cases h : (i : Int) ≥ (t.length : Int)
  · rw [if_pos (decide_eq_true h), List.drop_of_length_le (by omega)]
  · rw [if_neg (by simpa using h), Dj t i t.length (by omega) (by omega), Option.bind_some, List.take_of_length_le (by simp)]
theorem LF {β : Type} (t : List UInt8) (i : Nat) (k : Bool → Option β) (f : UInt8 → Option β) (set : List UInt8) (hf : ∀ c r, t.drop i = c :: r → f c = k (set.contains c)) :
    (if decide ((i : Int) < (t.length : Int)) = true then Option.bind (idx t (i : Int)) f else k false) = k (Bz set (t.drop i)) := by
  by_cases hi : i ≤ t.length
  · obtain ⟨u, hu⟩ : ∃ u, t.drop i = u := ⟨_, rfl⟩
    have hl := BG hu hi
    rw [hu]
    cases u with
    | nil =>
      simp only [List.length_nil] at hl
      have c : ¬ (i : Int) < (t.length : Int) := by omega
      rw [if_neg (by simpa using c)]; rfl
    | cons c r =>
      simp only [List.length_cons] at hl
      have c0 : (i : Int) < (t.length : Int) := by omega
      rw [if_pos (decide_eq_true c0), head_drop hu, Option.bind_some, hf c r hu]; rfl
  · have c : ¬ (i : Int) < (t.length : Int) := by omega
    rw [if_neg (by simpa using c), List.drop_of_length_le (by omega)]; rfl
theorem MX (c : UInt8) (k : UInt8) : ([k] : List UInt8).contains c = decide (c.toNat = k.toNat) := by
  by_cases h : c = k
  · subst h; simp
  · have : ¬ c.toNat = k.toNat := fun e => h (UInt8.toNat_inj.1 e)
    simp [h, this]
theorem AE2 (c : UInt8) : (AL c == 45) = ([45] : List UInt8).contains c := by rw [MX]; exact Q4 (k := 45)
theorem AMi (c : UInt8) : (AL c == 46) = ([46] : List UInt8).contains c := by rw [MX]; exact Q4 (k := 46)
theorem AMb (c : UInt8) : (AL c == 48) = ([48] : List UInt8).contains c := by rw [MX]; exact Q4 (k := 48)
theorem Yj {t : List UInt8} : CY t = 0 ↔ (t = [] ∨ ∃ c r, t = c :: r ∧ Ca c = false) := by
  cases t with
  | nil => exact ⟨fun _ => .inl rfl, fun _ => rfl⟩
  | cons c r =>
    constructor
    · intro h
      refine .inr ⟨c, r, rfl, ?_⟩
      unfold CY at h
      split at h
      · cases h
      · unfold Dc at h
        rw [List.takeWhile_cons] at h
        cases hd : Ca c
        · rfl
        · rw [hd] at h; simp at h
    · rintro (h | ⟨c', r', h, hd⟩)
      · cases h
      · cases h
        have h48 : Bz [48] (c :: r) = false := by
          show ([48] : List UInt8).contains c = false
          rw [MX]
          have : ¬ c.toNat = 48 := fun e => by simp [Ca, e] at hd
          simpa using this
        unfold CY; rw [h48, if_neg (by simp)]
        unfold Dc; rw [List.takeWhile_cons, hd]; rfl
theorem OZ (t : List UInt8) (hb : t.length ≤ 2 ^ 50) (hN : t.length < N) : F8 N t = some ((Ci t : Nat) : Int) := by
  have h1 := Mm t
  have h2 := NK (t.drop (AY t))
  have h3 := NC (t.drop (AY t + CY (t.drop (AY t))))
  have h4 := VT (t.drop (AY t + CY (t.drop (AY t)) + Dv (t.drop (AY t + CY (t.drop (AY t))))))
  simp only [List.length_drop] at h2 h3 h4
  have run : ∀ n : Nat, GR N (t.drop n) = some ((Dc (t.drop n) : Nat) : Int) := fun n => AIJ _ (by rw [List.length_drop]; omega) (by rw [List.length_drop]; omega)
  have wn : ∀ n : Nat, n ≤ 2 ^ 51 → wr .i64 (n : Int) = (n : Int) := fun n h => F5 (by omega)
  have w1 : ∀ n : Nat, n ≤ 2 ^ 51 → wr .i64 ((n : Int) + 1) = ((n + 1 : Nat) : Int) := fun n h => by rw [Ar (by omega)]; simp
  have hsub : sub t (AY t : Int) (t.length : Int) = some (t.drop (AY t)) := by
    rw [Dj t (AY t) t.length h1 (Nat.le_refl _), List.take_of_length_le (by simp)]
  have hs2 : AY t ≤ 1 := by unfold AY; split <;> omega
  unfold F8
  refine (BS (a := ((AY t : Nat) : Int)) fun k2 => (BS (a := Bz [45] t) fun k6 => ?_).trans ?_).trans ?_
  · have key := LF t 0 k6 (fun x9 => k6 (AL x9 == 45)) [45] (fun c r _ => by rw [AE2])
    simpa using key
  · unfold AY
    cases Bz [45] t <;> rfl
  try dsimp only
  refine (BS (a := decide (CY (t.drop (AY t)) = 0)) fun k11 => ?_).trans ?_
  · obtain ⟨u, hu⟩ : ∃ u, t.drop (AY t) = u := ⟨_, rfl⟩
    have hl := BG hu h1
    rw [hu]
    cases u with
    | nil =>
      simp only [List.length_nil] at hl
      rw [if_pos (by simp; omega)]; rfl
    | cons c r =>
      simp only [List.length_cons] at hl
      rw [if_neg (by simp; omega), head_drop hu, Option.bind_some, ABt, Option.bind_some]
      congr 1
      cases hd : Ca c
      · rw [decide_eq_true (Yj.2 (.inr ⟨c, r, rfl, hd⟩))]; rfl
      · have : ¬ CY (c :: r) = 0 := fun h => by
          rcases Yj.1 h with h | ⟨c', r', h, hd'⟩
          · cases h
          · cases h; rw [hd] at hd'; cases hd'
        rw [decide_eq_false this]; rfl
  try dsimp only
  by_cases hz : CY (t.drop (AY t)) = 0
  · rw [if_pos (decide_eq_true hz)]
    unfold Ci; rw [if_pos hz]; rfl
  rw [if_neg (by simpa using hz)]
  have hnum : Ci t = AY t + CY (t.drop (AY t)) + Dv (t.drop (AY t + CY (t.drop (AY t)))) + IM (t.drop (AY t + CY (t.drop (AY t)) + Dv (t.drop (AY t + CY (t.drop (AY t)))))) := by
    unfold Ci; rw [if_neg hz]
  refine (BS (a := ((AY t + CY (t.drop (AY t)) : Nat) : Int)) fun k18 => ?_).trans ?_
  · obtain ⟨u, hu⟩ : ∃ u, t.drop (AY t) = u := ⟨_, rfl⟩
    cases u with
    | nil => rw [hu] at hz; exact absurd rfl hz
    | cons c r =>
      rw [head_drop hu, Option.bind_some, AMb, hsub, Option.bind_some, run]
      rw [hu] at h2 ⊢
      rw [show ([48] : List UInt8).contains c = Bz [48] (c :: r) from rfl]
      unfold CY at h2 ⊢
      by_cases h0 : Bz [48] (c :: r) = true
      · rw [if_pos h0] at h2
        rw [if_pos h0, if_pos h0, w1 _ (by omega)]
      · rw [if_neg h0] at h2
        rw [if_neg h0, if_neg h0, Option.bind_some, Ar (by omega)]; congr 1
  try dsimp only
  rw [w1 _ (by omega), QS]
  generalize hi' : AY t + CY (t.drop (AY t)) = i at *
  have hil : i ≤ t.length := by omega
  refine (BS (a := ((i + Dv (t.drop i) : Nat) : Int)) fun k26 => ?_).trans ?_
  · rw [Option.bind_some, run, Option.bind_some]
    have hr := KA (t.drop (i + 1))
    rw [List.length_drop] at hr
    refine (BS (a := Bz [46] (t.drop i) && decide (0 < Dc (t.drop (i + 1)))) fun k34 => ?_).trans ?_
    · refine (LF t i (fun b => k34 (b && decide (0 < Dc (t.drop (i + 1))))) _ [46] (fun c r _ => ?_)).trans rfl
      rw [AMi]
      cases ([46] : List UInt8).contains c
      · rfl
      · rw [if_pos rfl]; congr 1; rw [Bool.true_and]; congr 1; simp only [eq_iff_iff]; omega
    try dsimp only
    unfold Dv
    rw [List.drop_drop]
    by_cases hc : Bz [46] (t.drop i) = true ∧ 0 < Dc (t.drop (i + 1))
    · rw [if_pos (by simpa using hc), if_pos hc, Ar (n := 1 + _) (by omega), Ar (by omega)]; congr 1
    · rw [if_neg (by simpa using hc), if_neg hc]; rfl
  try dsimp only
  generalize hj : i + Dv (t.drop i) = j at *
  have hjl : j ≤ t.length := by omega
  rw [w1 _ (by omega)]
  refine (BS (a := ((j + IM (t.drop j) : Nat) : Int)) fun k39 => ?_).trans ?_
  · refine (BS (a := Bz [101, 69] (t.drop j)) fun k43 => LF t j k43 _ [101, 69] (fun c r _ => by rw [Ub _ _ (by decide), Option.bind_some])).trans ?_
    try dsimp only
    by_cases he : Bz [101, 69] (t.drop j) = true
    · rw [if_pos he]
      have hpos := FH he
      rw [List.length_drop] at hpos
      have hes : F4 (t.drop j) ≤ t.length - j - 1 := by
        unfold F4; split
        · rename_i h
          have := FH h
          simp only [List.length_drop] at this; omega
        · omega
      refine (BS (a := ((j + (1 + F4 (t.drop j)) : Nat) : Int)) fun k50 => (BS (a := Bz [43, 45] (t.drop (j + 1))) fun k54 => LF t (j + 1) k54 _ [43, 45] (fun c r _ => by rw [Ub _ _ (by decide), Option.bind_some])).trans ?_).trans ?_
      · try dsimp only
        unfold F4
        rw [List.drop_drop]
        by_cases h : Bz [43, 45] (t.drop (j + 1)) = true
        · rw [if_pos h, if_pos h, w1 _ (by omega)]
        · rw [if_neg h, if_neg h]
      try dsimp only
      rw [QS, Option.bind_some, run, Option.bind_some]
      have hr := KA (t.drop (j + (1 + F4 (t.drop j))))
      rw [List.length_drop] at hr
      have hex : IM (t.drop j) = if 0 < Dc (t.drop (j + (1 + F4 (t.drop j)))) then 1 + F4 (t.drop j) + Dc (t.drop (j + (1 + F4 (t.drop j)))) else 0 := by
        unfold IM
        rw [List.drop_drop]
        by_cases h : 0 < Dc (t.drop (j + (1 + F4 (t.drop j))))
        · rw [if_pos ⟨he, h⟩, if_pos h]
        · rw [if_neg (fun k => h k.2), if_neg h]
      rw [hex]
      by_cases h : 0 < Dc (t.drop (j + (1 + F4 (t.drop j))))
      · rw [if_pos (by simp; omega), if_pos h, Ar (by omega)]; congr 1; omega
      · rw [if_neg (by simp; omega), if_neg h]; rfl
    · rw [if_neg he, show IM (t.drop j) = 0 by unfold IM; rw [if_neg (fun k => he k.1)]]; rfl
  try dsimp only
  rw [hnum]
end
end Go.VM
namespace Go.VM
section
variable {N : Nat}
def Jg : List UInt8 := [123, 125, 91, 93, 58, 44]
def isWord (w : List UInt8) : Bool := w == [116, 114, 117, 101] || (w == [102, 97, 108, 115, 101] || w == [110, 117, 108, 108])
def Jd (e : Int) : ApiToken × Int × Int := (ApiToken.mk 0 [] 0, 0, e)
def LZ (N : Nat) (p : Nat) (t : List UInt8) : ApiToken × Int × Int :=
  match t with
  | [] => (ApiToken.mk 1 [] p, p, 0)
  | c :: r =>
    if Jg.contains c = true then (ApiToken.mk 2 [c] p, ((p + 1 : Nat) : Int), 0)
    else if c.toNat = 34 then
      if (Dr N r (p + 1) []).2.2 = 0 then (ApiToken.mk 3 (Dr N r (p + 1) []).1 p, ((Dr N r (p + 1) []).2.1 : Int), 0) else Jd (Dr N r (p + 1) []).2.2
    else if (([45] : List UInt8).contains c || Ca c) = true then
      if Ci (c :: r) = 0 then Jd 130 else (ApiToken.mk 4 ((c :: r).take (Ci (c :: r))) p, ((p + Ci (c :: r) : Nat) : Int), 0)
    else if isWord ((c :: r).takeWhile Bv) = true then (ApiToken.mk 5 ((c :: r).takeWhile Bv) p, ((p + ((c :: r).takeWhile Bv).length : Nat) : Int), 0)
    else Jd 130
theorem Js (N p : Nat) (c : UInt8) (r : List UInt8) : LZ N p (c :: r) = (
  if Jg.contains c = true then (ApiToken.mk 2 [c] p, ((p + 1 : Nat) : Int), 0)
  else if c.toNat = 34 then
    if (Dr N r (p + 1) []).2.2 = 0 then (ApiToken.mk 3 (Dr N r (p + 1) []).1 p, ((Dr N r (p + 1) []).2.1 : Int), 0) else Jd (Dr N r (p + 1) []).2.2
  else if (([45] : List UInt8).contains c || Ca c) = true then
    if Ci (c :: r) = 0 then Jd 130 else (ApiToken.mk 4 ((c :: r).take (Ci (c :: r))) p, ((p + Ci (c :: r) : Nat) : Int), 0)
  else if isWord ((c :: r).takeWhile Bv) = true then (ApiToken.mk 5 ((c :: r).takeWhile Bv) p, ((p + ((c :: r).takeWhile Bv).length : Nat) : Int), 0)
  else Jd 130) := rfl
def Kk (N : Nat) (l : List UInt8) (i : Nat) : ApiToken × Int × Int :=
  LZ N (i + ((l.drop i).takeWhile wsB).length) (l.drop (i + ((l.drop i).takeWhile wsB).length))
theorem Zr (c : UInt8) (h : Jg.contains c = true) : OL (AL c) = [c] := by
  have := Co (f := fun n => if Jg.contains (UInt8.ofNat n) = true then OL (n : Int) else []) (g := fun n => if Jg.contains (UInt8.ofNat n) = true then [UInt8.ofNat n] else []) (by kernel_rfl) c
  simp only [UInt8.ofNat_toNat, h, if_true] at this
  exact this
section
variable {l t : List UInt8} {i p : Nat}
theorem Zz {β : Type} (w : List UInt8) (k : Bool → Option β) : (if (w == ([116, 114, 117, 101] : List UInt8)) = true then k true else if (w == ([102, 97, 108, 115, 101] : List UInt8)) = true then k true else k (w == ([110, 117, 108, 108] : List UInt8))) = k (isWord w) := by
  unfold isWord
  cases w == ([116, 114, 117, 101] : List UInt8) <;> cases w == ([102, 97, 108, 115, 101] : List UInt8) <;> rfl
theorem AAQ {c : UInt8} {r : List UInt8} (h : isWord ((c :: r).takeWhile Bv) = true) : Bv c = true := by
  cases ha : Bv c
  · rw [List.takeWhile_cons, ha] at h
    rw [if_neg (by decide)] at h; exact absurd h (by decide)
  · rfl
theorem AEM (ht : l.drop p = t) (hp : p ≤ l.length) (hb : l.length ≤ 2 ^ 40) (hN : l.length + 10 ≤ N) :
    ∃ q k x, EE N ⟨l, (p : Int)⟩ = some (k, x, (LZ N p t).2.2, q) ∧ ((LZ N p t).2.2 = 0 → (LZ N p t) = (ApiToken.mk k x p, q.at_, 0)) := by
  have hl := BG ht hp
  unfold EE
  match t, ht, hl with
  | [], ht, hl =>
    simp only [List.length_nil] at hl
    rw [if_pos (by simp; omega)]
    exact ⟨_, _, _, rfl, fun _ => rfl⟩
  | c :: r, ht, hl =>
    simp only [List.length_cons] at hl
    have w1 : wr .i64 ((p : Int) + 1) = ((p + 1 : Nat) : Int) := by rw [Ar (by omega)]; simp
    rw [Js, if_neg (by simp; omega)]
    simp only [AP]
    rw [head_drop ht, Option.bind_some, SL, Option.bind_some, index_ge, w1]
    by_cases c3 : Jg.contains c = true
    · rw [show (([123, 125, 91, 93, 58, 44] : List UInt8).contains c) = true from c3, if_pos rfl, Zr c c3]
      simp only [c3, if_true]
      exact ⟨_, _, _, rfl, fun _ => rfl⟩
    · rw [Bool.not_eq_true] at c3
      rw [show (([123, 125, 91, 93, 58, 44] : List UInt8).contains c) = false from c3, if_neg (by decide), ALc]
      simp only [c3, Bool.false_eq_true, if_false]
      by_cases c4 : c.toNat = 34
      · rw [if_pos (decide_eq_true c4)]
        simp only [c4, if_true]
        obtain ⟨q, hq, hq0⟩ := AH6 (N := N) (l := l) hb (by omega) (i := p) (by omega)
        have hr : l.drop (p + 1) = r := by rw [← List.drop_drop, ht]; rfl
        rw [hr] at hq hq0
        rw [hq, Option.bind_some]
        unfold outT
        by_cases c5 : (Dr N r (p + 1) []).2.2 = 0
        · rw [if_pos c5, if_pos c5]
          exact ⟨q, _, _, rfl, fun _ => by rw [hq0 c5]⟩
        · rw [if_neg c5, if_neg c5]
          exact ⟨q, _, _, rfl, fun h => absurd h c5⟩
      · rw [if_neg (by simpa using c4)]
        simp only [c4, if_false]
        rw [AE2, UH, Option.bind_some, SN, Option.bind_some]
        have num : ∃ q k x, (Option.bind (BJ N ⟨l, (p : Int)⟩) fun y16 => if y16.2.1 = true then some ((4 : Int), y16.1, (0 : Int), y16.2.2) else some (0, [], 130, y16.2.2)) = some (k, x, (if Ci (c :: r) = 0 then Jd 130 else (ApiToken.mk 4 ((c :: r).take (Ci (c :: r))) p, ((p + Ci (c :: r) : Nat) : Int), 0)).2.2, q) ∧ ((if Ci (c :: r) = 0 then Jd 130 else (ApiToken.mk 4 ((c :: r).take (Ci (c :: r))) p, ((p + Ci (c :: r) : Nat) : Int), 0)).2.2 = 0 → (if Ci (c :: r) = 0 then Jd 130 else (ApiToken.mk 4 ((c :: r).take (Ci (c :: r))) p, ((p + Ci (c :: r) : Nat) : Int), 0)) = (ApiToken.mk k x p, q.at_, 0)) := by
          have hn := MW (N := N) ht hp (by omega)
          by_cases c6 : Ci (c :: r) = 0
          · rw [if_pos c6] at hn
            obtain ⟨q, hq⟩ := hn
            rw [hq, Option.bind_some, if_pos c6]
            exact ⟨_, _, _, rfl, fun h => by cases h⟩
          · rw [if_neg c6] at hn
            rw [hn, Option.bind_some, if_neg c6]
            exact ⟨_, _, _, rfl, fun _ => rfl⟩
        have word : (([45] : List UInt8).contains c || Ca c) = false → ∃ q k x, (if Bv c = true then Option.bind (BC N ⟨l, (p : Int)⟩) fun y20 => (if (y20.1 == ([116, 114, 117, 101] : List UInt8)) = true then (if true = true then some ((5 : Int), y20.1, (0 : Int), y20.2) else some (0, [], 130, y20.2)) else if (y20.1 == ([102, 97, 108, 115, 101] : List UInt8)) = true then (if true = true then some ((5 : Int), y20.1, (0 : Int), y20.2) else some (0, [], 130, y20.2)) else (if (y20.1 == ([110, 117, 108, 108] : List UInt8)) = true then some ((5 : Int), y20.1, (0 : Int), y20.2) else some (0, [], 130, y20.2))) else some (0, [], 130, ⟨l, (p : Int)⟩)) = some (k, x, (if isWord ((c :: r).takeWhile Bv) = true then (ApiToken.mk 5 ((c :: r).takeWhile Bv) p, ((p + ((c :: r).takeWhile Bv).length : Nat) : Int), 0) else Jd 130).2.2, q) ∧ ((if isWord ((c :: r).takeWhile Bv) = true then (ApiToken.mk 5 ((c :: r).takeWhile Bv) p, ((p + ((c :: r).takeWhile Bv).length : Nat) : Int), 0) else Jd 130).2.2 = 0 → (if isWord ((c :: r).takeWhile Bv) = true then (ApiToken.mk 5 ((c :: r).takeWhile Bv) p, ((p + ((c :: r).takeWhile Bv).length : Nat) : Int), 0) else Jd 130) = (ApiToken.mk k x p, q.at_, 0)) := by
          intro _
          by_cases c6 : Bv c = true
          · rw [if_pos c6, AKj ht hp (by omega), Option.bind_some]
            rw [Zz ((c :: r).takeWhile Bv) (fun b => if b = true then some ((5 : Int), (c :: r).takeWhile Bv, (0 : Int), (⟨l, ((p + ((c :: r).takeWhile Bv).length : Nat) : Int)⟩ : TokenReader)) else some (0, [], 130, ⟨l, ((p + ((c :: r).takeWhile Bv).length : Nat) : Int)⟩))]
            try dsimp only
            by_cases c7 : isWord ((c :: r).takeWhile Bv) = true
            · rw [if_pos c7, if_pos c7]
              exact ⟨_, _, _, rfl, fun _ => rfl⟩
            · rw [if_neg c7, if_neg c7]
              exact ⟨_, _, _, rfl, fun h => by cases h⟩
          · rw [if_neg c6, if_neg (fun h => c6 (AAQ h))]
            exact ⟨_, _, _, rfl, fun h => by cases h⟩
        by_cases k1 : ([45] : List UInt8).contains c = true
        · simp only [k1, Bool.true_or, if_true]
          exact num
        · rw [Bool.not_eq_true] at k1
          simp only [k1, Bool.false_or, Bool.false_eq_true, if_false]
          by_cases k2 : Ca c = true
          · simp only [k2, if_true]
            exact num
          · rw [Bool.not_eq_true] at k2
            simp only [k2, Bool.false_eq_true, if_false]
            exact word (by rw [k1, k2]; rfl)
theorem AHD (hb : l.length ≤ 2 ^ 40) (hN : l.length + 10 ≤ N) (hi : i ≤ l.length) : GM N l (i : Int) = some (Kk N l i) := by
  obtain ⟨t0, ht0⟩ : ∃ t0, l.drop i = t0 := ⟨_, rfl⟩
  have hl0 := BG ht0 hi
  have hw := Qm wsB t0
  unfold GM Kk
  have c1 : ¬ ((i : Int) < 0) := by omega
  have c2 : ¬ ((i : Int) > (l.length : Int)) := by omega
  refine (BS (a := false) fun k => ?_).trans ?_
  · rw [if_neg (by simp), decide_eq_false c2]
  try dsimp only
  rw [if_neg (by decide), AHt ht0 hi (by omega), Option.bind_some, ht0]
  obtain ⟨q, k, x, e1, e2⟩ := AEM (N := N) (l := l) (p := i + (t0.takeWhile wsB).length) rfl (by omega) hb hN
  try dsimp only
  rw [e1, Option.bind_some]
  try dsimp only
  by_cases h : (LZ N (i + (t0.takeWhile wsB).length) (l.drop (i + (t0.takeWhile wsB).length))).2.2 = 0
  · rw [if_neg (by simpa using h), e2 h]
  · rw [if_pos (by simpa using h)]
    have noT : ∀ (p : Nat) (t : List UInt8), (LZ N p t).2.2 ≠ 0 → LZ N p t = Jd (LZ N p t).2.2 := by
      intro p t h
      unfold LZ at h ⊢
      match t, h with
      | [], h => exact absurd rfl h
      | c :: r, h =>
        dsimp only at h ⊢
        by_cases k1 : Jg.contains c = true
        · rw [if_pos k1] at h; exact absurd rfl h
        rw [if_neg k1] at h ⊢
        by_cases k2 : c.toNat = 34
        · rw [if_pos k2] at h ⊢
          by_cases k3 : (Dr N r (p + 1) []).2.2 = 0
          · rw [if_pos k3] at h; exact absurd rfl h
          · rw [if_neg k3]; rfl
        rw [if_neg k2] at h ⊢
        by_cases k3 : (([45] : List UInt8).contains c || Ca c) = true
        · rw [if_pos k3] at h ⊢
          by_cases k4 : Ci (c :: r) = 0
          · rw [if_pos k4]; rfl
          · rw [if_neg k4] at h; exact absurd rfl h
        rw [if_neg k3] at h ⊢
        by_cases k4 : isWord ((c :: r).takeWhile Bv) = true
        · rw [if_pos k4] at h; exact absurd rfl h
        · rw [if_neg k4]; rfl
    rw [noT _ _ h]; rfl
end
end
end Go.VM
