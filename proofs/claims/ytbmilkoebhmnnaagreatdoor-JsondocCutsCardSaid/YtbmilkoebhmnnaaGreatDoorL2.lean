import Derived.Test.YtbmilkoebhmnnaaGreatDoorL1
set_option linter.unusedVariables false
set_option linter.unusedSimpArgs false
namespace Go.VM
section
variable {N : Nat}
def FO : List UInt8 → Option Nat
  | x :: y :: a :: b :: c :: d :: _ => if x = 92 ∧ y = 117 ∧ [a, b, c, d].all Jy = true then some (U9 0 [a, b, c, d]) else none
  | _ => none
theorem Oh {t : List UInt8} (h : t.length < 6) : FO t = none := by
  match t, h with
  | [], _ => rfl
  | [_], _ => rfl
  | [_, _], _ => rfl
  | [_, _, _], _ => rfl
  | [_, _, _, _], _ => rfl
  | [_, _, _, _, _], _ => rfl
  | _ :: _ :: _ :: _ :: _ :: _ :: _, h => simp at h; omega
theorem six {t : List UInt8} (h : ¬ t.length < 6) : ∃ x y a b c d r, t = x :: y :: a :: b :: c :: d :: r := by
  match t, h with
  | x :: y :: a :: b :: c :: d :: r, _ => exact ⟨x, y, a, b, c, d, r, rfl⟩
  | [], h => simp at h
  | [_], h => simp at h
  | [_, _], h => simp at h
  | [_, _, _], h => simp at h
  | [_, _, _, _], h => simp at h
  | [_, _, _, _, _], h => simp at h
theorem AFD (l : List UInt8) : (ADa l).2 = if l.all Jy = true then 0 else 1 := by unfold ADa; split <;> rfl
theorem AF7 (l : List UInt8) : (ADa l).1 = if l.all Jy = true then ((U9 0 l : Nat) : Int) else 0 := by unfold ADa; split <;> rfl
theorem YS {l t : List UInt8} {i : Nat} (ht : l.drop i = t) (hi : i ≤ l.length) (hb : l.length ≤ 2 ^ 50) :
    Dh N ⟨l, (i : Int)⟩ = some (match FO t with | some n => ((n : Int), true, ⟨l, ((i + 6 : Nat) : Int)⟩) | none => (0, false, ⟨l, (i : Int)⟩)) := by
  have hl := CP ht hi
  unfold Dh
  have w6 : wr .i64 ((i : Int) + 6) = ((i + 6 : Nat) : Int) := by rw [Au (by omega)]; simp
  have w2 : wr .i64 ((i : Int) + 2) = ((i + 2 : Nat) : Int) := by rw [Au (by omega)]; simp
  have w0 : wr .i64 ((l.length : Int) - (i : Int)) = ((t.length : Nat) : Int) := by rw [Au (by omega)]; omega
  simp only [AO, w6, w2, w0]
  by_cases h6 : t.length < 6
  · have : ((t.length : Nat) : Int) < 6 := by omega
    simp only [this, decide_true, if_true, Oh h6]
  · have c0 : ¬ ((t.length : Nat) : Int) < 6 := by omega
    simp only [c0, decide_false, Bool.false_eq_true, if_false]
    obtain ⟨x, y, a, b, c, d, r, rfl⟩ := six h6
    have hl' : l.length = i + 6 + r.length := by rw [hl]; simp only [List.length_cons]; omega
    rw [DX l i (i + 2) (by omega) (by omega), Option.bind_some, DX l (i + 2) (i + 6) (by omega) (by omega), Option.bind_some]
    have e : (l.drop (i + 2)).take (i + 6 - (i + 2)) = [a, b, c, d] := by
      rw [← List.drop_drop, ht, show i + 6 - (i + 2) = 4 by omega]; rfl
    have e2 : (l.drop i).take (i + 2 - i) = [x, y] := by
      rw [ht, show i + 2 - i = 2 by omega]; rfl
    rw [e, e2, AGu _ (by simp) (by simp), Option.bind_some]
    unfold FO
    by_cases k1 : x = 92 ∧ y = 117
    · obtain ⟨rfl, rfl⟩ := k1
      rw [show (!(([92, 117] : List UInt8) == [92, 117])) = false from rfl]
      simp only [Bool.false_eq_true, if_false, true_and]
      rw [AFD, AF7]
      by_cases k3 : [a, b, c, d].all Jy = true
      · have := PU [a, b, c, d] 0 k3
        simp only [k3, if_true]
        rw [Fa (by simp at this; omega)]; rfl
      · simp only [k3, if_false, Bool.false_eq_true]; rfl
    · have k1' : (!(([x, y] : List UInt8) == [92, 117])) = true := by
        have : ([x, y] : List UInt8) ≠ [92, 117] := fun e => k1 (by simpa using e)
        simp only [Bool.not_eq_true', beq_eq_false_iff_ne]; exact this
      have k4 : ¬ (x = 92 ∧ y = 117 ∧ [a, b, c, d].all Jy = true) := fun h => k1 ⟨h.1, h.2.1⟩
      simp only [k1', if_true, k4, if_false]
theorem Iw {t : List UInt8} {n : Nat} (h : FO t = some n) : n < 65536 ∧ 6 ≤ t.length ∧ ∃ r, t = 92 :: 117 :: r := by
  by_cases h6 : t.length < 6
  · rw [Oh h6] at h; cases h
  · obtain ⟨x, y, a, b, c, d, r, rfl⟩ := six h6
    simp only [FO] at h
    by_cases hc : x = 92 ∧ y = 117 ∧ [a, b, c, d].all Jy = true
    · rw [if_pos hc] at h
      simp only [Option.some.injEq] at h; subst h
      have := PU [a, b, c, d] 0 hc.2.2
      obtain ⟨rfl, rfl, _⟩ := hc
      exact ⟨by simpa using this, by simp, _, rfl⟩
    · rw [if_neg hc] at h; cases h
def KD (n : Nat) : Option UInt8 :=
  if n = 34 then some 34 else if n = 92 then some 92 else if n = 47 then some 47 else if n = 98 then some 8 else if n = 102 then some 12 else if n = 110 then some 10 else if n = 114 then some 13 else if n = 116 then some 9 else none
def Rl (hi lo : Nat) : Nat := 65536 + (hi - 55296) * 1024 + lo - 56320
def HZ (t : List UInt8) : List UInt8 × Nat × Int :=
  match FO t with
  | some hi =>
    if 55296 ≤ hi ∧ hi ≤ 56319 then
      match FO (t.drop 6) with
      | some lo => if 56320 ≤ lo ∧ lo ≤ 57343 then (Kv (Rl hi lo), 12, 0) else ([], 0, 7)
      | none => ([], 0, 7)
    else if 56320 ≤ hi ∧ hi ≤ 57343 then ([], 0, 7) else (Kv hi, 6, 0)
  | none =>
    match t with
    | _ :: c :: _ => match KD c.toNat with | some b => ([b], 2, 0) | none => ([], 0, 130)
    | _ => ([], 0, 130)
theorem AAz {hi lo : Nat} (h1 : 55296 ≤ hi ∧ hi ≤ 56319) (h2 : 56320 ≤ lo ∧ lo ≤ 57343) : Bo ((Rl hi lo : Nat) : Int) = true := by
  have h : 65536 ≤ Rl hi lo ∧ Rl hi lo ≤ 1114111 := by unfold Rl; omega
  generalize Rl hi lo = n at h
  simp only [Bo, Bool.and_eq_true, Bool.or_eq_true, decide_eq_true_eq]; omega
theorem AKP {hi lo : Nat} (h1 : 55296 ≤ hi ∧ hi ≤ 56319) (h2 : 56320 ≤ lo ∧ lo ≤ 57343) : wr .i64 (wr .i64 (wr .i64 (65536 + wr .i64 (wr .i64 ((hi : Int) - 55296) * 1024)) + (lo : Int)) - 56320) = ((Rl hi lo : Nat) : Int) := by
  rw [Au (n := (hi : Int) - 55296) (by omega), Au (n := ((hi : Int) - 55296) * 1024) (by omega), Au (n := 65536 + ((hi : Int) - 55296) * 1024) (by omega), Au (n := 65536 + ((hi : Int) - 55296) * 1024 + (lo : Int)) (by omega), Au (by omega)]
  unfold Rl; omega
def Jq (t : List UInt8) : List UInt8 × Nat × Int :=
  match t with
  | _ :: c :: _ => (match KD c.toNat with | some b => ([b], 2, 0) | none => ([], 0, 130))
  | _ => ([], 0, 130)
theorem JW {t : List UInt8} (h : FO t = none) : HZ t = Jq t := by
  unfold HZ Jq; rw [h]
theorem Jd {t : List UInt8} {hi : Nat} (h : FO t = some hi) : HZ t = ((
    if 55296 ≤ hi ∧ hi ≤ 56319 then
      match FO (t.drop 6) with
      | some lo => if 56320 ≤ lo ∧ lo ≤ 57343 then (Kv (Rl hi lo), 12, 0) else ([], 0, 7)
      | none => ([], 0, 7)
    else if 56320 ≤ hi ∧ hi ≤ 57343 then ([], 0, 7) else (Kv hi, 6, 0)) : List UInt8 × Nat × Int) := by
  unfold HZ; rw [h]
theorem Te {n : Nat} (h : Bo (n : Int) = true) : encR (n : Int) = (Kv n, 0) := by unfold encR; rw [if_pos h]; rfl
theorem PR {n : Nat} (h : Bo (n : Int) = false) : encR (n : Int) = ([], 4) := by unfold encR; rw [if_neg (by rw [h]; decide)]
theorem AIS : KD (117 : UInt8).toNat = none := by rw [show (117 : UInt8).toNat = 117 from rfl]; rfl
theorem AAC {l t : List UInt8} {i : Nat} (ht : l.drop i = t) (hi : i ≤ l.length) (hb : l.length ≤ 2 ^ 50) (hN : 9 ≤ N) :
    ∃ q : TokenReader, Dm N ⟨l, (i : Int)⟩ = some ((HZ t).1, (HZ t).2.2, q) ∧ ((HZ t).2.2 = 0 → q = ⟨l, ((i + (HZ t).2.1 : Nat) : Int)⟩) := by
  have hl := CP ht hi
  unfold Dm
  rw [YS ht hi hb, Option.bind_some]
  cases hu : FO t with
  | none =>
    have w1 : wr .i64 ((i : Int) + 1) = ((i + 1 : Nat) : Int) := by rw [Au (by omega)]; simp
    rw [JW hu]
    simp only [Bool.false_eq_true, if_false, w1, AO]
    unfold FN
    match t, ht, hl with
    | [], ht, hl =>
      simp only [List.length_nil] at hl
      have c : ¬ ((i + 1 : Nat) : Int) < (l.length : Int) := by omega
      have c' : ((i + 1 : Nat) : Int) ≥ (l.length : Int) := by omega
      simp only [c, decide_false, Bool.false_eq_true, if_false, Option.bind_some]
      simp only [strings_IndexByte, Ad, Option.bind_some, c', decide_true, if_true]
      exact ⟨_, rfl, fun h => by cases h⟩
    | [_], ht, hl =>
      simp only [List.length_nil, List.length_cons] at hl
      have c : ¬ ((i + 1 : Nat) : Int) < (l.length : Int) := by omega
      have c' : ((i + 1 : Nat) : Int) ≥ (l.length : Int) := by omega
      simp only [c, decide_false, Bool.false_eq_true, if_false, Option.bind_some]
      simp only [strings_IndexByte, Ad, Option.bind_some, c', decide_true, if_true]
      exact ⟨_, rfl, fun h => by cases h⟩
    | x :: c :: r, ht, hl =>
      simp only [List.length_cons] at hl
      have d : ((i + 1 : Nat) : Int) < (l.length : Int) := by omega
      have d' : ¬ ((i + 1 : Nat) : Int) ≥ (l.length : Int) := by omega
      have hc := Mr (j := 1) ht rfl
      have w2 : wr .i64 (((i + 1 : Nat) : Int) + 1) = ((i + 2 : Nat) : Int) := by rw [Au (by omega)]; omega
      simp only [d, decide_true, if_true]
      rw [hc, Option.bind_some, Option.bind_some]
      simp only [strings_IndexByte, Ad, Option.bind_some, d', decide_false, Bool.false_eq_true, if_false, Ia, w2]
      have key := EA (f := fun n => if decide (Go.Lib.indexByte ([34, 92, 47, 98, 102, 110, 114, 116] : List UInt8) (UInt8.ofNat n) < 0) = true then none else sub ([34, 92, 47, 8, 12, 10, 13, 9] : List UInt8) (Go.Lib.indexByte [34, 92, 47, 98, 102, 110, 114, 116] (UInt8.ofNat n)) (wr .i64 (Go.Lib.indexByte [34, 92, 47, 98, 102, 110, 114, 116] (UInt8.ofNat n) + 1))) (g := fun n => (KD n).map fun b => [b]) (by kernel_rfl) c
      simp only [UInt8.ofNat_toNat] at key
      by_cases hneg : Go.Lib.indexByte ([34, 92, 47, 98, 102, 110, 114, 116] : List UInt8) c < 0
      · simp only [hneg, decide_true, if_true] at key ⊢
        have : KD c.toNat = none := by
          cases hs : KD c.toNat with
          | none => rfl
          | some b => rw [hs] at key; cases key
        simp only [Jq, this]
        exact ⟨_, rfl, fun h => by cases h⟩
      · simp only [hneg, decide_false, Bool.false_eq_true, if_false] at key ⊢
        cases hs : KD c.toNat with
        | none =>
          exfalso
          rw [hs] at key
          have f : ∀ c : UInt8, (if decide (Go.Lib.indexByte ([34, 92, 47, 98, 102, 110, 114, 116] : List UInt8) c < 0) = true then true else (KD c.toNat).isSome) = true := by
            intro c
            have := EA (f := fun n => if decide (Go.Lib.indexByte ([34, 92, 47, 98, 102, 110, 114, 116] : List UInt8) (UInt8.ofNat n) < 0) = true then true else (KD n).isSome) (g := fun n => true) (by kernel_rfl) c
            simpa only [UInt8.ofNat_toNat] using this
          have := f c
          simp only [hneg, decide_false, Bool.false_eq_true, if_false, hs] at this
          cases this
        | some b =>
          rw [hs] at key
          rw [key]
          simp only [Jq, hs, Option.map_some, Option.bind_some]
          exact ⟨_, rfl, fun _ => rfl⟩
  | some hi' =>
    obtain ⟨h1, h2, r, rfl⟩ := Iw hu
    rw [Jd hu]
    simp only [if_true, AO]
    by_cases c1 : 55296 ≤ hi' ∧ hi' ≤ 56319
    · have d1 : (hi' : Int) ≥ 55296 := by omega
      have d2 : (hi' : Int) ≤ 56319 := by omega
      have hp : Bo (hi' : Int) = false := by
        have : ¬ Bo (hi' : Int) = true := by
          simp only [Bo, Bool.and_eq_true, Bool.or_eq_true, decide_eq_true_eq]; omega
        simpa using this
      simp only [c1, d1, d2, and_self, if_true, decide_true]
      rw [YS (t := (92 :: 117 :: r).drop 6) (by rw [← List.drop_drop, ht]) (by omega) hb, Option.bind_some]
      cases hu2 : FO ((92 :: 117 :: r).drop 6) with
      | none =>
        simp only [Bool.false_eq_true, if_false]
        rw [Io (by omega), PR hp]
        exact ⟨_, rfl, fun h => by cases h⟩
      | some lo =>
        simp only [if_true]
        by_cases c2 : 56320 ≤ lo ∧ lo ≤ 57343
        · have e1 : (lo : Int) ≥ 56320 := by omega
          have e2 : (lo : Int) ≤ 57343 := by omega
          simp only [e1, e2, c2, and_self, if_true, decide_true]
          rw [AKP c1 c2, Io (by omega), Te (AAz c1 c2)]
          simp only [Option.bind_some, bne_self_eq_false, Bool.false_eq_true, if_false, show i + 6 + 6 = i + 12 by omega]
          exact ⟨_, rfl, fun _ => rfl⟩
        · by_cases c3 : (lo : Int) ≥ 56320
          · have e2 : ¬ (lo : Int) ≤ 57343 := by omega
            simp only [c3, e2, decide_true, decide_false, Bool.false_eq_true, if_false, if_true, c2]
            rw [Io (by omega), PR hp]
            exact ⟨_, rfl, fun h => by cases h⟩
          · simp only [c3, decide_false, Bool.false_eq_true, if_false, c2]
            rw [Io (by omega), PR hp]
            exact ⟨_, rfl, fun h => by cases h⟩
    · rw [if_neg c1]
      have hk : (if decide ((hi' : Int) ≥ 55296) = true then decide ((hi' : Int) ≤ 56319) else false) = false := by
        by_cases c : (hi' : Int) ≥ 55296
        · have : ¬ (hi' : Int) ≤ 56319 := by omega
          simp [c, this]
        · simp [c]
      by_cases c2 : 56320 ≤ hi' ∧ hi' ≤ 57343
      · rw [if_pos c2]
        have hp : Bo (hi' : Int) = false := by
          have : ¬ Bo (hi' : Int) = true := by
            simp only [Bo, Bool.and_eq_true, Bool.or_eq_true, decide_eq_true_eq]; omega
          simpa using this
        have d1 : (hi' : Int) ≥ 55296 := by omega
        have d2 : ¬ (hi' : Int) ≤ 56319 := by omega
        simp only [d1, d2, decide_true, decide_false, Bool.false_eq_true, if_true, if_false]
        rw [Io (by omega), PR hp]
        exact ⟨_, rfl, fun h => by cases h⟩
      · rw [if_neg c2]
        have hp : Bo (hi' : Int) = true := by
          simp only [Bo, Bool.and_eq_true, Bool.or_eq_true, decide_eq_true_eq]; omega
        by_cases c3 : (hi' : Int) ≥ 55296
        · have d2 : ¬ (hi' : Int) ≤ 56319 := by omega
          simp only [c3, d2, decide_true, decide_false, Bool.false_eq_true, if_true, if_false]
          rw [Io (by omega), Te hp]
          exact ⟨_, rfl, fun _ => rfl⟩
        · simp only [c3, decide_false, Bool.false_eq_true, if_false]
          rw [Io (by omega), Te hp]
          exact ⟨_, rfl, fun _ => rfl⟩
end
end Go.VM
namespace Go.VM
section
variable {N : Nat}
theorem Kw {t : List UInt8} {r n : Nat} (h : Hd t = some (r, n)) : 1 ≤ n ∧ n ≤ t.length ∧ n ≤ 4 := by
  match t, h with
  | [], h => cases h
  | a :: t, h =>
    simp only [Hd] at h
    split at h
    · simp only [Option.some.injEq, Prod.mk.injEq] at h; obtain ⟨_, rfl⟩ := h; simp
    · split at h
      · match t, h with
        | [], h => cases h
        | b :: t, h =>
          simp only at h
          split at h
          · simp only [Option.some.injEq, Prod.mk.injEq] at h; obtain ⟨_, rfl⟩ := h; simp
          · cases h
      · split at h
        · match t, h with
          | [], h => cases h
          | [_], h => cases h
          | b :: c :: t, h =>
            simp only at h
            split at h
            · simp only [Option.some.injEq, Prod.mk.injEq] at h; obtain ⟨_, rfl⟩ := h; simp
            · cases h
        · split at h
          · match t, h with
            | [], h => cases h
            | [_], h => cases h
            | [_, _], h => cases h
            | b :: c :: d :: t, h =>
              simp only at h
              split at h
              · simp only [Option.some.injEq, Prod.mk.injEq] at h; obtain ⟨_, rfl⟩ := h; simp
              · cases h
          · cases h
theorem YA (r : Nat) : 1 ≤ (Kv r).length ∧ (Kv r).length ≤ 4 := by
  unfold Kv
  split
  · simp
  · split
    · simp
    · split <;> simp
theorem Pm {t : List UInt8} (h : (HZ t).2.2 = 0) : 2 ≤ (HZ t).2.1 ∧ (HZ t).2.1 ≤ t.length ∧ (HZ t).1.length ≤ 4 ∧ (HZ t).1.length ≤ (HZ t).2.1 := by
  cases hu : FO t with
  | none =>
    rw [JW hu] at h ⊢
    match t, h with
    | [], h => cases h
    | [_], h => cases h
    | _ :: c :: r, h =>
      simp only [Jq] at h ⊢
      cases hs : KD c.toNat with
      | none => rw [hs] at h; cases h
      | some b => simp
  | some hi =>
    obtain ⟨h1, h2, _⟩ := Iw hu
    rw [Jd hu] at h ⊢
    by_cases c1 : 55296 ≤ hi ∧ hi ≤ 56319
    · simp only [c1, and_self, if_true] at h ⊢
      cases hu2 : FO (t.drop 6) with
      | none => rw [hu2] at h; cases h
      | some lo =>
        obtain ⟨_, h3, _⟩ := Iw hu2
        rw [hu2] at h
        simp only at h ⊢
        by_cases c2 : 56320 ≤ lo ∧ lo ≤ 57343
        · simp only [c2, and_self, if_true] at h ⊢
          have := YA (Rl hi lo)
          rw [List.length_drop] at h3
          exact ⟨by omega, by omega, by omega, by omega⟩
        · rw [if_neg c2] at h; cases h
    · rw [if_neg c1] at h ⊢
      by_cases c2 : 56320 ≤ hi ∧ hi ≤ 57343
      · rw [if_pos c2] at h; cases h
      · rw [if_neg c2]
        have := YA hi
        exact ⟨by simp, by simpa using h2, by simpa using this.2, by simp only []; omega⟩
def Bw : Nat → List UInt8 → Nat → List UInt8 → List UInt8 × Nat × Int
  | 0, _, _, _ => ([], 0, 130)
  | _ + 1, [], _, _ => ([], 0, 130)
  | k + 1, c :: t, i, out =>
    if c.toNat = 34 then (out, i + 1, 0)
    else if c.toNat = 92 then
      if (HZ (c :: t)).2.2 = 0 then Bw k ((c :: t).drop (HZ (c :: t)).2.1) (i + (HZ (c :: t)).2.1) (out ++ (HZ (c :: t)).1)
      else ([], 0, (HZ (c :: t)).2.2)
    else if c.toNat < 32 then ([], 0, 130)
    else
      match Hd (c :: t) with
      | some (_, n) => Bw k ((c :: t).drop n) (i + n) (out ++ (c :: t).take n)
      | none => ([], 0, 7)
def outT (r : List UInt8 × Nat × Int) : List UInt8 × Int × Int := if r.2.2 = 0 then (r.1, (r.2.1 : Int), 0) else ([], 0, r.2.2)
theorem QC : ∀ (k : Nat) (t : List UInt8) (i : Nat) (out : List UInt8), (Bw k t i out).2.2 = 0 → i < (Bw k t i out).2.1 ∧ (Bw k t i out).2.1 ≤ i + t.length ∧ (Bw k t i out).1.length ≤ out.length + t.length
  | 0, t, i, out, h => by rw [Bw] at h; cases h
  | k + 1, [], i, out, h => by rw [Bw] at h; cases h
  | k + 1, c :: t, i, out, h => by
    rw [Bw] at h ⊢
    split at h
    · rename_i c1
      simp only [c1, if_true, List.length_cons]; omega
    · rename_i c1
      split at h
      · rename_i c2
        split at h
        · rename_i c3
          have := QC k _ _ _ h
          obtain ⟨e1, e2, e3, e4⟩ := Pm c3
          rw [if_neg c1, if_pos c2, if_pos c3]
          simp only [List.length_drop, List.length_append] at this
          omega
        · rename_i c3; exact absurd h c3
      · rename_i c2
        split at h
        · cases h
        · rename_i c3
          cases hd : Hd (c :: t) with
          | none => rw [hd] at h; cases h
          | some p =>
            obtain ⟨r, n⟩ := p
            rw [hd] at h
            rw [if_neg c1, if_neg c2, if_neg c3]
            have := QC k _ _ _ h
            obtain ⟨e1, e2, e3⟩ := Kw hd
            simp only [List.length_drop, List.length_append, List.length_take] at this ⊢
            omega
theorem Qb {n : Nat} {k : Nat} : ((n : Int) == (k : Int)) = decide (n = k) := by
  by_cases h : n = k
  · simp [h]
  · have : ¬ (n : Int) = (k : Int) := by omega
    simp [h]; omega
theorem ALJ (c : UInt8) : (AP c == 34) = decide (c.toNat = 34) := Qb (k := 34)
theorem AL4 (c : UInt8) : (AP c == 92) = decide (c.toNat = 92) := Qb (k := 92)
theorem ALz (c : UInt8) : decide (AP c < 32) = decide (c.toNat < 32) := by
  have := c.toNat_lt
  simp only [AP]; congr 1; simp only [eq_iff_iff]; omega
theorem Pf {i r n : Nat} : Fw i (some (r, n)) = ((r : Int), ((i + n : Nat) : Int), 0) := rfl
theorem head_drop {l t : List UInt8} {c : UInt8} {i : Nat} (ht : l.drop i = c :: t) : idx l (i : Int) = some c := by
  have := Mr (j := 0) ht rfl
  simpa using this
section
variable {l : List UInt8}
theorem MM (hb : l.length ≤ 2 ^ 40) (hN : 9 ≤ N) (k2 : Bool × List UInt8 × List UInt8 × Int → Option (List UInt8 × Int × TokenReader)) (hk : ∀ q, ∃ q', k2 q = some ([], 130, q')) : ∀ (k : Nat) (t : List UInt8) (i : Nat) (ad : Bool) (out : List UInt8), l.drop i = t → i ≤ l.length → t.length < k → out.length ≤ i →
    ∃ q, BS N k2 k ad out l (i : Int) = some ((outT (Bw k t i out)).1, (outT (Bw k t i out)).2.2, q) ∧ ((Bw k t i out).2.2 = 0 → q = ⟨l, ((Bw k t i out).2.1 : Int)⟩)
  | 0, t, i, ad, out, ht, hi, h, ho => by omega
  | k + 1, [], i, ad, out, ht, hi, h, ho => by
    have hl := CP ht hi
    simp only [List.length_nil] at hl
    have c : ¬ (i : Int) < (l.length : Int) := by omega
    rw [BS, Bw]
    obtain ⟨q, hq⟩ := hk (ad, out, l, (i : Int))
    rw [if_neg (by simpa using c), hq]
    exact ⟨q, rfl, fun h => by cases h⟩
  | k + 1, c :: t, i, ad, out, ht, hi, h, ho => by
    have hl := CP ht hi
    simp only [List.length_cons] at hl h
    have c0 : (i : Int) < (l.length : Int) := by omega
    have w1 : wr .i64 ((i : Int) + 1) = ((i + 1 : Nat) : Int) := by rw [Au (by omega)]; simp
    rw [BS, Bw]
    rw [if_pos (decide_eq_true c0), head_drop ht, Option.bind_some, ALJ, AL4, ALz, w1]
    have ws : ∀ x : List UInt8, x.length ≤ 4 → Bb N (StringsBuilder.mk ad out) x = some ((x.length : Int), (), StringsBuilder.mk true (out ++ x)) := by
      intro x hx
      unfold Bb DL
      cases ad <;> simp only [Bool.false_eq_true, if_false, if_true, Option.bind_some] <;> rw [AL (by unfold Bz; omega)]
    by_cases c1 : c.toNat = 34
    · rw [if_pos (decide_eq_true c1), if_pos c1]
      exact ⟨_, rfl, fun _ => rfl⟩
    · rw [if_neg (by simpa using c1), if_neg c1]
      by_cases c2 : c.toNat = 92
      · rw [if_pos (decide_eq_true c2), if_pos c2]
        obtain ⟨q, hq, hq0⟩ := AAC (N := N) ht hi (by omega) hN
        rw [hq, Option.bind_some]
        by_cases c3 : (HZ (c :: t)).2.2 = 0
        · obtain ⟨e1, e2, e3, e4⟩ := Pm c3
          rw [if_neg (by simpa using c3), ws _ e3, Option.bind_some, if_pos c3]
          rw [hq0 c3]
          simp only [List.length_cons] at e2
          exact MM hb hN k2 hk k _ _ true _ (by rw [← List.drop_drop, ht]) (by omega) (by simp only [List.length_drop, List.length_cons]; omega) (by simp only [List.length_append]; omega)
        · rw [if_pos (by simpa using c3), if_neg c3]
          refine ⟨q, ?_, fun h => absurd h c3⟩
          unfold outT; rw [if_neg c3]
      · rw [if_neg (by simpa using c2), if_neg c2]
        by_cases c3 : c.toNat < 32
        · rw [if_pos (decide_eq_true c3), if_pos c3]
          exact ⟨_, rfl, fun h => by cases h⟩
        · rw [if_neg (by simpa using c3), if_neg c3]
          unfold FU
          simp only [AO]
          rw [AGk (by omega) (by omega) (by omega), Option.bind_some, ht]
          cases hd : Hd (c :: t) with
          | none => exact ⟨_, rfl, fun h => by cases h⟩
          | some p =>
            obtain ⟨r, n⟩ := p
            obtain ⟨e1, e2, e3⟩ := Kw hd
            simp only [List.length_cons] at e2
            rw [Pf, if_neg (by simp), DX l i (i + n) (by omega) (by omega), Option.bind_some, Nat.add_sub_cancel_left, ht, Option.bind_some]
            rw [if_neg (by simp), ws _ (by rw [List.length_take]; omega), Option.bind_some]
            exact MM hb hN k2 hk k _ _ true _ (by rw [← List.drop_drop, ht]) (by omega) (by simp only [List.length_drop, List.length_cons]; omega) (by rw [List.length_append, List.length_take]; omega)
theorem AJC (hb : l.length ≤ 2 ^ 40) (hN : l.length + 9 ≤ N) {i : Nat} (hi : i < l.length) : ∃ q, EI N ⟨l, (i : Int)⟩ = some ((outT (Bw N (l.drop (i + 1)) (i + 1) [])).1, (outT (Bw N (l.drop (i + 1)) (i + 1) [])).2.2, q) ∧ ((Bw N (l.drop (i + 1)) (i + 1) []).2.2 = 0 → q = ⟨l, ((Bw N (l.drop (i + 1)) (i + 1) []).2.1 : Int)⟩) := by
  unfold EI
  rw [AO, Au (by simp only []; omega)]
  exact MM hb (by omega) _ (fun q => ⟨_, rfl⟩) N _ (i + 1) false [] rfl (by omega) (by rw [List.length_drop]; omega) (by simp)
end
end
end Go.VM
namespace Go.VM
section
variable {N : Nat}
theorem MJ {α : Type} (p : α → Bool) (t : List α) : t.take (t.takeWhile p).length = t.takeWhile p :=
  (List.prefix_iff_eq_take.1 (List.takeWhile_prefix p)).symm
theorem KT {α : Type} (p : α → Bool) (t : List α) : (t.takeWhile p).length ≤ t.length := (List.takeWhile_sublist p).length_le
def Cm (c : UInt8) : Bool := decide (48 ≤ c.toNat) && decide (c.toNat ≤ 57)
def AFG (n : Nat) : Bool := (decide (65 ≤ n) && decide (n ≤ 90)) || (decide (97 ≤ n) && decide (n ≤ 122))
def BX (c : UInt8) : Bool := AFG c.toNat
def wsN (n : Nat) : Bool := decide (n = 32) || decide (n = 9) || decide (n = 10) || decide (n = 13)
def wsB (c : UInt8) : Bool := wsN c.toNat
theorem Tc (c : UInt8) : DY N (AP c) = some (Cm c) :=
  EA (f := fun n => DY N (n : Int)) (g := fun n => some (decide (48 ≤ n) && decide (n ≤ 57))) (by kernel_rfl) c
theorem ABP (c : UInt8) : FD N (AP c) = some (Cm c) :=
  EA (f := fun n => FD N (n : Int)) (g := fun n => some (decide (48 ≤ n) && decide (n ≤ 57))) (by kernel_rfl) c
theorem SF (c : UInt8) : FB N (AP c) = some (BX c) :=
  EA (f := fun n => FB N (n : Int)) (g := fun n => some (AFG n)) (by kernel_rfl) c
theorem AJe (c : UInt8) : IG N (AP c) = some (wsB c) :=
  EA (f := fun n => IG N (n : Int)) (g := fun n => some (wsN n)) (by kernel_rfl) c
theorem Y8 (c : UInt8) (k2 : Unit → Option Bool) (h : k2 () = some false) : ∀ l : List UInt8, Dx N (AP c) k2 l = some (l.contains c)
  | [] => by rw [Dx]; simpa using h
  | x :: l => by
    rw [Dx, Y8 c k2 h l, List.contains_cons]
    by_cases e : x = c
    · subst e; simp
    · have e1 : ¬ c = x := fun h => e h.symm
      have : (AP x == AP c) = false := by
        have : ¬ x.toNat = c.toNat := fun h => e (UInt8.toNat_inj.1 h)
        simp only [AP, beq_eq_false_iff_ne, ne_eq]; omega
      simp [this, e1]
theorem TM (c : UInt8) (l : List UInt8) (h : l.length ≤ 1000) : Gs N (AP c) l = some (l.contains c) := by
  unfold Gs
  rw [AO, Jg (by omega)]
  exact Y8 c _ rfl l
theorem index_ge : ∀ (l : List UInt8) (c : UInt8), decide (Go.Lib.indexByte l c ≥ 0) = l.contains c
  | [], c => rfl
  | x :: l, c => by
    have ih := index_ge l c
    have h := Go.Lib.indexByte_ge l c
    rw [Go.Lib.indexByte, List.contains_cons]
    by_cases e : x = c
    · subst e; simp
    · have e1 : (c == x) = false := by simpa using fun h : c = x => e h.symm
      have e2 : (x == c) = false := by simpa using e
      rw [e1, e2, Bool.false_or, ← ih]
      simp only [Bool.false_eq_true, if_false]
      by_cases k : Go.Lib.indexByte l c = -1
      · simp [k]
      · have k' : (Go.Lib.indexByte l c == -1) = false := by simpa using k
        rw [k']; simp only [Bool.false_eq_true, if_false]
        congr 1; simp only [eq_iff_iff]; omega
theorem SC (l : List UInt8) (c : UInt8) : strings_IndexByte N l (AP c) = some (Go.Lib.indexByte l c) := by
  unfold strings_IndexByte Ad; rw [Ia]; rfl
section
variable {l : List UInt8}
theorem Yz (hb : l.length ≤ 2 ^ 50) (s : Int) (k2 : Int → Option (List UInt8 × TokenReader)) : ∀ (t : List UInt8) (i : Nat), l.drop i = t → i ≤ l.length → AY N ⟨l, s⟩ k2 t.length (i : Int) = k2 ((i + (t.takeWhile Cm).length : Nat) : Int)
  | [], i, ht, hi => by rw [List.length_nil, AY]; rfl
  | c :: t, i, ht, hi => by
    have hl := CP ht hi
    simp only [List.length_cons] at hl
    rw [List.length_cons, AY]
    rw [head_drop ht, Option.bind_some, Tc, Option.bind_some, List.takeWhile_cons]
    cases Cm c
    · simp
    · rw [if_pos rfl, if_pos rfl, show (i : Int) + 1 = ((i + 1 : Nat) : Int) by simp, Yz hb s k2 t (i + 1) (by rw [← List.drop_drop, ht]; rfl) (by omega)]
      rw [List.length_cons]; congr 2; omega
theorem Va (hb : l.length ≤ 2 ^ 50) (s : Int) (k2 : Int → Option (List UInt8 × TokenReader)) : ∀ (t : List UInt8) (i : Nat), l.drop i = t → i ≤ l.length → AX N ⟨l, s⟩ k2 t.length (i : Int) = k2 ((i + (t.takeWhile BX).length : Nat) : Int)
  | [], i, ht, hi => by rw [List.length_nil, AX]; rfl
  | c :: t, i, ht, hi => by
    have hl := CP ht hi
    simp only [List.length_cons] at hl
    rw [List.length_cons, AX]
    rw [head_drop ht, Option.bind_some, SF, Option.bind_some, List.takeWhile_cons]
    cases BX c
    · simp
    · rw [if_pos rfl, if_pos rfl, show (i : Int) + 1 = ((i + 1 : Nat) : Int) by simp, Va hb s k2 t (i + 1) (by rw [← List.drop_drop, ht]; rfl) (by omega)]
      rw [List.length_cons]; congr 2; omega
theorem YF (hb : l.length ≤ 2 ^ 50) (s : Int) (k2 : Int → Option (List UInt8 × TokenReader)) : ∀ (t : List UInt8) (i : Nat), l.drop i = t → i ≤ l.length → AZ N ⟨l, s⟩ k2 t.length (i : Int) = k2 ((i + (t.takeWhile wsB).length : Nat) : Int)
  | [], i, ht, hi => by rw [List.length_nil, AZ]; rfl
  | c :: t, i, ht, hi => by
    have hl := CP ht hi
    simp only [List.length_cons] at hl
    rw [List.length_cons, AZ]
    rw [head_drop ht, Option.bind_some, AJe, Option.bind_some, List.takeWhile_cons]
    cases wsB c
    · simp
    · rw [if_pos rfl, if_pos rfl, show (i : Int) + 1 = ((i + 1 : Nat) : Int) by simp, YF hb s k2 t (i + 1) (by rw [← List.drop_drop, ht]; rfl) (by omega)]
      rw [List.length_cons]; congr 2; omega
variable {t : List UInt8} {i : Nat}
theorem Nc (p : UInt8 → Bool) (ht : l.drop i = t) (hi : i ≤ l.length) : sub l (i : Int) ((i + (t.takeWhile p).length : Nat) : Int) = some (t.takeWhile p) := by
  have hl := CP ht hi
  have := KT p t
  rw [DX l i _ (by omega) (by omega), Nat.add_sub_cancel_left, ht, MJ]
theorem AFo (ht : l.drop i = t) (hi : i ≤ l.length) (hb : l.length ≤ 2 ^ 50) : BA N ⟨l, (i : Int)⟩ = some (t.takeWhile Cm, ⟨l, ((i + (t.takeWhile Cm).length : Nat) : Int)⟩) := by
  have hl := CP ht hi
  unfold BA
  rw [AO, AL (by simp only []; omega)]
  rw [show ((l.length : Int) - (i : Int)).toNat = t.length by omega, Yz hb _ _ t i ht hi]
  simp only []
  rw [Nc Cm ht hi, Option.bind_some]
theorem AKo (ht : l.drop i = t) (hi : i ≤ l.length) (hb : l.length ≤ 2 ^ 50) : A9 N ⟨l, (i : Int)⟩ = some (t.takeWhile BX, ⟨l, ((i + (t.takeWhile BX).length : Nat) : Int)⟩) := by
  have hl := CP ht hi
  unfold A9
  rw [AO, AL (by simp only []; omega)]
  rw [show ((l.length : Int) - (i : Int)).toNat = t.length by omega, Va hb _ _ t i ht hi]
  simp only []
  rw [Nc BX ht hi, Option.bind_some]
theorem AHS (ht : l.drop i = t) (hi : i ≤ l.length) (hb : l.length ≤ 2 ^ 50) : Bc N ⟨l, (i : Int)⟩ = some (t.takeWhile wsB, ⟨l, ((i + (t.takeWhile wsB).length : Nat) : Int)⟩) := by
  have hl := CP ht hi
  unfold Bc
  rw [AO, AL (by simp only []; omega)]
  rw [show ((l.length : Int) - (i : Int)).toNat = t.length by omega, YF hb _ _ t i ht hi]
  simp only []
  rw [Nc wsB ht hi, Option.bind_some]
def Bn (set t : List UInt8) : Bool := match t with | c :: _ => set.contains c | [] => false
theorem Kq (set : List UInt8) (ht : l.drop i = t) (hi : i ≤ l.length) (hb : l.length ≤ 2 ^ 50) : A7 N ⟨l, (i : Int)⟩ set = some (Bn set t, ⟨l, ((i + (if Bn set t = true then 1 else 0) : Nat) : Int)⟩) := by
  have hl := CP ht hi
  unfold A7
  rw [AO]
  match t, ht, hl with
  | [], ht, hl =>
    simp only [List.length_nil] at hl
    have c : ¬ (i : Int) < (l.length : Int) := by omega
    rw [if_neg (by simpa using c)]; rfl
  | c :: t, ht, hl =>
    simp only [List.length_cons] at hl
    have c0 : (i : Int) < (l.length : Int) := by omega
    rw [if_pos (decide_eq_true c0)]
    simp only []
    rw [head_drop ht, Option.bind_some, SC, Option.bind_some, index_ge, Au (by omega)]
    have key : ∀ b : Bool, (if b = true then some (true, (⟨l, (i : Int) + 1⟩ : TokenReader)) else some (false, (⟨l, (i : Int)⟩ : TokenReader))) = some (b, (⟨l, ((i + (if b = true then 1 else 0) : Nat) : Int)⟩ : TokenReader)) := by
      intro b; cases b <;> simp
    exact key _
def Cu (t : List UInt8) : Nat := (t.takeWhile Cm).length
theorem Ju (t : List UInt8) : Cu t ≤ t.length := KT _ _
theorem SI (t : List UInt8) : (t.takeWhile Cm == []) = decide (Cu t = 0) := by
  unfold Cu
  cases t.takeWhile Cm <;> simp
def AR (t : List UInt8) : Nat := if Bn [45] t = true then 1 else 0
def BR (t : List UInt8) : Nat := if Bn [48] t = true then 1 else Cu t
def Cb (t : List UInt8) : Nat := if Bn [46] t = true ∧ 0 < Cu (t.drop 1) then 1 + Cu (t.drop 1) else 0
def EZ (t : List UInt8) : Nat := if Bn [43, 45] (t.drop 1) = true then 1 else 0
def Fx (t : List UInt8) : Nat := if Bn [101, 69] t = true ∧ 0 < Cu (t.drop (1 + EZ t)) then 1 + EZ t + Cu (t.drop (1 + EZ t)) else 0
def Bi (t : List UInt8) : Nat :=
  if BR (t.drop (AR t)) = 0 then 0
  else AR t + BR (t.drop (AR t)) + Cb (t.drop (AR t + BR (t.drop (AR t)))) +
    Fx (t.drop (AR t + BR (t.drop (AR t)) + Cb (t.drop (AR t + BR (t.drop (AR t))))))
theorem FI {set t : List UInt8} (h : Bn set t = true) : 0 < t.length := by
  cases t with
  | nil => cases h
  | cons => simp
theorem ND (t : List UInt8) : AR t ≤ t.length := by
  unfold AR; split
  · rename_i h; exact FI h
  · omega
theorem Ms (t : List UInt8) : BR t ≤ t.length := by
  unfold BR; split
  · rename_i h; exact FI h
  · exact Ju t
theorem MV (t : List UInt8) : Cb t ≤ t.length := by
  unfold Cb; split
  · rename_i h
    have := FI h.1
    have := Ju (t.drop 1)
    rw [List.length_drop] at this; omega
  · omega
theorem UJ (t : List UInt8) : Fx t ≤ t.length := by
  unfold Fx; split
  · rename_i h
    have h1 := FI h.1
    have := Ju (t.drop (1 + EZ t))
    rw [List.length_drop] at this
    have h2 := h.2
    omega
  · omega
theorem PM (t : List UInt8) : Bi t ≤ t.length := by
  unfold Bi
  split
  · omega
  · have h1 := ND t
    have h2 := Ms (t.drop (AR t))
    have h3 := MV (t.drop (AR t + BR (t.drop (AR t))))
    have h4 := UJ (t.drop (AR t + BR (t.drop (AR t)) + Cb (t.drop (AR t + BR (t.drop (AR t))))))
    simp only [List.length_drop] at h2 h3 h4
    omega
theorem Qf {f : Int} (ht : l.drop i = t) (hi : i ≤ l.length) (hb : l.length ≤ 2 ^ 50) : Bf N ⟨l, (i : Int)⟩ f = some ⟨l, if 0 < Cu t then ((i + Cu t : Nat) : Int) else f⟩ := by
  unfold Bf
  rw [AFo ht hi hb, Option.bind_some]
  simp only [SI]
  by_cases h : Cu t = 0
  · rw [if_pos (decide_eq_true h), if_neg (by omega)]
  · rw [if_neg (by simpa using h), if_pos (by omega)]; rfl
theorem Ji {a : Nat} (ht : l.drop i = t) (n : Nat) (h : a = i + n) : l.drop a = t.drop n := by rw [h, ← List.drop_drop, ht]
theorem Lv (ht : l.drop i = t) (hi : i ≤ l.length) (hb : l.length ≤ 2 ^ 50) :
    if Bi t = 0 then ∃ q, BF N ⟨l, (i : Int)⟩ = some ([], false, q) else BF N ⟨l, (i : Int)⟩ = some (t.take (Bi t), true, ⟨l, ((i + Bi t : Nat) : Int)⟩) := by
  have hl := CP ht hi
  have h1 := ND t
  have h2 := Ms (t.drop (AR t))
  have h3 := MV (t.drop (AR t + BR (t.drop (AR t))))
  have h4 := UJ (t.drop (AR t + BR (t.drop (AR t)) + Cb (t.drop (AR t + BR (t.drop (AR t))))))
  simp only [List.length_drop] at h2 h3 h4
  unfold BF
  rw [Kq [45] ht hi hb, Option.bind_some]
  change if Bi t = 0 then ∃ q, AU _ _ = some ([], false, q) else AU _ _ = _
  rw [show (if Bn [45] t = true then 1 else 0) = AR t from rfl]
  have hta := Ji ht (AR t) rfl
  rw [Kq [48] hta (by omega) hb]
  simp only [Option.bind_some]
  have rest : ∀ a : Nat, a = i + (AR t + BR (t.drop (AR t))) → BR (t.drop (AR t)) ≠ 0 →
      (AU (fun j11 : TokenReader => AU (fun j19 : TokenReader => Option.bind (sub j19.s (i : Int) j19.at_) fun x29 => some (x29, true, j19)) fun k20 =>
        Option.bind (A7 N j11 ([101, 69] : List UInt8)) fun y23 => if y23.1 = true then Option.bind (A7 N y23.2 ([43, 45] : List UInt8)) fun y25 => Option.bind (Bf N y25.2 j11.at_) fun y27 => k20 y27 else k20 y23.2) fun k12 =>
      Option.bind (A7 N ⟨l, (a : Int)⟩ ([46] : List UInt8)) fun y15 => if y15.1 = true then Option.bind (Bf N y15.2 (a : Int)) fun y17 => k12 y17 else k12 y15.2) = some (t.take (Bi t), true, (⟨l, ((i + Bi t : Nat) : Int)⟩ : TokenReader)) := by
    intro a ha hne
    have htb := Ji ht (AR t + BR (t.drop (AR t))) ha
    have hnum : Bi t = AR t + BR (t.drop (AR t)) + Cb (t.drop (AR t + BR (t.drop (AR t)))) + Fx (t.drop (AR t + BR (t.drop (AR t)) + Cb (t.drop (AR t + BR (t.drop (AR t)))))) := by
      unfold Bi; rw [if_neg hne]
    have last : ∀ b : Nat, b = i + (AR t + BR (t.drop (AR t)) + Cb (t.drop (AR t + BR (t.drop (AR t))))) →
        (AU (fun j19 : TokenReader => Option.bind (sub j19.s (i : Int) j19.at_) fun x29 => some (x29, true, j19)) fun k20 =>
          Option.bind (A7 N ⟨l, (b : Int)⟩ ([101, 69] : List UInt8)) fun y23 => if y23.1 = true then Option.bind (A7 N y23.2 ([43, 45] : List UInt8)) fun y25 => Option.bind (Bf N y25.2 (b : Int)) fun y27 => k20 y27 else k20 y23.2) = some (t.take (Bi t), true, (⟨l, ((i + Bi t : Nat) : Int)⟩ : TokenReader)) := by
      intro b hb'
      have htc := Ji ht _ hb'
      have fin : ∀ e : Nat, e = i + Bi t → (Option.bind (sub l (i : Int) (e : Int)) fun x29 => some (x29, true, (⟨l, (e : Int)⟩ : TokenReader))) = some (t.take (Bi t), true, (⟨l, ((i + Bi t : Nat) : Int)⟩ : TokenReader)) := by
        rintro e rfl
        have := PM t
        rw [DX l i _ (by omega) (by omega), Option.bind_some, Nat.add_sub_cancel_left, ht]
      rw [AO, Kq [101, 69] htc (by omega) hb, Option.bind_some]
      generalize hc : t.drop (AR t + BR (t.drop (AR t)) + Cb (t.drop (AR t + BR (t.drop (AR t))))) = c at *
      by_cases he : Bn [101, 69] c = true
      · have hpos := FI he
        have hcl : c.length = t.length - (AR t + BR (t.drop (AR t)) + Cb (t.drop (AR t + BR (t.drop (AR t))))) := by rw [← hc, List.length_drop]
        simp only [he, if_true]
        rw [Kq [43, 45] (Ji htc 1 rfl) (by omega) hb, Option.bind_some]
        rw [show (if Bn [43, 45] (c.drop 1) = true then 1 else 0) = EZ c from rfl]
        have hes : EZ c ≤ c.length - 1 := by
          unfold EZ; split
          · rename_i h; have := FI h; rw [List.length_drop] at this; omega
          · omega
        rw [Qf (Ji htc (1 + EZ c) (by omega)) (by omega) hb, Option.bind_some]
        by_cases hr : 0 < Cu (c.drop (1 + EZ c))
        · rw [if_pos hr]
          refine fin _ ?_
          rw [hnum, show Fx c = 1 + EZ c + Cu (c.drop (1 + EZ c)) by unfold Fx; rw [if_pos ⟨he, hr⟩]]
          omega
        · rw [if_neg hr]
          refine fin _ ?_
          rw [hnum, show Fx c = 0 by unfold Fx; rw [if_neg (fun h => hr h.2)]]
          omega
      · rw [Bool.not_eq_true] at he
        simp only [he, Bool.false_eq_true, if_false]
        refine fin _ ?_
        rw [hnum, show Fx c = 0 by unfold Fx; rw [if_neg (by rw [he]; simp)]]
        omega
    rw [AO, Kq [46] htb (by omega) hb, Option.bind_some]
    generalize hc : t.drop (AR t + BR (t.drop (AR t))) = c at *
    by_cases he : Bn [46] c = true
    · have hpos := FI he
      have hcl : c.length = t.length - (AR t + BR (t.drop (AR t))) := by rw [← hc, List.length_drop]
      simp only [he, if_true]
      rw [Qf (Ji htb 1 rfl) (by omega) hb, Option.bind_some]
      by_cases hr : 0 < Cu (c.drop 1)
      · rw [if_pos hr]
        refine last _ ?_
        rw [show Cb c = 1 + Cu (c.drop 1) by unfold Cb; rw [if_pos ⟨he, hr⟩]]
        omega
      · rw [if_neg hr]
        refine last _ ?_
        rw [show Cb c = 0 by unfold Cb; rw [if_neg (fun h => hr h.2)]]
        omega
    · rw [Bool.not_eq_true] at he
      simp only [he, Bool.false_eq_true, if_false]
      refine last _ ?_
      rw [show Cb c = 0 by unfold Cb; rw [if_neg (by rw [he]; simp)]]
      omega
  have hnz : Bi t = 0 ↔ BR (t.drop (AR t)) = 0 := by
    unfold Bi
    constructor
    · intro h; by_cases k : BR (t.drop (AR t)) = 0
      · exact k
      · rw [if_neg k] at h; omega
    · intro h; rw [if_pos h]
  by_cases h0 : Bn [48] (t.drop (AR t)) = true
  · have hin : BR (t.drop (AR t)) = 1 := by unfold BR; rw [if_pos h0]
    rw [if_neg (by rw [hnz, hin]; decide)]
    simp only [h0, if_true]
    rw [AO]
    simp only [Bool.false_eq_true, if_false]
    exact rest _ (by rw [hin]; omega) (by rw [hin]; decide)
  · have hin : BR (t.drop (AR t)) = Cu (t.drop (AR t)) := by unfold BR; rw [if_neg h0]
    rw [Bool.not_eq_true] at h0
    simp only [h0, Bool.false_eq_true, if_false, Nat.add_zero]
    rw [AFo hta (by omega) hb]
    simp only [Option.bind_some, AO, SI]
    by_cases hr : Cu (t.drop (AR t)) = 0
    · rw [if_pos (by rw [hnz, hin]; exact hr)]
      simp only [hr, decide_true, if_true]
      exact ⟨_, rfl⟩
    · rw [if_neg (by rw [hnz, hin]; exact hr)]
      simp only [hr, decide_false, Bool.false_eq_true, if_false]
      have := rest (i + AR t + Cu (t.drop (AR t))) (by rw [hin]; omega) (by rw [hin]; exact hr)
      simp only [AO] at this
      exact this
end
end
end Go.VM
namespace Go.VM
section
variable {N : Nat}
theorem BO {α β : Type} {K : α → Option β} {body : (α → Option β) → Option β} {a : α} (h : ∀ k : α → Option β, body k = k a) : AU K body = K a := h K
theorem R5 (l : List UInt8) (k2 : Int → Option Int) (hb : l.length ≤ 2 ^ 50) : ∀ (t : List UInt8) (i k : Nat), l.drop i = t → i ≤ l.length → t.length < k → EQ N l k2 k (i : Int) = k2 ((i + Cu t : Nat) : Int)
  | [], i, k + 1, ht, hi, _ => by
    have hl := CP ht hi
    simp only [List.length_nil] at hl
    have c : ¬ (i : Int) < (l.length : Int) := by omega
    rw [EQ, AO, if_neg (by simpa using c)]
    dsimp only
    rw [if_neg (by decide)]; rfl
  | c :: t, i, k + 1, ht, hi, hk => by
    have hl := CP ht hi
    simp only [List.length_cons] at hl hk
    have c0 : (i : Int) < (l.length : Int) := by omega
    rw [EQ, AO, if_pos (decide_eq_true c0), head_drop ht, Option.bind_some, ABP, Option.bind_some]
    unfold Cu
    rw [List.takeWhile_cons]
    cases Cm c
    · simp
    · dsimp only
      rw [if_pos rfl, if_pos rfl, Au (by omega), show (i : Int) + 1 = ((i + 1 : Nat) : Int) by simp, R5 l k2 hb t (i + 1) k (by rw [← List.drop_drop, ht]; rfl) (by omega) (by omega)]
      rw [List.length_cons]; unfold Cu; congr 2; omega
theorem AHJ (t : List UInt8) (hb : t.length ≤ 2 ^ 50) (hN : t.length < N) : GV N t = some ((Cu t : Nat) : Int) := by
  unfold GV
  rw [AO]
  have := R5 (N := N) t (fun j => some j) hb t 0 N (by simp) (by omega) hN
  simpa using this
theorem Pb (t : List UInt8) (i : Nat) : GD N t (i : Int) = some (t.drop i) := by
  unfold GD
  by_cases h : (i : Int) ≥ (t.length : Int)
  · rw [if_pos (decide_eq_true h), List.drop_of_length_le (by omega)]
  · rw [if_neg (by simpa using h), DX t i t.length (by omega) (by omega), Option.bind_some, List.take_of_length_le (by simp)]
theorem LJ {β : Type} (t : List UInt8) (i : Nat) (k : Bool → Option β) (f : UInt8 → Option β) (set : List UInt8) (hf : ∀ c r, t.drop i = c :: r → f c = k (set.contains c)) :
    (if decide ((i : Int) < (t.length : Int)) = true then Option.bind (idx t (i : Int)) f else k false) = k (Bn set (t.drop i)) := by
  by_cases hi : i ≤ t.length
  · obtain ⟨u, hu⟩ : ∃ u, t.drop i = u := ⟨_, rfl⟩
    have hl := CP hu hi
    rw [hu]
    cases u with
    | nil =>
      simp only [List.length_nil] at hl
      have c : ¬ (i : Int) < (t.length : Int) := by omega
      rw [if_neg (by simpa using c)]; rfl
    | cons c r =>
      simp only [List.length_cons] at hl
      have c0 : (i : Int) < (t.length : Int) := by omega
      rw [if_pos (decide_eq_true c0), head_drop hu, Option.bind_some, hf c r hu]; rfl
  · have c : ¬ (i : Int) < (t.length : Int) := by omega
    rw [if_neg (by simpa using c), List.drop_of_length_le (by omega)]; rfl
theorem Ls (c : UInt8) (k : UInt8) : ([k] : List UInt8).contains c = decide (c.toNat = k.toNat) := by
  by_cases h : c = k
  · subst h; simp
  · have : ¬ c.toNat = k.toNat := fun e => h (UInt8.toNat_inj.1 e)
    simp [h, this]
theorem AE2 (c : UInt8) : (AP c == 45) = ([45] : List UInt8).contains c := by rw [Ls]; exact Qb (k := 45)
theorem ALt (c : UInt8) : (AP c == 46) = ([46] : List UInt8).contains c := by rw [Ls]; exact Qb (k := 46)
theorem ALx (c : UInt8) : (AP c == 48) = ([48] : List UInt8).contains c := by rw [Ls]; exact Qb (k := 48)
theorem XR {t : List UInt8} : BR t = 0 ↔ (t = [] ∨ ∃ c r, t = c :: r ∧ Cm c = false) := by
  cases t with
  | nil => exact ⟨fun _ => .inl rfl, fun _ => rfl⟩
  | cons c r =>
    constructor
    · intro h
      refine .inr ⟨c, r, rfl, ?_⟩
      unfold BR at h
      split at h
      · cases h
      · unfold Cu at h
        rw [List.takeWhile_cons] at h
        cases hd : Cm c
        · rfl
        · rw [hd] at h; simp at h
    · rintro (h | ⟨c', r', h, hd⟩)
      · cases h
      · cases h
        have h48 : Bn [48] (c :: r) = false := by
          show ([48] : List UInt8).contains c = false
          rw [Ls]
          have : ¬ c.toNat = 48 := fun e => by simp [Cm, e] at hd
          simpa using this
        unfold BR; rw [h48, if_neg (by simp)]
        unfold Cu; rw [List.takeWhile_cons, hd]; rfl
theorem OL (t : List UInt8) (hb : t.length ≤ 2 ^ 50) (hN : t.length < N) : F4 N t = some ((Bi t : Nat) : Int) := by
  have h1 := ND t
  have h2 := Ms (t.drop (AR t))
  have h3 := MV (t.drop (AR t + BR (t.drop (AR t))))
  have h4 := UJ (t.drop (AR t + BR (t.drop (AR t)) + Cb (t.drop (AR t + BR (t.drop (AR t))))))
  simp only [List.length_drop] at h2 h3 h4
  have run : ∀ n : Nat, GV N (t.drop n) = some ((Cu (t.drop n) : Nat) : Int) := fun n => AHJ _ (by rw [List.length_drop]; omega) (by rw [List.length_drop]; omega)
  have wn : ∀ n : Nat, n ≤ 2 ^ 51 → wr .i64 (n : Int) = (n : Int) := fun n h => Fa (by omega)
  have w1 : ∀ n : Nat, n ≤ 2 ^ 51 → wr .i64 ((n : Int) + 1) = ((n + 1 : Nat) : Int) := fun n h => by rw [Au (by omega)]; simp
  have hsub : sub t (AR t : Int) (t.length : Int) = some (t.drop (AR t)) := by
    rw [DX t (AR t) t.length h1 (Nat.le_refl _), List.take_of_length_le (by simp)]
  have hs2 : AR t ≤ 1 := by unfold AR; split <;> omega
  unfold F4
  refine (BO (a := ((AR t : Nat) : Int)) fun k2 => (BO (a := Bn [45] t) fun k6 => ?_).trans ?_).trans ?_
  · have key := LJ t 0 k6 (fun x9 => k6 (AP x9 == 45)) [45] (fun c r _ => by rw [AE2])
    simpa using key
  · unfold AR
    cases Bn [45] t <;> rfl
  try dsimp only
  refine (BO (a := decide (BR (t.drop (AR t)) = 0)) fun k11 => ?_).trans ?_
  · obtain ⟨u, hu⟩ : ∃ u, t.drop (AR t) = u := ⟨_, rfl⟩
    have hl := CP hu h1
    rw [hu]
    cases u with
    | nil =>
      simp only [List.length_nil] at hl
      rw [if_pos (by simp; omega)]; rfl
    | cons c r =>
      simp only [List.length_cons] at hl
      rw [if_neg (by simp; omega), head_drop hu, Option.bind_some, ABP, Option.bind_some]
      congr 1
      cases hd : Cm c
      · rw [decide_eq_true (XR.2 (.inr ⟨c, r, rfl, hd⟩))]; rfl
      · have : ¬ BR (c :: r) = 0 := fun h => by
          rcases XR.1 h with h | ⟨c', r', h, hd'⟩
          · cases h
          · cases h; rw [hd] at hd'; cases hd'
        rw [decide_eq_false this]; rfl
  try dsimp only
  by_cases hz : BR (t.drop (AR t)) = 0
  · rw [if_pos (decide_eq_true hz)]
    unfold Bi; rw [if_pos hz]; rfl
  rw [if_neg (by simpa using hz)]
  have hnum : Bi t = AR t + BR (t.drop (AR t)) + Cb (t.drop (AR t + BR (t.drop (AR t)))) + Fx (t.drop (AR t + BR (t.drop (AR t)) + Cb (t.drop (AR t + BR (t.drop (AR t)))))) := by
    unfold Bi; rw [if_neg hz]
  refine (BO (a := ((AR t + BR (t.drop (AR t)) : Nat) : Int)) fun k18 => ?_).trans ?_
  · obtain ⟨u, hu⟩ : ∃ u, t.drop (AR t) = u := ⟨_, rfl⟩
    cases u with
    | nil => rw [hu] at hz; exact absurd rfl hz
    | cons c r =>
      rw [head_drop hu, Option.bind_some, ALx, hsub, Option.bind_some, run]
      rw [hu] at h2 ⊢
      rw [show ([48] : List UInt8).contains c = Bn [48] (c :: r) from rfl]
      unfold BR at h2 ⊢
      by_cases h0 : Bn [48] (c :: r) = true
      · rw [if_pos h0] at h2
        rw [if_pos h0, if_pos h0, w1 _ (by omega)]
      · rw [if_neg h0] at h2
        rw [if_neg h0, if_neg h0, Option.bind_some, Au (by omega)]; congr 1
  try dsimp only
  rw [w1 _ (by omega), Pb]
  generalize hi' : AR t + BR (t.drop (AR t)) = i at *
  have hil : i ≤ t.length := by omega
  refine (BO (a := ((i + Cb (t.drop i) : Nat) : Int)) fun k26 => ?_).trans ?_
  · rw [Option.bind_some, run, Option.bind_some]
    have hr := Ju (t.drop (i + 1))
    rw [List.length_drop] at hr
    refine (BO (a := Bn [46] (t.drop i) && decide (0 < Cu (t.drop (i + 1)))) fun k34 => ?_).trans ?_
    · refine (LJ t i (fun b => k34 (b && decide (0 < Cu (t.drop (i + 1))))) _ [46] (fun c r _ => ?_)).trans rfl
      rw [ALt]
      cases ([46] : List UInt8).contains c
      · rfl
      · rw [if_pos rfl]; congr 1; rw [Bool.true_and]; congr 1; simp only [eq_iff_iff]; omega
    try dsimp only
    unfold Cb
    rw [List.drop_drop]
    by_cases hc : Bn [46] (t.drop i) = true ∧ 0 < Cu (t.drop (i + 1))
    · rw [if_pos (by simpa using hc), if_pos hc, Au (n := 1 + _) (by omega), Au (by omega)]; congr 1
    · rw [if_neg (by simpa using hc), if_neg hc]; rfl
  try dsimp only
  generalize hj : i + Cb (t.drop i) = j at *
  have hjl : j ≤ t.length := by omega
  rw [w1 _ (by omega)]
  refine (BO (a := ((j + Fx (t.drop j) : Nat) : Int)) fun k39 => ?_).trans ?_
  · refine (BO (a := Bn [101, 69] (t.drop j)) fun k43 => LJ t j k43 _ [101, 69] (fun c r _ => by rw [TM _ _ (by decide), Option.bind_some])).trans ?_
    try dsimp only
    by_cases he : Bn [101, 69] (t.drop j) = true
    · rw [if_pos he]
      have hpos := FI he
      rw [List.length_drop] at hpos
      have hes : EZ (t.drop j) ≤ t.length - j - 1 := by
        unfold EZ; split
        · rename_i h
          have := FI h
          simp only [List.length_drop] at this; omega
        · omega
      refine (BO (a := ((j + (1 + EZ (t.drop j)) : Nat) : Int)) fun k50 => (BO (a := Bn [43, 45] (t.drop (j + 1))) fun k54 => LJ t (j + 1) k54 _ [43, 45] (fun c r _ => by rw [TM _ _ (by decide), Option.bind_some])).trans ?_).trans ?_
      · try dsimp only
        unfold EZ
        rw [List.drop_drop]
        by_cases h : Bn [43, 45] (t.drop (j + 1)) = true
        · rw [if_pos h, if_pos h, w1 _ (by omega)]
        · rw [if_neg h, if_neg h]
      try dsimp only
      rw [Pb, Option.bind_some, run, Option.bind_some]
      have hr := Ju (t.drop (j + (1 + EZ (t.drop j))))
      rw [List.length_drop] at hr
      have hex : Fx (t.drop j) = if 0 < Cu (t.drop (j + (1 + EZ (t.drop j)))) then 1 + EZ (t.drop j) + Cu (t.drop (j + (1 + EZ (t.drop j)))) else 0 := by
        unfold Fx
        rw [List.drop_drop]
        by_cases h : 0 < Cu (t.drop (j + (1 + EZ (t.drop j))))
        · rw [if_pos ⟨he, h⟩, if_pos h]
        · rw [if_neg (fun k => h k.2), if_neg h]
      rw [hex]
      by_cases h : 0 < Cu (t.drop (j + (1 + EZ (t.drop j))))
      · rw [if_pos (by simp; omega), if_pos h, Au (by omega)]; congr 1; omega
      · rw [if_neg (by simp; omega), if_neg h]; rfl
    · rw [if_neg he, show Fx (t.drop j) = 0 by unfold Fx; rw [if_neg (fun k => he k.1)]]; rfl
  try dsimp only
  rw [hnum]
end
end Go.VM
