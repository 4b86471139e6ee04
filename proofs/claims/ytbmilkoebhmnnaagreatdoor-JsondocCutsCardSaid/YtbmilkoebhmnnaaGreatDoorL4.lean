import Derived.Test.YtbmilkoebhmnnaaGreatDoorL3
set_option linter.unusedVariables false
set_option linter.unusedSimpArgs false
namespace Go.VM
structure NumP (s sg W F FR P EX : List UInt8) : Prop where
  eq : s = sg ++ (W ++ (FR ++ EX))
  sg : sg = [] ∨ sg = [45]
  Wd : W.all Cm = true
  Wn : W ≠ []
  fr : (FR = [] ∧ F = []) ∨ FR = 46 :: F
  Fd : F.all Cm = true
  ex : (EX = [] ∧ P = []) ∨ EX = 101 :: P ∨ EX = 69 :: P
  pw : P = [] ∨ ∃ sn D, P = sn ++ D ∧ (sn = [] ∨ sn = [43] ∨ sn = [45]) ∧ D ≠ [] ∧ D.all Cm = true
theorem PY (t : List UInt8) : (t.take (Cu t)).all Cm = true := by
  unfold Cu
  rw [MJ]
  induction t with
  | nil => rfl
  | cons c t ih =>
    rw [List.takeWhile_cons]
    cases h : Cm c
    · rfl
    · simp only [if_true, List.all_cons, h, Bool.true_and]; exact ih
theorem Q3 {k : UInt8} {t : List UInt8} (h : Bn [k] t = true) : ∃ r, t = k :: r := by
  cases t with
  | nil => cases h
  | cons c r =>
    have : c = k := by simpa [Bn] using h
    exact ⟨r, by rw [this]⟩
theorem WK {a b : UInt8} {t : List UInt8} (h : Bn [a, b] t = true) : ∃ r, t = a :: r ∨ t = b :: r := by
  cases t with
  | nil => cases h
  | cons c r =>
    have : c = a ∨ c = b := by simpa [Bn] using h
    rcases this with rfl | rfl
    · exact ⟨r, .inl rfl⟩
    · exact ⟨r, .inr rfl⟩
theorem ADm (t : List UInt8) : t.take (AR t) = [] ∨ t.take (AR t) = [45] := by
  unfold AR
  by_cases h : Bn [45] t = true
  · rw [if_pos h]
    obtain ⟨r, rfl⟩ := Q3 h
    exact .inr rfl
  · rw [if_neg h]; exact .inl (by simp)
theorem AGi (t : List UInt8) (h : BR t ≠ 0) : (t.take (BR t)).all Cm = true ∧ t.take (BR t) ≠ [] := by
  have hle := Ms t
  refine ⟨?_, fun e => ?_⟩
  · unfold BR
    by_cases h : Bn [48] t = true
    · rw [if_pos h]
      obtain ⟨r, rfl⟩ := Q3 h
      rfl
    · rw [if_neg h]; exact PY t
  · have := congrArg List.length e
    rw [List.length_take, List.length_nil] at this
    omega
theorem ACe (t : List UInt8) : ∃ F, ((t.take (Cb t) = [] ∧ F = []) ∨ t.take (Cb t) = 46 :: F) ∧ F.all Cm = true := by
  unfold Cb
  by_cases h : Bn [46] t = true ∧ 0 < Cu (t.drop 1)
  · rw [if_pos h]
    obtain ⟨r, rfl⟩ := Q3 h.1
    refine ⟨r.take (Cu r), .inr ?_, PY r⟩
    rw [Nat.add_comm]; rfl
  · rw [if_neg h]; exact ⟨[], .inl ⟨by simp, rfl⟩, rfl⟩
theorem AGG (t : List UInt8) : ∃ P, ((t.take (Fx t) = [] ∧ P = []) ∨ t.take (Fx t) = 101 :: P ∨ t.take (Fx t) = 69 :: P) ∧ (P = [] ∨ ∃ sn D, P = sn ++ D ∧ (sn = [] ∨ sn = [43] ∨ sn = [45]) ∧ D ≠ [] ∧ D.all Cm = true) := by
  unfold Fx
  by_cases h : Bn [101, 69] t = true ∧ 0 < Cu (t.drop (1 + EZ t))
  · rw [if_pos h]
    have key : ∀ (c : UInt8) (r : List UInt8), t = c :: r → ∃ P, t.take (1 + EZ t + Cu (t.drop (1 + EZ t))) = c :: P ∧ (P = [] ∨ ∃ sn D, P = sn ++ D ∧ (sn = [] ∨ sn = [43] ∨ sn = [45]) ∧ D ≠ [] ∧ D.all Cm = true) := by
      rintro c r rfl
      have hr := h.2
      have hes : EZ (c :: r) = if Bn [43, 45] r = true then 1 else 0 := rfl
      by_cases k : Bn [43, 45] r = true
      · rw [if_pos k] at hes
        rw [hes] at hr ⊢
        obtain ⟨d, q, rfl, hd⟩ : ∃ d q, r = d :: q ∧ (d = 43 ∨ d = 45) := by
          obtain ⟨q, e | e⟩ := WK k
          · exact ⟨_, q, e, .inl rfl⟩
          · exact ⟨_, q, e, .inr rfl⟩
        have e : (c :: d :: q).drop (1 + 1) = q := rfl
        rw [e] at hr ⊢
        refine ⟨d :: q.take (Cu q), ?_, .inr ⟨[d], q.take (Cu q), rfl, ?_, fun e => ?_, PY q⟩⟩
        · rw [show 1 + 1 + Cu q = Cu q + 1 + 1 by omega]; rfl
        · rcases hd with rfl | rfl
          · exact .inr (.inl rfl)
          · exact .inr (.inr rfl)
        · have := congrArg List.length e
          have h2 := Ju q
          rw [List.length_take, List.length_nil] at this; omega
      · rw [if_neg k] at hes
        rw [hes] at hr ⊢
        have e : (c :: r).drop (1 + 0) = r := rfl
        rw [e] at hr ⊢
        refine ⟨r.take (Cu r), ?_, .inr ⟨[], r.take (Cu r), rfl, .inl rfl, fun e => ?_, PY r⟩⟩
        · rw [show 1 + 0 + Cu r = Cu r + 1 by omega]; rfl
        · have := congrArg List.length e
          have h2 := Ju r
          rw [List.length_take, List.length_nil] at this; omega
    obtain ⟨r, e | e⟩ := WK h.1
    · obtain ⟨P, h1, h2⟩ := key _ _ e
      exact ⟨P, .inr (.inl h1), h2⟩
    · obtain ⟨P, h1, h2⟩ := key _ _ e
      exact ⟨P, .inr (.inr h1), h2⟩
  · rw [if_neg h]; exact ⟨[], .inl ⟨by simp, rfl⟩, .inl rfl⟩
theorem AKC (s : List UInt8) (a b c : Nat) : s = s.take a ++ ((s.drop a).take b ++ ((s.drop (a + b)).take c ++ s.drop (a + b + c))) := by
  rw [show s.drop (a + b + c) = (s.drop (a + b)).drop c by rw [List.drop_drop], List.take_append_drop, show s.drop (a + b) = (s.drop a).drop b by rw [List.drop_drop], List.take_append_drop, List.take_append_drop]
theorem LA {s : List UInt8} (h0 : s ≠ []) (h : Bi s = s.length) : ∃ sg W F FR P EX, NumP s sg W F FR P EX := by
  have hpos : s.length ≠ 0 := fun e => h0 (List.length_eq_zero_iff.1 e)
  have hz : BR (s.drop (AR s)) ≠ 0 := by
    intro hz
    unfold Bi at h; rw [if_pos hz] at h; omega
  have hnum : Bi s = AR s + BR (s.drop (AR s)) + Cb (s.drop (AR s + BR (s.drop (AR s)))) + Fx (s.drop (AR s + BR (s.drop (AR s)) + Cb (s.drop (AR s + BR (s.drop (AR s)))))) := by
    unfold Bi; rw [if_neg hz]
  obtain ⟨w1, w2⟩ := AGi _ hz
  obtain ⟨F, f1, f2⟩ := ACe (s.drop (AR s + BR (s.drop (AR s))))
  obtain ⟨P, e1, e2⟩ := AGG (s.drop (AR s + BR (s.drop (AR s)) + Cb (s.drop (AR s + BR (s.drop (AR s))))))
  refine ⟨_, _, F, _, P, _, ⟨?_, ADm s, w1, w2, f1, f2, e1, e2⟩⟩
  rw [List.take_of_length_le (l := s.drop (AR s + BR (s.drop (AR s)) + Cb (s.drop (AR s + BR (s.drop (AR s)))))) (by rw [List.length_drop]; omega)]
  exact AKC _ _ _ _
theorem AJ4 {c k : UInt8} (h : Cm c = true) (hk : Cm k = false) : c ≠ k := fun e => by subst e; rw [h] at hk; cases hk
theorem PI {k : UInt8} (hk : Cm k = false) : ∀ {l : List UInt8}, l.all Cm = true → l.contains k = false
  | [], _ => rfl
  | c :: l, h => by
    simp only [List.all_cons, Bool.and_eq_true] at h
    rw [List.contains_cons, PI hk h.2, Bool.or_false]
    have := AJ4 h.1 hk
    simpa using fun e : k = c => this e.symm
end Go.VM
namespace Go.VM
section
variable {N : Nat}
def GL : Nat → List UInt8 → Nat
  | n, [] => n
  | n, c :: l => GL (n * 10 + Ef c.toNat) l
theorem NN : ∀ (l : List UInt8) (n : Nat), n ≤ GL n l
  | [], n => by rw [GL]; exact Nat.le_refl _
  | c :: l, n => by
    have := NN l (n * 10 + Ef c.toNat)
    rw [GL]; omega
theorem JB {c : UInt8} (h : Cm c = true) : 48 ≤ c.toNat ∧ c.toNat ≤ 57 := by
  simpa [Cm] using h
theorem PO {c : UInt8} (h : Cm c = true) : Jy c = true ∧ Ef c.toNat = c.toNat - 48 := by
  have := JB h
  refine ⟨?_, ?_⟩
  · simp only [Jy, AAd, Bool.or_eq_true, Bool.and_eq_true, decide_eq_true_eq]; omega
  · unfold Ef; rw [if_pos this.2]
theorem AJO (k2 : Unit → Option (Int × Int)) : ∀ l : List UInt8, Ae N k2 l = if l.all Cm = true then k2 () else some (0, 1)
  | [] => by rw [Ae]; rfl
  | c :: l => by
    rw [Ae, Tc, Option.bind_some, AJO k2 l]
    cases h : Cm c <;> simp [h]
theorem AJI {m : Nat} (hm : m ≤ 2 ^ 59) (k9 : Int → Option (Int × Int)) : ∀ (l : List UInt8) (n : Nat), l.all Cm = true → n ≤ m → Ac N 10 (m : Int) k9 l (n : Int) = if GL n l ≤ m then k9 ((GL n l : Nat) : Int) else some (0, 4)
  | [], n, _, hn => by rw [Ac, GL, if_pos hn]
  | c :: l, n, h, hn => by
    simp only [List.all_cons, Bool.and_eq_true] at h
    have hd : Ef c.toNat ≤ 9 := by have := JB h.1; rw [(PO h.1).2]; omega
    obtain ⟨hx, hv⟩ := PO h.1
    rw [Ac, ABS c hx, Option.bind_some, AO, AL (by decide)]
    have w1 : wr .u64 ((n : Int) * 10) = ((n * 10 : Nat) : Int) := by rw [IK (by omega)]; simp
    have w2 : wr .u64 (((n * 10 : Nat) : Int) + ((Ef c.toNat : Nat) : Int)) = ((n * 10 + Ef c.toNat : Nat) : Int) := by rw [IK (by omega)]; simp
    have w3 : wr .u64 (18446744073709551615 - ((Ef c.toNat : Nat) : Int)) = 18446744073709551615 - ((Ef c.toNat : Nat) : Int) := IK (by omega)
    rw [w1, w2, w3, Int.tdiv_eq_ediv_of_nonneg (by omega), IK (by omega)]
    have c1 : ¬ ((n : Int) > (18446744073709551615 - ((Ef c.toNat : Nat) : Int)) / 10) := by omega
    rw [if_neg (by simpa using c1), GL]
    by_cases c2 : n * 10 + Ef c.toNat ≤ m
    · have c3 : ¬ (((n * 10 + Ef c.toNat : Nat) : Int) > (m : Int)) := by omega
      rw [decide_eq_false c3]
      simp only [Bool.false_eq_true, if_false]
      exact AJI hm k9 l _ h.2 c2
    · have c3 : (((n * 10 + Ef c.toNat : Nat) : Int) > (m : Int)) := by omega
      have := NN l (n * 10 + Ef c.toNat)
      rw [decide_eq_true c3, if_neg (by omega)]; rfl
theorem ACz {m : Nat} (hm : m ≤ 2 ^ 59) (l : List UInt8) (hb : l.length ≤ 2 ^ 60) : Gt N l (m : Int) = some (if l = [] then (0, 3) else if l.all Cm = true then (if GL 0 l ≤ m then (((GL 0 l : Nat) : Int), 0) else (0, 4)) else (0, 1)) := by
  unfold Gt Cv
  by_cases h : l = []
  · subst h; rfl
  · rw [if_neg (by simpa using h), if_neg h, AO, AL (by unfold Ab; omega), AJO]
    by_cases h1 : l.all Cm = true
    · rw [if_pos h1, if_pos h1, AO, AL (by unfold Ab; omega), show (0 : Int) = ((0 : Nat) : Int) from rfl, AJI hm _ l 0 h1 (by omega)]
      split <;> rfl
    · rw [if_neg h1, if_neg h1]; rfl
def I1 (B : Nat) (P : List UInt8) : Int := if Bn [45] P = true then -((min (GL 0 (P.dropWhile ([43, 45] : List UInt8).contains)) B : Nat) : Int) else ((min (GL 0 (P.dropWhile ([43, 45] : List UInt8).contains)) B : Nat) : Int)
def ABV (P : List UInt8) : Prop := P = [] ∨ ∃ sn D, P = sn ++ D ∧ (sn = [] ∨ sn = [43] ∨ sn = [45]) ∧ D ≠ [] ∧ D.all Cm = true
theorem ABT {c : UInt8} (h : Cm c = true) : ([43, 45] : List UInt8).contains c = false := by
  have := EA (f := fun n => if (decide (48 ≤ n) && decide (n ≤ 57)) = true then ([43, 45] : List UInt8).contains (UInt8.ofNat n) else false) (g := fun _ => false) (by kernel_rfl) c
  simp only [UInt8.ofNat_toNat, show (decide (48 ≤ c.toNat) && decide (c.toNat ≤ 57)) = true from h, if_true] at this
  exact this
theorem NH {D : List UInt8} (h : D.all Cm = true) : D.dropWhile ([43, 45] : List UInt8).contains = D := by
  cases D with
  | nil => rfl
  | cons c D =>
    simp only [List.all_cons, Bool.and_eq_true] at h
    rw [List.dropWhile_cons, ABT h.1]; rfl
theorem R6 {P : List UInt8} (h : ABV P) : (P.dropWhile ([43, 45] : List UInt8).contains).all Cm = true ∧ (P.dropWhile ([43, 45] : List UInt8).contains = [] → P = []) := by
  rcases h with rfl | ⟨sn, D, rfl, hs, hD, hd⟩
  · exact ⟨rfl, fun _ => rfl⟩
  · have : (sn ++ D).dropWhile ([43, 45] : List UInt8).contains = D := by
      rcases hs with rfl | rfl | rfl
      · exact NH hd
      · show (43 :: D).dropWhile _ = D
        rw [List.dropWhile_cons, show ([43, 45] : List UInt8).contains 43 = true from rfl, if_pos rfl]; exact NH hd
      · show (45 :: D).dropWhile _ = D
        rw [List.dropWhile_cons, show ([43, 45] : List UInt8).contains 45 = true from rfl, if_pos rfl]; exact NH hd
    rw [this]
    exact ⟨hd, fun e => absurd e hD⟩
theorem AIw {P : List UInt8} (h : ABV P) (hb : P.length ≤ 2 ^ 60) (hN : P.length < N) : FX N P = some (I1 (2 ^ 40) P) := by
  obtain ⟨h1, h2⟩ := R6 h
  unfold FX
  rw [AB1 P [43, 45] (by simp) (by simp) (by decide) hN, Option.bind_some]
  have hl := (List.dropWhile_sublist ([43, 45] : List UInt8).contains (l := P)).length_le
  unfold I1
  generalize hD : P.dropWhile ([43, 45] : List UInt8).contains = D at *
  rw [show (1099511627776 : Int) = ((2 ^ 40 : Nat) : Int) from rfl, ACz (by decide) D (by omega), Option.bind_some]
  by_cases he : D = []
  · rw [if_pos he]
    have hP := h2 he
    subst hP; subst he
    rfl
  · rw [if_neg he, if_pos h1]
    have key : ∀ v : Nat, v ≤ 2 ^ 40 → (Option.bind (strings_HasPrefix N P [45]) fun y9 => if y9 = true then some (wr .i64 (0 - wr .i64 (v : Int))) else some (wr .i64 (v : Int))) = some (if Bn [45] P = true then -(v : Int) else (v : Int)) := by
      intro v hv
      rw [AHQ, Option.bind_some, Au (n := (v : Int)) (by omega), Au (n := 0 - (v : Int)) (by omega)]
      split <;> simp
    rw [AO]
    by_cases hv : GL 0 D ≤ 2 ^ 40
    · rw [if_pos hv, Nat.min_eq_left hv]
      exact key _ hv
    · rw [if_neg hv, Nat.min_eq_right (by omega)]
      exact key _ (Nat.le_refl _)
theorem NQ (k19 : Int → Option Int) : ∀ (l : List UInt8) (n : Nat), l.all Cm = true → n ≤ 2 ^ 30 → Bl N k19 l (n : Int) = k19 ((min (GL n l) (2 ^ 30) : Nat) : Int)
  | [], n, _, hn => by rw [Bl, GL, Nat.min_eq_left hn]
  | c :: l, n, h, hn => by
    simp only [List.all_cons, Bool.and_eq_true] at h
    have hd := JB h.1
    rw [Bl, GL]
    have w0 : wr .u8 (AP c - 48) = ((Ef c.toNat : Nat) : Int) := by rw [AJE (by simp only [AP]; omega)]; rw [(PO h.1).2]; simp only [AP]; omega
    have hd9 : Ef c.toNat ≤ 9 := by rw [(PO h.1).2]; omega
    rw [w0, Au (n := (n : Int) * 10) (by omega), Au (n := ((Ef c.toNat : Nat) : Int)) (by omega), Au (by omega)]
    have e : (n : Int) * 10 + ((Ef c.toNat : Nat) : Int) = ((n * 10 + Ef c.toNat : Nat) : Int) := by simp
    rw [e]
    have hge := NN l (n * 10 + Ef c.toNat)
    by_cases c1 : (1073741824 : Int) < ((n * 10 + Ef c.toNat : Nat) : Int)
    · rw [if_pos c1, show (1073741824 : Int) = ((2 ^ 30 : Nat) : Int) from rfl, NQ k19 l (2 ^ 30) h.2 (Nat.le_refl _)]
      have := NN l (2 ^ 30)
      rw [Nat.min_eq_right this, Nat.min_eq_right (by omega)]
    · rw [if_neg c1, NQ k19 l _ h.2 (by omega)]
theorem AG9 {P : List UInt8} (h : ABV P) (hb : P.length ≤ 2 ^ 60) : FW N P = some (I1 (2 ^ 30) P) := by
  obtain ⟨h1, h2⟩ := R6 h
  unfold FW
  refine (BO (a := Bn [45] P) fun k2 => ?_).trans ?_
  · cases P with
    | nil => rfl
    | cons c P => rw [if_neg (by simp), show idx (c :: P) 0 = some c from rfl, Option.bind_some, AE2]; rfl
  try dsimp only
  refine (BO (a := P.dropWhile ([43, 45] : List UInt8).contains) fun k7 => (BO (a := Bn [43, 45] P) fun k11 => ?_).trans ?_).trans ?_
  · cases P with
    | nil => rfl
    | cons c P =>
      show (if (c :: P == ([] : List UInt8)) = true then k11 false else Option.bind (idx (c :: P) 0) fun x14 => Option.bind (Gs N (AP x14) [43, 45]) fun y15 => k11 y15) = _
      rw [if_neg (by simp), show idx (c :: P) 0 = some c from rfl, Option.bind_some, TM _ _ (by decide), Option.bind_some]; rfl
  · try dsimp only
    rcases h with rfl | ⟨sn, D, rfl, hs, hD, hd⟩
    · rfl
    · have hdd := NH hd
      rcases hs with rfl | rfl | rfl
      · cases D with
        | nil => exact absurd rfl hD
        | cons c D =>
          simp only [List.all_cons, Bool.and_eq_true] at hd
          rw [List.nil_append, hdd, if_neg (by show ¬ ([43, 45] : List UInt8).contains c = true; rw [ABT hd.1]; simp)]
      · have e : ([43] ++ D).dropWhile ([43, 45] : List UInt8).contains = D := by
          show (43 :: D).dropWhile _ = D
          rw [List.dropWhile_cons, show ([43, 45] : List UInt8).contains 43 = true from rfl, if_pos rfl]; exact hdd
        rw [e, if_pos (by rfl)]
        exact (congrArg (fun x => Option.bind x k7) (Ir 43 D)).trans rfl
      · have e : ([45] ++ D).dropWhile ([43, 45] : List UInt8).contains = D := by
          show (45 :: D).dropWhile _ = D
          rw [List.dropWhile_cons, show ([43, 45] : List UInt8).contains 45 = true from rfl, if_pos rfl]; exact hdd
        rw [e, if_pos (by rfl)]
        exact (congrArg (fun x => Option.bind x k7) (Ir 45 D)).trans rfl
  try dsimp only
  have hl := (List.dropWhile_sublist ([43, 45] : List UInt8).contains (l := P)).length_le
  unfold I1
  generalize hD : P.dropWhile ([43, 45] : List UInt8).contains = D at *
  rw [AO, AL (by unfold Ab; omega), show (0 : Int) = ((0 : Nat) : Int) from rfl, NQ _ D 0 h1 (by omega)]
  have : min (GL 0 D) (2 ^ 30) ≤ 2 ^ 30 := Nat.min_le_right _ _
  rw [Au (by omega)]
  split <;> simp
def AKU (y : Int) : List UInt8 := if y < 0 then [101, 45] ++ fmtS (-y).toNat else if y > 0 then [101] ++ fmtS y.toNat else []
def Ik (sg m : List UInt8) (x : Int) : List UInt8 × Int :=
  let m1 := m.dropWhile (· == 48)
  let sh := G7 (· == 48) m1
  if sh = [] then ([48], 0)
  else if sh.length > 40 ∨ x + m1.length - sh.length < -400 ∨ x + m1.length - sh.length > 400 then ([], 144)
  else (sg ++ sh ++ AKU (x + m1.length - sh.length), 0)
theorem PV {y : Int} (h : 0 ≤ y) (h2 : y ≤ 2 ^ 60) : wr .u64 y = ((y.toNat : Nat) : Int) := by rw [IK (by omega)]; omega
theorem VU {l : List UInt8} (h : l.all Cm = true) : l.map Jj = l := by
  induction l with
  | nil => rfl
  | cons c l ih =>
    simp only [List.all_cons, Bool.and_eq_true] at h
    have := JB h.1
    rw [List.map_cons, ih h.2]
    congr 1
    unfold Jj AIm; rw [if_neg (by omega)]; simp
theorem UD {c : UInt8} {a b : List UInt8} (h : a.contains c = false) : RL c (a ++ c :: b) = (a, b, true) := by
  have h1 : ∀ a : List UInt8, a.contains c = false → (a ++ c :: b).takeWhile (· != c) = a ∧ (a ++ c :: b).dropWhile (· != c) = c :: b := by
    intro a
    induction a with
    | nil => intro _; simp
    | cons x a ih =>
      intro h
      rw [List.contains_cons, Bool.or_eq_false_iff] at h
      have hx : (x != c) = true := by
        have : c ≠ x := by simpa using h.1
        simpa using fun e : x = c => this e.symm
      obtain ⟨i1, i2⟩ := ih h.2
      rw [List.cons_append, List.takeWhile_cons, List.dropWhile_cons, hx, i1, i2]
      exact ⟨rfl, rfl⟩
  unfold RL
  rw [if_pos (by simp), (h1 a h).1, (h1 a h).2]; rfl
theorem ABk {c : UInt8} {a : List UInt8} (h : a.contains c = false) : RL c a = (a, [], false) := by
  unfold RL; rw [if_neg (by rw [h]; simp)]
theorem VX {c : UInt8} {a b : List UInt8} : (a ++ b).contains c = (a.contains c || b.contains c) := by
  simp [List.contains_eq_any_beq, List.any_append]
theorem ABc {P : List UInt8} (h : ABV P) : P.map Jj = P := by
  rcases h with rfl | ⟨sn, D, rfl, hs, hD, hd⟩
  · rfl
  · rw [List.map_append, VU hd]
    rcases hs with rfl | rfl | rfl <;> rfl
section
variable {s sg W F FR P EX : List UInt8}
theorem NumP.len (h : NumP s sg W F FR P EX) : s.length = sg.length + (W.length + (FR.length + EX.length)) ∧ F.length ≤ FR.length ∧ P.length ≤ EX.length := by
  refine ⟨by rw [h.eq]; simp, ?_, ?_⟩
  · rcases h.fr with ⟨e1, e2⟩ | e
    · rw [e2]; simp
    · rw [e]; simp
  · rcases h.ex with ⟨e1, e2⟩ | e | e
    · rw [e2]; simp
    · rw [e]; simp
    · rw [e]; simp
theorem NumP.not_e (h : NumP s sg W F FR P EX) (k : UInt8) (hk : Cm k = false) (h46 : k ≠ 46) : (W ++ FR).contains k = false := by
  rw [VX, PI hk h.Wd, Bool.false_or]
  rcases h.fr with ⟨e1, e2⟩ | e
  · rw [e1]; rfl
  · rw [e, List.contains_cons, PI hk h.Fd, Bool.or_false]
    simpa using h46
theorem TG (h : NumP s sg W F FR P EX) (hn : Bi s = s.length) (hb : s.length ≤ 2 ^ 48) (hN : s.length + 30 < N) : BU N s = some (Ik sg (W ++ F) (I1 (2 ^ 40) P - F.length)) := by
  obtain ⟨l1, l2, l3⟩ := h.len
  have hne : s ≠ [] := by
    rw [h.eq]
    have := h.Wn
    intro e
    have := List.append_eq_nil_iff.1 e
    have := List.append_eq_nil_iff.1 this.2
    exact h.Wn this.1
  have hpos : s.length ≠ 0 := fun e => hne (List.length_eq_zero_iff.1 e)
  unfold BU
  have hp := Lv (N := N) (l := s) (t := s) (i := 0) (by simp) (by omega) (by omega)
  rw [if_neg (by rw [hn]; exact hpos)] at hp
  have hp' : BF N (TokenReader.mk s 0) = some (s.take (Bi s), true, (⟨s, ((0 + Bi s : Nat) : Int)⟩ : TokenReader)) := hp
  rw [hp', Option.bind_some]
  refine (BO (a := false) fun k4 => ?_).trans ?_
  · rw [if_pos rfl, hn, List.take_of_length_le (Nat.le_refl _)]; simp
  try dsimp only
  rw [if_neg (by decide)]
  have hhead : ∀ k7 : List UInt8 × List UInt8 → Option (List UInt8 × Int), (Option.bind (idx s 0) fun x11 => if (AP x11 == 45) = true then Option.bind (sub s 1 (s.length : Int)) fun x12 => k7 ([45], x12) else k7 ([], s)) = k7 (sg, W ++ (FR ++ EX)) := by
    intro k7
    rcases h.sg with e | e
    · have hs : s = W ++ (FR ++ EX) := by rw [h.eq, e]; rfl
      cases hW : W with
      | nil => exact absurd hW h.Wn
      | cons c W' =>
        have hc : Cm c = true := by
          have := h.Wd
          rw [hW, List.all_cons, Bool.and_eq_true] at this
          exact this.1
        have hs2 : s = c :: (W' ++ (FR ++ EX)) := by rw [hs, hW]; rfl
        rw [hs2, show idx (c :: (W' ++ (FR ++ EX))) 0 = some c from rfl, Option.bind_some, AE2, Ls]
        have := JB hc
        have : ¬ c.toNat = (45 : UInt8).toNat := by show ¬ c.toNat = 45; omega
        rw [if_neg (by simpa using this), e]; rfl
    · have hs2 : s = 45 :: (W ++ (FR ++ EX)) := by rw [h.eq, e]; rfl
      rw [hs2, show idx (45 :: (W ++ (FR ++ EX))) 0 = some 45 from rfl, Option.bind_some, if_pos (by rfl), Ir, Option.bind_some, e]
  refine (BO (a := (sg, W ++ (FR ++ EX))) fun k8 => hhead k8).trans ?_
  try dsimp only
  rw [lower_eq _ (by simp; omega), Option.bind_some]
  have hWF : (W ++ FR).map Jj = W ++ FR := by
    rw [List.map_append, VU h.Wd]
    rcases h.fr with ⟨e1, e2⟩ | e
    · rw [e1]; rfl
    · rw [e, List.map_cons, VU h.Fd]; rfl
  have hlow : RL 101 ((W ++ (FR ++ EX)).map Jj) = (W ++ FR, P, (RL 101 ((W ++ (FR ++ EX)).map Jj)).2.2) := by
    rw [← List.append_assoc, List.map_append, hWF]
    have hc := h.not_e 101 (by decide) (by decide)
    rcases h.ex with ⟨e1, e2⟩ | e | e
    · rw [e1, e2, List.map_nil, List.append_nil, ABk hc]
    · rw [e, List.map_cons, ABc h.pw, show Jj 101 = 101 from rfl, UD hc]
    · rw [e, List.map_cons, ABc h.pw, show Jj 69 = 101 from rfl, UD hc]
  rw [AFf 101 _ (by simp; omega), Option.bind_some, hlow]
  try dsimp only
  have hcut2 : RL 46 (W ++ FR) = (W, F, (RL 46 (W ++ FR)).2.2) := by
    have hc := PI (k := 46) (by decide) h.Wd
    rcases h.fr with ⟨e1, e2⟩ | e
    · rw [e1, e2, List.append_nil, ABk hc]
    · rw [e, UD hc]
  rw [AFf 46 _ (by simp; omega), Option.bind_some, hcut2]
  try dsimp only
  rw [AL (by unfold Ab; omega), AEj 48 (W ++ F) (by decide) (by simp; omega), Option.bind_some]
  have hml := (List.dropWhile_sublist (fun x : UInt8 => x == 48) (l := W ++ F)).length_le
  rw [List.length_append] at hml
  have htl := QB (fun x : UInt8 => x == 48) ((W ++ F).dropWhile (fun x : UInt8 => x == 48))
  rw [AFj 48 _ (by decide) (by omega) (by omega), Option.bind_some]
  unfold Ik
  dsimp only
  generalize hm1 : (W ++ F).dropWhile (fun x : UInt8 => x == 48) = m1 at *
  generalize hsh : G7 (fun x : UInt8 => x == 48) m1 = sh at *
  try dsimp only
  by_cases hz : sh = []
  · rw [if_pos (by simpa using hz), if_pos hz]
  rw [if_neg (by simpa using hz), if_neg hz, AIw h.pw (by omega) (by omega), Option.bind_some]
  have hev : -(2 ^ 40 : Int) ≤ I1 (2 ^ 40) P ∧ I1 (2 ^ 40) P ≤ (2 ^ 40 : Int) := by
    unfold I1
    have : min (GL 0 (P.dropWhile ([43, 45] : List UInt8).contains)) (2 ^ 40) ≤ 2 ^ 40 := Nat.min_le_right _ _
    split <;> omega
  generalize I1 (2 ^ 40) P = x at *
  have hw : wr .i64 (wr .i64 (wr .i64 (x - (F.length : Int)) + (m1.length : Int)) - (sh.length : Int)) = x - (F.length : Int) + (m1.length : Int) - (sh.length : Int) := by
    rw [Au (n := x - (F.length : Int)) (by omega), Au (n := x - (F.length : Int) + (m1.length : Int)) (by omega), Au (by omega)]
  rw [hw]
  generalize hy : x - (F.length : Int) + (m1.length : Int) - (sh.length : Int) = y at *
  have hsg : sg.length ≤ 1 := by rcases h.sg with e | e <;> rw [e] <;> simp
  refine (BO (a := decide (sh.length > 40 ∨ y < -400 ∨ y > 400)) fun k26 => ?_).trans ?_
  · by_cases c1 : (sh.length : Int) > 40
    · rw [if_pos (decide_eq_true c1), decide_eq_true (.inl (by omega))]
    · rw [if_neg (by simpa using c1)]
      by_cases c2 : y < -400
      · rw [if_pos (decide_eq_true c2), decide_eq_true (.inr (.inl c2))]
      · rw [if_neg (by simpa using c2)]
        congr 1
        simp only [eq_iff_iff, decide_eq_decide]; omega
  try dsimp only
  by_cases hc : sh.length > 40 ∨ y < -400 ∨ y > 400
  · rw [if_pos (decide_eq_true hc), if_pos hc]
  rw [if_neg (by simpa using hc), if_neg hc]
  have hc' : ¬ (sh.length > 40) ∧ ¬ y < -400 ∧ ¬ y > 400 := ⟨fun h => hc (.inl h), fun h => hc (.inr (.inl h)), fun h => hc (.inr (.inr h))⟩
  have hf := XK
  unfold AKU
  by_cases c1 : y < 0
  · rw [if_pos (decide_eq_true c1), if_pos c1, AL (by unfold Ab; omega), AL (by unfold Ab; simp; omega), Au (by omega), PV (by omega) (by omega), QV _ (by omega) (by omega), Option.bind_some]
    have := hf (0 - y).toNat
    have := hf (-y).toNat
    rw [AL (by unfold Ab; simp; omega), show (0 - y).toNat = (-y).toNat by omega]
    simp
  · rw [if_neg (by simpa using c1), if_neg c1]
    by_cases c2 : y > 0
    · have := hf y.toNat
      rw [if_pos (decide_eq_true c2), if_pos c2, AL (by unfold Ab; omega), AL (by unfold Ab; simp; omega), PV (by omega) (by omega), QV _ (by omega) (by omega), Option.bind_some, AL (by unfold Ab; simp; omega)]
      simp
    · rw [if_neg (by simpa using c2), if_neg c2, AL (by unfold Ab; omega)]
      simp
end
end
end Go.VM
namespace Go.VM
section
variable {N : Nat}
theorem ABe (k29 : List UInt8 → Option (List UInt8 × Int)) : ∀ (l : List UInt8) (k : Nat), l.length < k → DK N k29 k l = k29 (l.dropWhile (· == 48))
  | [], k + 1, _ => by rw [DK, AO]; rfl
  | x :: l, k + 1, h => by
    simp only [List.length_cons] at h
    rw [DK, AO, if_pos (by simp <;> omega), show idx (x :: l) 0 = some x from rfl, Option.bind_some, List.dropWhile_cons]
    try dsimp only
    rw [show (AP x == 48) = (x == 48) from Md x 48]
    cases x == 48
    · rfl
    · rw [if_pos rfl, Ir, Option.bind_some, ABe k29 l k (by omega)]; rfl
theorem ABR (k40 : Int × List UInt8 → Option (List UInt8 × Int)) : ∀ (n : Nat) (l : List UInt8) (x : Int), l.length = n → n ≤ 2 ^ 50 → (∃ c r, l = c :: r ∧ (c == 48) = false) → -(2 ^ 60) ≤ x → x + n ≤ 2 ^ 60 → ∀ k : Nat, n < k → Dl N k40 k x l = k40 (x + l.length - (G7 (· == 48) l).length, G7 (· == 48) l)
  | 0, l, x, hl, hb, ⟨c, r, e, hc⟩, h1, h3, k, hk => by rw [e] at hl; simp at hl
  | n + 1, l, x, hl, hb, hh, h1, h3, 0, hk => by omega
  | n + 1, l, x, hl, hb, hh, h1, h3, k + 1, hk => by
    obtain ⟨l', y, rfl⟩ : ∃ l' y, l = l' ++ [y] := by
      have hne : l ≠ [] := fun e => by subst e; simp at hl
      exact ⟨l.dropLast, l.getLast hne, (List.dropLast_concat_getLast hne).symm⟩
    have hl' : l'.length = n := by simpa using hl
    rw [Dl, Xw l' y (by omega), Option.bind_some, MN, show (AP y == 48) = (y == 48) from Md y 48]
    by_cases hy : (y == 48) = true
    · rw [if_pos hy, if_pos hy, Wu l' y (by omega), Option.bind_some, Au (by omega)]
      have hh' : ∃ c r, l' = c :: r ∧ (c == 48) = false := by
        obtain ⟨c, r, e, hc⟩ := hh
        cases l' with
        | nil =>
          simp only [List.nil_append, List.cons.injEq] at e
          rw [e.1, hc] at hy; cases hy
        | cons a l' =>
          simp only [List.cons_append, List.cons.injEq] at e
          exact ⟨a, l', rfl, by rw [e.1]; exact hc⟩
      rw [ABR k40 n l' (x + 1) hl' (by omega) hh' (by omega) (by omega) k (by omega)]
      congr 2
      simp only [List.length_append, List.length_cons, List.length_nil]; omega
    · rw [if_neg hy, if_neg hy]
      congr 2; omega
theorem Oj (set : List UInt8) (hs : set.length ≤ 1000) (k2 : Unit → Option Int) (n : Int) (h : k2 () = some n) : ∀ (l : List UInt8) (i : Nat), ((i + l.length : Nat) : Int) = n → Cj N set k2 l (i : Int) = some ((i + (l.takeWhile fun c => !set.contains c).length : Nat) : Int)
  | [], i, hn => by rw [Cj, h, ← hn]; simp
  | c :: l, i, hn => by
    rw [Cj, TM _ _ hs, Option.bind_some, List.takeWhile_cons]
    cases hc : set.contains c
    · simp only [List.length_cons] at hn
      rw [if_neg (by decide), show (i : Int) + 1 = ((i + 1 : Nat) : Int) by simp, Oj set hs k2 n h l (i + 1) (by rw [← hn]; congr 1; omega)]
      simp only [Bool.not_false, if_true, List.length_cons]; congr 2; omega
    · simp
theorem R7 (l set : List UInt8) (hs : set.length ≤ 1000) (hb : l.length ≤ 2 ^ 60) : GQ N l set = some (((l.takeWhile fun c => !set.contains c).length : Nat) : Int) := by
  unfold GQ
  rw [AO, AL (by unfold Ab; omega), show (0 : Int) = ((0 : Nat) : Int) from rfl, Oj set hs _ _ rfl l 0 (by simp)]
  simp
theorem Nh {p : UInt8 → Bool} : ∀ {a b : List UInt8}, (∀ c ∈ a, p c = true) → (b = [] ∨ ∃ c r, b = c :: r ∧ p c = false) → (a ++ b).takeWhile p = a
  | [], b, _, hb => by
    rcases hb with rfl | ⟨c, r, rfl, hc⟩
    · rfl
    · rw [List.nil_append, List.takeWhile_cons, hc]; rfl
  | x :: a, b, ha, hb => by
    rw [List.cons_append, List.takeWhile_cons, ha x (by simp), if_pos rfl, Nh (fun c hc => ha c (by simp [hc])) hb]
section
variable {s sg W F FR P EX : List UInt8}
theorem U0 {l : List UInt8} (h : l.all Cm = true) : ∀ c ∈ l, Cm c = true := by simpa using h
theorem ABN {c : UInt8} (h : Cm c = true) : ([101, 69] : List UInt8).contains c = false := by
  have := EA (f := fun n => if (decide (48 ≤ n) && decide (n ≤ 57)) = true then ([101, 69] : List UInt8).contains (UInt8.ofNat n) else false) (g := fun _ => false) (by kernel_rfl) c
  simp only [UInt8.ofNat_toNat, show (decide (48 ≤ c.toNat) && decide (c.toNat ≤ 57)) = true from h, if_true] at this
  exact this
theorem AIc {c : UInt8} (h : Cm c = true) : ([46] : List UInt8).contains c = false := by
  rw [Ls]
  have := JB h
  have : ¬ c.toNat = (46 : UInt8).toNat := by show ¬ c.toNat = 46; omega
  simpa using this
theorem AH8 (h : NumP s sg W F FR P EX) (hn : Bi s = s.length) (hb : s.length ≤ 2 ^ 48) (hN : s.length + 30 < N) : Dq N s = some (Ik sg (W ++ F) (I1 (2 ^ 30) P - F.length)) := by
  obtain ⟨l1, l2, l3⟩ := h.len
  have hne : s ≠ [] := by
    rw [h.eq]
    intro e
    have := List.append_eq_nil_iff.1 e
    have := List.append_eq_nil_iff.1 this.2
    exact h.Wn this.1
  unfold Dq
  refine (BO (a := false) fun k2 => ?_).trans ?_
  · rw [if_neg (by simpa using hne), OL s (by omega) (by omega), Option.bind_some, hn]; simp
  try dsimp only
  rw [if_neg (by decide)]
  have hhead : ∀ k8 : List UInt8 × List UInt8 → Option (List UInt8 × Int), (Option.bind (idx s 0) fun x11 => if (AP x11 == 45) = true then Option.bind (sub s 1 (s.length : Int)) fun x12 => k8 (x12, [45]) else k8 (s, [])) = k8 (W ++ (FR ++ EX), sg) := by
    intro k7
    rcases h.sg with e | e
    · have hs : s = W ++ (FR ++ EX) := by rw [h.eq, e]; rfl
      cases hW : W with
      | nil => exact absurd hW h.Wn
      | cons c W' =>
        have hc : Cm c = true := by
          have := h.Wd
          rw [hW, List.all_cons, Bool.and_eq_true] at this
          exact this.1
        have hs2 : s = c :: (W' ++ (FR ++ EX)) := by rw [hs, hW]; rfl
        rw [hs2, show idx (c :: (W' ++ (FR ++ EX))) 0 = some c from rfl, Option.bind_some, AE2, Ls]
        have := JB hc
        have : ¬ c.toNat = (45 : UInt8).toNat := by show ¬ c.toNat = 45; omega
        rw [if_neg (by simpa using this), e]; rfl
    · have hs2 : s = 45 :: (W ++ (FR ++ EX)) := by rw [h.eq, e]; rfl
      rw [hs2, show idx (45 :: (W ++ (FR ++ EX))) 0 = some 45 from rfl, Option.bind_some, if_pos (by rfl), Ir, Option.bind_some, e]
  refine (BO (a := (W ++ (FR ++ EX), sg)) fun k8 => hhead k8).trans ?_
  try dsimp only
  have hWF : (W ++ (FR ++ EX)).takeWhile (fun c => !([101, 69] : List UInt8).contains c) = W ++ FR := by
    rw [← List.append_assoc]
    refine Nh (fun c hc => ?_) ?_
    · rcases List.mem_append.1 hc with hc | hc
      · rw [ABN (U0 h.Wd c hc)]; rfl
      · rcases h.fr with ⟨e1, e2⟩ | e
        · rw [e1] at hc; cases hc
        · rw [e] at hc
          rcases List.mem_cons.1 hc with rfl | hc
          · rfl
          · rw [ABN (U0 h.Fd c hc)]; rfl
    · rcases h.ex with ⟨e1, e2⟩ | e | e
      · exact .inl e1
      · exact .inr ⟨_, _, e, rfl⟩
      · exact .inr ⟨_, _, e, rfl⟩
  have hlen : (W ++ (FR ++ EX)).length = (W ++ FR).length + EX.length := by simp only [List.length_append]; omega
  rw [R7 _ _ (by decide) (by simp; omega), Option.bind_some, hWF, Au (by simp; omega), show (((W ++ FR).length : Nat) : Int) + 1 = (((W ++ FR).length + 1 : Nat) : Int) by simp, Pb, Option.bind_some]
  have hP : (W ++ (FR ++ EX)).drop ((W ++ FR).length + 1) = P := by
    rw [← List.append_assoc, List.drop_append, List.drop_of_length_le (by omega), List.nil_append, Nat.add_sub_cancel_left]
    rcases h.ex with ⟨e1, e2⟩ | e | e
    · rw [e1, e2]; rfl
    · rw [e]; rfl
    · rw [e]; rfl
  rw [hP, AG9 h.pw (by omega), Option.bind_some]
  have hsub : sub (W ++ (FR ++ EX)) 0 (((W ++ FR).length : Nat) : Int) = some (W ++ FR) := by
    rw [show (0 : Int) = ((0 : Nat) : Int) from rfl, DX _ 0 _ (by omega) (by omega), ← List.append_assoc]
    simp only [List.drop_zero, Nat.sub_zero, List.take_left]
  rw [hsub, Option.bind_some]
  have hev : -(2 ^ 30 : Int) ≤ I1 (2 ^ 30) P ∧ I1 (2 ^ 30) P ≤ (2 ^ 30 : Int) := by
    unfold I1
    have : min (GL 0 (P.dropWhile ([43, 45] : List UInt8).contains)) (2 ^ 30) ≤ 2 ^ 30 := Nat.min_le_right _ _
    split <;> omega
  generalize I1 (2 ^ 30) P = x at *
  have hdot : (W ++ FR).takeWhile (fun c => !([46] : List UInt8).contains c) = W := by
    refine Nh (fun c hc => ?_) ?_
    · rw [AIc (U0 h.Wd c hc)]; rfl
    · rcases h.fr with ⟨e1, e2⟩ | e
      · exact .inl e1
      · exact .inr ⟨_, _, e, rfl⟩
  refine (BO (a := (x - (F.length : Int), W ++ F)) fun k21 => ?_).trans ?_
  · rw [R7 _ _ (by decide) (by simp; omega), Option.bind_some, hdot]
    rcases h.fr with ⟨e1, e2⟩ | e
    · rw [e1, e2, List.append_nil, if_neg (by simp)]; simp
    · have hfl : FR.length = F.length + 1 := by rw [e]; simp
      have w1 : wr .i64 ((W.length : Int) + 1) = ((W.length + 1 : Nat) : Int) := by rw [Au (by omega)]; simp
      have s1 : sub (W ++ FR) 0 (W.length : Int) = some W := by
        rw [show (0 : Int) = ((0 : Nat) : Int) from rfl, DX _ 0 _ (by omega) (by simp)]; simp only [List.drop_zero, Nat.sub_zero, List.take_left]
      have s2 : sub (W ++ FR) ((W.length + 1 : Nat) : Int) (((W ++ FR).length : Nat) : Int) = some F := by
        rw [DX _ _ _ (by simp; omega) (Nat.le_refl _), List.take_of_length_le (by simp <;> omega), List.drop_append, List.drop_of_length_le (by omega), List.nil_append, Nat.add_sub_cancel_left, e]; rfl
      rw [if_pos (by simp; omega), s1, Option.bind_some, w1, s2, Option.bind_some, AL (by unfold Ab; omega)]
      have w2 : wr .i64 (x - wr .i64 (wr .i64 ((((W ++ FR).length : Nat) : Int) - (W.length : Int)) - 1)) = x - (F.length : Int) := by
        rw [List.length_append, Au (n := ((W.length + FR.length : Nat) : Int) - (W.length : Int)) (by omega), Au (n := ((W.length + FR.length : Nat) : Int) - (W.length : Int) - 1) (by omega), Au (by omega)]
        omega
      rw [w2]
  try dsimp only
  have hml := (List.dropWhile_sublist (fun x : UInt8 => x == 48) (l := W ++ F)).length_le
  rw [List.length_append] at hml
  refine (BO (a := (W ++ F).dropWhile (· == 48)) fun k29 => ABe k29 (W ++ F) N (by simp; omega)).trans ?_
  try dsimp only
  have hhd : (W ++ F).dropWhile (fun x : UInt8 => x == 48) = [] ∨ ∃ c r, (W ++ F).dropWhile (fun x : UInt8 => x == 48) = c :: r ∧ (c == 48) = false := by
    generalize W ++ F = l
    induction l with
    | nil => exact .inl rfl
    | cons c l ih =>
      rw [List.dropWhile_cons]
      cases hc : (c == 48)
      · exact .inr ⟨c, l, rfl, hc⟩
      · exact ih
  have htl := QB (fun x : UInt8 => x == 48) ((W ++ F).dropWhile (fun x : UInt8 => x == 48))
  unfold Ik
  dsimp only
  generalize hm1 : (W ++ F).dropWhile (fun x : UInt8 => x == 48) = m1 at *
  by_cases hz : m1 = []
  · subst hz; rfl
  have hhd' : ∃ c r, m1 = c :: r ∧ (c == 48) = false := by
    rcases hhd with e | e
    · exact absurd e hz
    · exact e
  have hsz : G7 (fun x : UInt8 => x == 48) m1 ≠ [] := by
    obtain ⟨c, r, rfl, hc⟩ := hhd'
    have key : ∀ (n : Nat) (r : List UInt8), r.length = n → G7 (fun x : UInt8 => x == 48) (c :: r) ≠ [] := by
      intro n
      induction n with
      | zero =>
        intro r hr
        have : r = [] := List.length_eq_zero_iff.1 hr
        subst this
        unfold G7; simp [hc]
      | succ n ih =>
        intro r hr
        obtain ⟨r', y, rfl⟩ : ∃ l' y, r = l' ++ [y] := by
          have hne : r ≠ [] := fun e => by subst e; simp at hr
          exact ⟨r.dropLast, r.getLast hne, (List.dropLast_concat_getLast hne).symm⟩
        rw [← List.cons_append, MN]
        split
        · exact ih r' (by simpa using hr)
        · simp
    exact key _ r rfl
  rw [if_neg (by simpa using hz), if_neg hsz]
  refine (BO (a := (x - (F.length : Int) + (m1.length : Int) - ((G7 (fun x : UInt8 => x == 48) m1).length : Int), G7 (fun x : UInt8 => x == 48) m1)) fun k40 => ABR k40 m1.length m1 _ rfl (by omega) hhd' (by omega) (by omega) N (by omega)).trans ?_
  try dsimp only
  generalize hsh : G7 (fun x : UInt8 => x == 48) m1 = sh at *
  generalize hy : x - (F.length : Int) + (m1.length : Int) - (sh.length : Int) = y at *
  have hsg : sg.length ≤ 1 := by rcases h.sg with e | e <;> rw [e] <;> simp
  refine (BO (a := decide (sh.length > 40 ∨ y < -400 ∨ y > 400)) fun k26 => ?_).trans ?_
  · by_cases c1 : (sh.length : Int) > 40
    · rw [if_pos (decide_eq_true c1), decide_eq_true (.inl (by omega))]
    · rw [if_neg (by simpa using c1)]
      by_cases c2 : y > 400
      · rw [if_pos (decide_eq_true c2), decide_eq_true (.inr (.inr c2))]
      · rw [if_neg (by simpa using c2)]
        congr 1
        simp only [eq_iff_iff, decide_eq_decide]; omega
  try dsimp only
  by_cases hc : sh.length > 40 ∨ y < -400 ∨ y > 400
  · rw [if_pos (decide_eq_true hc), if_pos hc]
  rw [if_neg (by simpa using hc), if_neg hc]
  have hc' : ¬ (sh.length > 40) ∧ ¬ y < -400 ∧ ¬ y > 400 := ⟨fun h => hc (.inl h), fun h => hc (.inr (.inl h)), fun h => hc (.inr (.inr h))⟩
  have hf := XK
  unfold AKU
  by_cases c1 : y < 0
  · rw [if_pos (decide_eq_true c1), if_pos c1, AL (by unfold Ab; omega), AL (by unfold Ab; simp; omega), Au (by omega), PV (by omega) (by omega), Qq _ (by omega) (by omega), Option.bind_some]
    have := hf (0 - y).toNat
    have := hf (-y).toNat
    rw [AL (by unfold Ab; simp; omega), show (0 - y).toNat = (-y).toNat by omega]
    simp
  · rw [if_neg (by simpa using c1), if_neg c1]
    by_cases c2 : y > 0
    · have := hf y.toNat
      rw [if_pos (decide_eq_true c2), if_pos c2, AL (by unfold Ab; omega), AL (by unfold Ab; simp; omega), PV (by omega) (by omega), Qq _ (by omega) (by omega), Option.bind_some, AL (by unfold Ab; simp; omega)]
      simp
    · rw [if_neg (by simpa using c2), if_neg c2, AL (by unfold Ab; omega)]
      simp
end
theorem AGV (s : List UInt8) (hn : s = [] ∨ Bi s ≠ s.length) (hb : s.length ≤ 2 ^ 48) : BU N s = some ([], 130) := by
  unfold BU
  have hp := Lv (N := N) (l := s) (t := s) (i := 0) (by simp) (by omega) (by omega)
  by_cases hz : Bi s = 0
  · rw [if_pos hz] at hp
    obtain ⟨q, hq⟩ := hp
    have hq' : BF N (TokenReader.mk s 0) = some ([], false, q) := hq
    rw [hq', Option.bind_some]; rfl
  · rw [if_neg hz] at hp
    have hp' : BF N (TokenReader.mk s 0) = some (s.take (Bi s), true, (⟨s, ((0 + Bi s : Nat) : Int)⟩ : TokenReader)) := hp
    rw [hp', Option.bind_some]
    refine (BO (a := true) fun k4 => ?_).trans rfl
    have hle := PM s
    have hne : Bi s ≠ s.length := by
      rcases hn with rfl | h
      · exact absurd rfl hz
      · exact h
    rw [if_pos rfl, List.length_take, Nat.min_eq_left hle]
    congr 1
    simp only [bne_iff_ne, ne_eq]; omega
theorem AG3 (s : List UInt8) (hn : s = [] ∨ Bi s ≠ s.length) (hb : s.length ≤ 2 ^ 48) (hN : s.length + 30 < N) : Dq N s = some ([], 130) := by
  unfold Dq
  refine (BO (a := true) fun k2 => ?_).trans rfl
  by_cases h : s = []
  · subst h; rfl
  · have hne : Bi s ≠ s.length := by
      rcases hn with e | e
      · exact absurd e h
      · exact e
    rw [if_neg (by simpa using h), OL s (by omega) (by omega), Option.bind_some]
    congr 1
    simp only [bne_iff_ne, ne_eq]; omega
end
end Go.VM
namespace Go.VM
theorem Pw {p : UInt8 → Bool} (l : List UInt8) : (l.dropWhile p).length ≤ l.length := (List.dropWhile_sublist p (l := l)).length_le
theorem Vp {sg m : List UInt8} {x y : Int} (hm : m.length ≤ 2000000) (h : x = y ∨ (100000000 ≤ x ∧ 100000000 ≤ y) ∨ (x ≤ -100000000 ∧ y ≤ -100000000)) : Ik sg m x = Ik sg m y := by
  unfold Ik
  dsimp only
  have h1 := Pw (p := fun x : UInt8 => x == 48) m
  have h2 := QB (fun x : UInt8 => x == 48) (m.dropWhile (fun x : UInt8 => x == 48))
  generalize m.dropWhile (fun x : UInt8 => x == 48) = m1 at *
  generalize G7 (fun x : UInt8 => x == 48) m1 = sh at *
  by_cases hz : sh = []
  · rw [if_pos hz, if_pos hz]
  · rw [if_neg hz, if_neg hz]
    rcases h with rfl | ⟨ha, hb⟩ | ⟨ha, hb⟩
    · rfl
    · rw [if_pos (.inr (.inr (by omega))), if_pos (.inr (.inr (by omega)))]
    · rw [if_pos (.inr (.inl (by omega))), if_pos (.inr (.inl (by omega)))]
theorem AC0 (P : List UInt8) (f : Nat) (hf : f ≤ 2000000) : I1 (2 ^ 40) P - f = I1 (2 ^ 30) P - f ∨ (100000000 ≤ I1 (2 ^ 40) P - f ∧ 100000000 ≤ I1 (2 ^ 30) P - f) ∨ (I1 (2 ^ 40) P - f ≤ -100000000 ∧ I1 (2 ^ 30) P - f ≤ -100000000) := by
  unfold I1
  generalize GL 0 (P.dropWhile ([43, 45] : List UInt8).contains) = v
  by_cases h : v ≤ 2 ^ 30
  · rw [Nat.min_eq_left (show v ≤ 2 ^ 40 by omega), Nat.min_eq_left h]; exact .inl rfl
  · rw [Nat.min_eq_right (show 2 ^ 30 ≤ v by omega)]
    have h2 : 2 ^ 30 ≤ min v (2 ^ 40) := Nat.le_min.2 ⟨by omega, by decide⟩
    split
    · exact .inr (.inr ⟨by omega, by omega⟩)
    · exact .inr (.inl ⟨by omega, by omega⟩)
theorem AAT (sg m : List UInt8) (x : Int) : (Ik sg m x).2 = 0 ∨ Ik sg m x = ([], 144) := by
  unfold Ik
  dsimp only
  split
  · exact .inl rfl
  · split
    · exact .inr rfl
    · exact .inl rfl
def N9 (N : Nat) (s : List UInt8) : List UInt8 × Int := (BU N s).getD ([], 144)
theorem Vj {N : Nat} {s : List UInt8} (h0 : s ≠ []) (hn : Bi s = s.length) (hb : s.length ≤ 2000000) (hN : s.length + 30 < N) :
    BU N s = some (N9 N s) ∧ Dq N s = some (N9 N s) ∧ ((N9 N s).2 = 0 ∨ N9 N s = ([], 144)) := by
  obtain ⟨sg, W, F, FR, P, EX, h⟩ := LA h0 hn
  obtain ⟨l1, l2, l3⟩ := h.len
  have e1 := TG (N := N) h hn (by omega) hN
  have e2 := AH8 (N := N) h hn (by omega) hN
  have e3 : N9 N s = Ik sg (W ++ F) (I1 (2 ^ 40) P - F.length) := by unfold N9; rw [e1]; rfl
  refine ⟨by rw [e3]; exact e1, ?_, by rw [e3]; exact AAT _ _ _⟩
  rw [e2, e3, Vp (by rw [List.length_append]; omega) (AC0 P F.length (by omega))]
theorem Hf {set t : List UInt8} {n : Nat} (h : 0 < n) : Bn set (t.take n) = Bn set t := by
  cases t with
  | nil => simp
  | cons c t =>
    obtain ⟨n, rfl⟩ : ∃ k, n = k + 1 := ⟨n - 1, by omega⟩
    rfl
theorem P9 (p : UInt8 → Bool) : ∀ (t : List UInt8) (n : Nat), ((t.take n).takeWhile p).length = min (t.takeWhile p).length n
  | [], n => by simp
  | c :: t, 0 => by simp
  | c :: t, n + 1 => by
    simp only [List.take_succ_cons, List.takeWhile_cons]
    cases p c
    · simp
    · simp only [if_true, List.length_cons, P9 p t n]; omega
theorem LC (t : List UInt8) (n : Nat) : Cu (t.take n) = min (Cu t) n := P9 _ _ _
theorem GK (t : List UInt8) (a n : Nat) : (t.take n).drop a = (t.drop a).take (n - a) := by rw [List.drop_take]
theorem ADI {t : List UInt8} {n : Nat} (h : BR t ≤ n) (hn : 0 < n) : BR (t.take n) = BR t := by
  unfold BR at *
  rw [Hf hn]
  split
  · rfl
  · rename_i hz; rw [if_neg hz] at h; rw [LC]; omega
theorem Zi {t : List UInt8} {n : Nat} (h : Cb t ≤ n) : Cb (t.take n) = Cb t := by
  unfold Cb at *
  by_cases h1 : Bn [46] t = true ∧ 0 < Cu (t.drop 1)
  · rw [if_pos h1] at h ⊢
    have e : Cu ((t.take n).drop 1) = Cu (t.drop 1) := by rw [GK, LC]; omega
    rw [if_pos ⟨by rw [Hf (by omega)]; exact h1.1, by rw [e]; exact h1.2⟩, e]
  · rw [if_neg h1]
    refine if_neg fun h2 => h1 ⟨?_, ?_⟩
    · have : 0 < n := by
        rcases Nat.eq_zero_or_pos n with e | e
        · subst e; simp [Bn] at h2
        · exact e
      rw [Hf this] at h2; exact h2.1
    · have := h2.2; rw [GK, LC] at this; omega
theorem AB2 {t : List UInt8} : Fx (t.take (Fx t)) = Fx t := by
  unfold Fx
  by_cases h1 : Bn [101, 69] t = true ∧ 0 < Cu (t.drop (1 + EZ t))
  · rw [if_pos h1]
    have h12 := h1.2
    have hg : ∀ n, 1 < n → EZ (t.take n) = EZ t := fun n hn => by
      unfold EZ
      rw [GK, Hf (by omega)]
    have e : Cu ((t.take (1 + EZ t + Cu (t.drop (1 + EZ t)))).drop (1 + EZ t)) = Cu (t.drop (1 + EZ t)) := by rw [GK, LC]; omega
    rw [hg _ (by omega), e, if_pos ⟨by rw [Hf (by omega)]; exact h1.1, h1.2⟩]
  · rw [if_neg h1, List.take_zero]
    exact if_neg fun h => by simp [Bn] at h
theorem Sc (t : List UInt8) : Bi (t.take (Bi t)) = Bi t := by
  by_cases hz : BR (t.drop (AR t)) = 0
  · have e : Bi t = 0 := by unfold Bi; rw [if_pos hz]
    rw [e, List.take_zero]; rfl
  · have e : Bi t = AR t + BR (t.drop (AR t)) + Cb (t.drop (AR t + BR (t.drop (AR t)))) + Fx (t.drop (AR t + BR (t.drop (AR t)) + Cb (t.drop (AR t + BR (t.drop (AR t)))))) := by
      unfold Bi; rw [if_neg hz]
    generalize hn : Bi t = n at *
    have hs : AR (t.take n) = AR t := by unfold AR; rw [Hf (by omega)]
    have hi : BR ((t.take n).drop (AR t)) = BR (t.drop (AR t)) := by rw [GK]; exact ADI (by omega) (by omega)
    have hf : Cb ((t.take n).drop (AR t + BR (t.drop (AR t)))) = Cb (t.drop (AR t + BR (t.drop (AR t)))) := by rw [GK]; exact Zi (by omega)
    have he : Fx ((t.take n).drop (AR t + BR (t.drop (AR t)) + Cb (t.drop (AR t + BR (t.drop (AR t)))))) = Fx (t.drop (AR t + BR (t.drop (AR t)) + Cb (t.drop (AR t + BR (t.drop (AR t)))))) := by
      rw [GK]
      have : n - (AR t + BR (t.drop (AR t)) + Cb (t.drop (AR t + BR (t.drop (AR t))))) = Fx (t.drop (AR t + BR (t.drop (AR t)) + Cb (t.drop (AR t + BR (t.drop (AR t)))))) := by omega
      rw [this]; exact AB2
    unfold Bi
    rw [hs, hi, if_neg hz, hf, he]
    exact e.symm
inductive TK (n : Nat) : ApiToken → Prop
  | fin (p : Int) : TK n (ApiToken.mk 1 [] p)
  | pun (c : UInt8) (p : Int) (h : H6.contains c = true) : TK n (ApiToken.mk 2 [c] p)
  | txt (s : List UInt8) (p : Int) (h : s.length ≤ n) : TK n (ApiToken.mk 3 s p)
  | num (s : List UInt8) (p : Int) (h0 : s ≠ []) (h : Bi s = s.length) (hl : s.length ≤ n) : TK n (ApiToken.mk 4 s p)
  | wrd (s : List UInt8) (p : Int) (h : isWord s = true) : TK n (ApiToken.mk 5 s p)
theorem Wz {N : Nat} {l : List UInt8} {i : Nat} (hi : i ≤ l.length) (he : (Ey N l i).2.2 = 0) : TK l.length (Ey N l i).1 ∧ ∃ j : Nat, (Ey N l i).2.1 = j ∧ i ≤ j ∧ j ≤ l.length ∧ ((Ey N l i).1.kind ≠ 1 → i < j) := by
  unfold Ey at he ⊢
  have hw := KT wsB (l.drop i)
  rw [List.length_drop] at hw
  generalize hp : i + ((l.drop i).takeWhile wsB).length = p at he ⊢
  obtain ⟨t, ht⟩ : ∃ t, l.drop p = t := ⟨_, rfl⟩
  have hl : p + t.length = l.length := by rw [← ht, List.length_drop]; omega
  rw [ht] at he ⊢
  match t, hl, he with
  | [], hl, he => exact ⟨.fin _, p, rfl, by omega, by simp at hl; omega, fun h => absurd rfl h⟩
  | c :: r, hl, he =>
    simp only [List.length_cons] at hl
    rw [Ec] at he ⊢
    by_cases h1 : H6.contains c = true
    · rw [if_pos h1]; exact ⟨.pun c _ h1, p + 1, rfl, by omega, by omega, fun _ => by omega⟩
    rw [if_neg h1] at he ⊢
    by_cases h2 : c.toNat = 34
    · rw [if_pos h2] at he ⊢
      by_cases h3 : (Bw N r (p + 1) []).2.2 = 0
      · rw [if_pos h3]
        have := QC N r (p + 1) [] h3
        exact ⟨.txt _ _ (by have := this.2.2; simp at this; omega), _, rfl, by omega, by have := this.2.1; omega, fun _ => by have := this.1; omega⟩
      · rw [if_neg h3] at he; exact absurd he h3
    rw [if_neg h2] at he ⊢
    by_cases h3 : (([45] : List UInt8).contains c || Cm c) = true
    · rw [if_pos h3] at he ⊢
      by_cases h4 : Bi (c :: r) = 0
      · rw [if_pos h4] at he; cases he
      · rw [if_neg h4]
        have hle := PM (c :: r)
        simp only [List.length_cons] at hle
        have hlen : ((c :: r).take (Bi (c :: r))).length = Bi (c :: r) := by rw [List.length_take]; simp only [List.length_cons]; omega
        refine ⟨.num _ _ (fun e => h4 (by rw [← hlen, e]; rfl)) (by rw [hlen, Sc]) (by rw [hlen]; omega), _, rfl, by omega, by omega, fun _ => by omega⟩
    rw [if_neg h3] at he ⊢
    by_cases h4 : isWord ((c :: r).takeWhile BX) = true
    · rw [if_pos h4]
      have := KT BX (c :: r)
      simp only [List.length_cons] at this
      have hpos : 0 < ((c :: r).takeWhile BX).length := by
        rcases Nat.eq_zero_or_pos ((c :: r).takeWhile BX).length with e | e
        · rw [List.length_eq_zero_iff.1 e] at h4; simp [isWord] at h4
        · exact e
      exact ⟨.wrd _ _ h4, _, rfl, by omega, by omega, fun _ => by omega⟩
    · rw [if_neg h4] at he; cases he
end Go.VM
namespace Go.VM
mutual
def GN : ApiValue → Nat
  | ⟨kind, _, _, items⟩ => (if kind == 6 || kind == 7 then 1 else 0) + D6 items
def D6 : List ApiValue → Nat
  | [] => 0
  | x :: xs => max (GN x) (D6 xs)
end
theorem JV (v : ApiValue) : GN v = (if v.kind == 6 || v.kind == 7 then 1 else 0) + D6 v.items := by cases v; rw [GN]
theorem NB (v : ApiValue) : 0 < Dk v := by rw [Gp]; omega
section
variable {N : Nat}
theorem QY (inner : Nat) (rc : ApiValue → Int → Option Int) : ∀ (xs : List ApiValue) (n : Nat), n + Be xs ≤ 20000 → (∀ x, x ∈ xs → rc x (inner : Int) = some (if inner + GN x ≤ 64 then (Dk x : Int) else 0)) →
    inner ≤ 64 → CO N rc (inner : Int) (fun j => some j) xs (n : Int) = some (if inner + D6 xs ≤ 64 then ((n + Be xs : Nat) : Int) else 0)
  | [], n, _, _, hi => by rw [CO, D6, Be, if_pos (by omega)]; rfl
  | x :: xs, n, hn, hr, hi => by
    rw [Be] at hn
    have hp := NB x
    rw [CO, hr x (by simp), Option.bind_some, D6, Be]
    by_cases h : inner + GN x ≤ 64
    · have e0 : ((Dk x : Int) == 0) = false := by simp; omega
      rw [if_pos h, e0, if_neg (by decide), Au (by omega), if_neg (by simp; omega), show (n : Int) + (Dk x : Int) = ((n + Dk x : Nat) : Int) by simp]
      rw [QY inner rc xs (n + Dk x) (by omega) (fun y hy => hr y (by simp [hy])) hi]
      by_cases h2 : inner + D6 xs ≤ 64
      · rw [if_pos h2, if_pos (by omega)]; congr 2; omega
      · rw [if_neg h2, if_neg (by omega)]
    · rw [if_neg h, if_pos (by decide), if_neg (by omega)]
theorem PT {x : ApiValue} : ∀ {xs : List ApiValue}, x ∈ xs → Dk x ≤ Be xs
  | y :: xs, h => by
    rw [Be]
    rcases List.mem_cons.1 h with rfl | h
    · omega
    · have := PT h; omega
theorem Xq : ∀ (D e d : Nat) (v : ApiValue), okW e v → e ≤ D → d ≤ 64 → Dk v ≤ 20000 → Cq N D v (d : Int) = some (if d + GN v ≤ 64 then (Dk v : Int) else 0)
  | 0, e, d, v, h, he, _, _ => by have := h.pos; omega
  | D + 1, e, d, v, h, he, hd, hc => by
    obtain ⟨e, rfl⟩ : ∃ k, e = k + 1 := ⟨e - 1, by have := h.pos; omega⟩
    have hi := h.items
    rw [Gp] at hc
    have main : ∀ inner : Nat, inner ≤ 65 → (if decide ((inner : Int) > 64) = true then some (0 : Int) else AU (fun j9 : Int => some j9) fun k10 => grd (Ab v.items.length) (CO N (Cq N D) (inner : Int) k10 v.items 1)) = some (if inner + D6 v.items ≤ 64 then (Dk v : Int) else 0) := by
      intro inner hin
      by_cases h64 : inner > 64
      · rw [if_pos (by simp; omega), if_neg (by omega)]
      · rw [if_neg (by simp; omega), AO, Jg (by omega), show (1 : Int) = ((1 : Nat) : Int) from rfl]
        rw [QY inner (Cq N D) v.items 1 (by omega) (fun x hx => Xq D e inner x (h.sub x hx) (by omega) (by omega) (by have := PT hx; omega)) (by omega), Gp]
    rw [Cq, JV]
    simp only [AO]
    cases h6 : v.kind == 6
    · cases h7 : v.kind == 7
      · simp only [Bool.false_eq_true, if_false, Bool.or_false, Nat.zero_add]
        exact main d (by omega)
      · simp only [Bool.false_eq_true, if_false, if_true, Bool.or_true]
        rw [Au (by omega), show (d : Int) + 1 = ((d + 1 : Nat) : Int) by simp]
        have := main (d + 1) (by omega)
        simpa [Nat.add_assoc, AO] using this
    · simp only [if_true, Bool.true_or]
      rw [Au (by omega), show (d : Int) + 1 = ((d + 1 : Nat) : Int) by simp]
      have := main (d + 1) (by omega)
      simpa [Nat.add_assoc, AO] using this
def UX (N : Nat) (s : List UInt8) : List UInt8 × Int := if s ≠ [] ∧ Bi s = s.length then N9 N s else ([], 130)
theorem AID (s : List UInt8) (hb : s.length ≤ 2000000) (hN : s.length + 30 < N) : Dq N s = some (UX N s) ∧ BU N s = some (UX N s) := by
  unfold UX
  by_cases h : s ≠ [] ∧ Bi s = s.length
  · rw [if_pos h]
    obtain ⟨h1, h2, _⟩ := Vj h.1 h.2 hb hN
    exact ⟨h2, h1⟩
  · rw [if_neg h]
    have hb' : s = [] ∨ Bi s ≠ s.length := by
      by_cases h1 : s = []
      · exact .inl h1
      · exact .inr fun h2 => h ⟨h1, h2⟩
    exact ⟨AG3 s hb' (by omega) hN, AGV s hb' (by omega)⟩
def Y7 (N : Nat) (s : List UInt8) : Bool := (UX N s).2 == 0 && (UX N s).1 == s
mutual
def Ed (N : Nat) : ApiValue → Bool
  | ⟨kind, text, keys, items⟩ =>
    if kind == 1 || kind == 2 || kind == 3 then text == [] && keys.isEmpty && items.isEmpty
    else if kind == 4 then Y7 N text && keys.isEmpty && items.isEmpty
    else if kind == 5 then (Dc N text).isSome && keys.isEmpty && items.isEmpty
    else if kind == 6 then text == [] && keys.isEmpty && Ki N items
    else if kind == 7 then text == [] && decide (keys.length = items.length) && Jh N keys && Ki N items
    else false
def Ki (N : Nat) : List ApiValue → Bool
  | [] => true
  | x :: xs => Ed N x && Ki N xs
end
theorem Pi (rc : ApiValue → Option Bool) (k24 : Unit → Option Bool) (hk : k24 () = some true) : ∀ (xs : List ApiValue), (∀ x, x ∈ xs → rc x = some (Ed N x)) → CK N rc k24 xs = some (Ki N xs)
  | [], _ => by rw [CK, Ki, hk]
  | x :: xs, h => by
    rw [CK, h x (by simp), Option.bind_some, Ki, Pi rc k24 hk xs fun y hy => h y (by simp [hy])]
    cases Ed N x <;> simp
theorem Sr {α : Type} (l : List α) : (((l.length : Nat) : Int) == 0) = l.isEmpty := by cases l <;> simp; omega
theorem Yf (hN : 2000 ≤ N) : ∀ (D e : Nat) (v : ApiValue), okW e v → e ≤ D → DJ N D v = some (Ed N v)
  | 0, e, v, h, he => by have := h.pos; omega
  | D + 1, e, v, h, he => by
    obtain ⟨e, rfl⟩ : ∃ k, e = k + 1 := ⟨e - 1, by have := h.pos; omega⟩
    have hi := h.items; have ht := h.text; have hk := h.keys; have hkl := h.klen
    have hs := h.sub
    have loop : ∀ k24 : Unit → Option Bool, k24 () = some true → CK N (DJ N D) k24 v.items = some (Ki N v.items) := fun k24 h24 => Pi _ k24 h24 v.items fun x hx => Yf hN D e x (hs x hx) (by omega)
    have hdiff := U5 (N := N) v.keys (by omega) (by omega) fun k hk => ⟨by have := hkl k hk; omega, by have := hkl k hk; omega⟩
    have hnum := (AID (N := N) v.text (by omega) (by omega)).1
    have hval := OC (N := N) (l := v.text) (by omega) (by omega)
    rw [DJ]
    obtain ⟨kind, text, keys, items⟩ := v
    simp only at *
    rw [Ed]
    simp only [AO, Sr, hdiff, hnum, hval, Option.bind_some]
    rw [Jg (by omega), loop _ rfl]
    have elen : (((keys.length : Nat) : Int) != ((items.length : Nat) : Int)) = !decide (keys.length = items.length) := by
      by_cases h : keys.length = items.length
      · simp [h]
      · have : ¬ ((keys.length : Int) = (items.length : Int)) := by omega
        simp [h, this, bne]
    have elen0 : (((keys.length : Nat) : Int) != 0) = !keys.isEmpty := by rw [bne, Sr]
    rw [elen, elen0]
    unfold Y7
    cases h1 : kind == 1 <;> cases h2 : kind == 2 <;> cases h3 : kind == 3 <;> simp only [Bool.false_eq_true, if_false, if_true, Bool.or_false, Bool.or_true, Bool.true_or, Bool.false_or, Bool.or_self]
    all_goals first
      | (cases text == [] <;> cases keys.isEmpty <;> rfl)
      | skip
    cases h4 : kind == 4 <;> cases h5 : kind == 5 <;> cases h6 : kind == 6 <;> cases h7 : kind == 7 <;> simp only [Bool.false_eq_true, if_false, if_true]
    all_goals first
      | rfl
      | (cases (UX N text).2 == 0 <;> cases (UX N text).1 == text <;> cases keys.isEmpty <;> rfl)
      | (cases (Dc N text).isSome <;> cases keys.isEmpty <;> rfl)
      | (cases text == [] <;> cases keys.isEmpty <;> rfl)
      | (cases text == [] <;> cases decide (keys.length = items.length) <;> cases Jh N keys <;> rfl)
theorem AFx (hN : 2000 ≤ N) {v : ApiValue} (h : okW 70 v) (hc : Dk v ≤ 20000) : H7 N v = some (decide (GN v ≤ 64) && Ed N v) := by
  unfold H7
  have hp := NB v
  rw [show (0 : Int) = ((0 : Nat) : Int) from rfl, Xq N 70 0 v h (by omega) (by omega) hc, Option.bind_some, Nat.zero_add]
  by_cases hn : GN v ≤ 64
  · rw [if_pos hn, if_pos (by simp; omega), if_pos (by simp; omega), Yf hN N 70 v h (by omega), Option.bind_some]
    simp [hn]
  · rw [if_neg hn, if_neg (by simp)]; simp [hn]
end
end Go.VM
