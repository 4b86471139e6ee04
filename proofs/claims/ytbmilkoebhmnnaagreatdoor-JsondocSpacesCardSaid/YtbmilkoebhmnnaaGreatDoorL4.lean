import Derived.Test.YtbmilkoebhmnnaaGreatDoorL3
set_option linter.unusedVariables false
set_option linter.unusedSimpArgs false
namespace Go.VM
section
variable {N : Nat}
def GX : Nat → List UInt8 → Nat
  | n, [] => n
  | n, c :: l => GX (n * 10 + Em c.toNat) l
theorem NI : ∀ (l : List UInt8) (n : Nat), n ≤ GX n l
  | [], n => by rw [GX]; exact Nat.le_refl _
  | c :: l, n => by
    have := NI l (n * 10 + Em c.toNat)
    rw [GX]; omega
theorem JN {c : UInt8} (h : Ca c = true) : 48 ≤ c.toNat ∧ c.toNat ≤ 57 := by
  simpa [Ca] using h
theorem PW {c : UInt8} (h : Ca c = true) : J6 c = true ∧ Em c.toNat = c.toNat - 48 := by
  have := JN h
  refine ⟨?_, ?_⟩
  · simp only [J6, AAl, Bool.or_eq_true, Bool.and_eq_true, decide_eq_true_eq]; omega
  · unfold Em; rw [if_pos this.2]
theorem AJk (k2 : Unit → Option (Int × Int)) : ∀ l : List UInt8, Ad N k2 l = if l.all Ca = true then k2 () else some (0, 1)
  | [] => by rw [Ad]; rfl
  | c :: l => by
    rw [Ad, UH, Option.bind_some, AJk k2 l]
    cases h : Ca c <;> simp [h]
theorem AJm {m : Nat} (hm : m ≤ 2 ^ 59) (k9 : Int → Option (Int × Int)) : ∀ (l : List UInt8) (n : Nat), l.all Ca = true → n ≤ m → Af N 10 (m : Int) k9 l (n : Int) = if GX n l ≤ m then k9 ((GX n l : Nat) : Int) else some (0, 4)
  | [], n, _, hn => by rw [Af, GX, if_pos hn]
  | c :: l, n, h, hn => by
    simp only [List.all_cons, Bool.and_eq_true] at h
    have hd : Em c.toNat ≤ 9 := by have := JN h.1; rw [(PW h.1).2]; omega
    obtain ⟨hx, hv⟩ := PW h.1
    rw [Af, ABa c hx, Option.bind_some, AP, AO (by decide)]
    have w1 : wr .u64 ((n : Int) * 10) = ((n * 10 : Nat) : Int) := by rw [IG (by omega)]; simp
    have w2 : wr .u64 (((n * 10 : Nat) : Int) + ((Em c.toNat : Nat) : Int)) = ((n * 10 + Em c.toNat : Nat) : Int) := by rw [IG (by omega)]; simp
    have w3 : wr .u64 (18446744073709551615 - ((Em c.toNat : Nat) : Int)) = 18446744073709551615 - ((Em c.toNat : Nat) : Int) := IG (by omega)
    rw [w1, w2, w3, Int.tdiv_eq_ediv_of_nonneg (by omega), IG (by omega)]
    have c1 : ¬ ((n : Int) > (18446744073709551615 - ((Em c.toNat : Nat) : Int)) / 10) := by omega
    rw [if_neg (by simpa using c1), GX]
    by_cases c2 : n * 10 + Em c.toNat ≤ m
    · have c3 : ¬ (((n * 10 + Em c.toNat : Nat) : Int) > (m : Int)) := by omega
      rw [decide_eq_false c3]
      simp only [Bool.false_eq_true, if_false]
      exact AJm hm k9 l _ h.2 c2
    · have c3 : (((n * 10 + Em c.toNat : Nat) : Int) > (m : Int)) := by omega
      have := NI l (n * 10 + Em c.toNat)
      rw [decide_eq_true c3, if_neg (by omega)]; rfl
theorem AD4 {m : Nat} (hm : m ≤ 2 ^ 59) (l : List UInt8) (hb : l.length ≤ 2 ^ 60) : Gd N l (m : Int) = some (if l = [] then (0, 3) else if l.all Ca = true then (if GX 0 l ≤ m then (((GX 0 l : Nat) : Int), 0) else (0, 4)) else (0, 1)) := by
  unfold Gd Cu
  by_cases h : l = []
  · subst h; rfl
  · rw [if_neg (by simpa using h), if_neg h, AP, AO (by unfold Ab; omega), AJk]
    by_cases h1 : l.all Ca = true
    · rw [if_pos h1, if_pos h1, AP, AO (by unfold Ab; omega), show (0 : Int) = ((0 : Nat) : Int) from rfl, AJm hm _ l 0 h1 (by omega)]
      split <;> rfl
    · rw [if_neg h1, if_neg h1]; rfl
def JA (B : Nat) (P : List UInt8) : Int := if Bz [45] P = true then -((min (GX 0 (P.dropWhile ([43, 45] : List UInt8).contains)) B : Nat) : Int) else ((min (GX 0 (P.dropWhile ([43, 45] : List UInt8).contains)) B : Nat) : Int)
def AB2 (P : List UInt8) : Prop := P = [] ∨ ∃ sn D, P = sn ++ D ∧ (sn = [] ∨ sn = [43] ∨ sn = [45]) ∧ D ≠ [] ∧ D.all Ca = true
theorem AB3 {c : UInt8} (h : Ca c = true) : ([43, 45] : List UInt8).contains c = false := by
  have := Co (f := fun n => if (decide (48 ≤ n) && decide (n ≤ 57)) = true then ([43, 45] : List UInt8).contains (UInt8.ofNat n) else false) (g := fun _ => false) (by kernel_rfl) c
  simp only [UInt8.ofNat_toNat, show (decide (48 ≤ c.toNat) && decide (c.toNat ≤ 57)) = true from h, if_true] at this
  exact this
theorem Ms {D : List UInt8} (h : D.all Ca = true) : D.dropWhile ([43, 45] : List UInt8).contains = D := by
  cases D with
  | nil => rfl
  | cons c D =>
    simp only [List.all_cons, Bool.and_eq_true] at h
    rw [List.dropWhile_cons, AB3 h.1]; rfl
theorem Sy {P : List UInt8} (h : AB2 P) : (P.dropWhile ([43, 45] : List UInt8).contains).all Ca = true ∧ (P.dropWhile ([43, 45] : List UInt8).contains = [] → P = []) := by
  rcases h with rfl | ⟨sn, D, rfl, hs, hD, hd⟩
  · exact ⟨rfl, fun _ => rfl⟩
  · have : (sn ++ D).dropWhile ([43, 45] : List UInt8).contains = D := by
      rcases hs with rfl | rfl | rfl
      · exact Ms hd
      · show (43 :: D).dropWhile _ = D
        rw [List.dropWhile_cons, show ([43, 45] : List UInt8).contains 43 = true from rfl, if_pos rfl]; exact Ms hd
      · show (45 :: D).dropWhile _ = D
        rw [List.dropWhile_cons, show ([43, 45] : List UInt8).contains 45 = true from rfl, if_pos rfl]; exact Ms hd
    rw [this]
    exact ⟨hd, fun e => absurd e hD⟩
theorem AI3 {P : List UInt8} (h : AB2 P) (hb : P.length ≤ 2 ^ 60) (hN : P.length < N) : Fa N P = some (JA (2 ^ 40) P) := by
  obtain ⟨h1, h2⟩ := Sy h
  unfold Fa
  rw [ADB P [43, 45] (by simp) (by simp) (by decide) hN, Option.bind_some]
  have hl := (List.dropWhile_sublist ([43, 45] : List UInt8).contains (l := P)).length_le
  unfold JA
  generalize hD : P.dropWhile ([43, 45] : List UInt8).contains = D at *
  rw [show (1099511627776 : Int) = ((2 ^ 40 : Nat) : Int) from rfl, AD4 (by decide) D (by omega), Option.bind_some]
  by_cases he : D = []
  · rw [if_pos he]
    have hP := h2 he
    subst hP; subst he
    rfl
  · rw [if_neg he, if_pos h1]
    have key : ∀ v : Nat, v ≤ 2 ^ 40 → (Option.bind (strings_HasPrefix N P [45]) fun y9 => if y9 = true then some (wr .i64 (0 - wr .i64 (v : Int))) else some (wr .i64 (v : Int))) = some (if Bz [45] P = true then -(v : Int) else (v : Int)) := by
      intro v hv
      rw [AJS, Option.bind_some, Ar (n := (v : Int)) (by omega), Ar (n := 0 - (v : Int)) (by omega)]
      split <;> simp
    rw [AP]
    by_cases hv : GX 0 D ≤ 2 ^ 40
    · rw [if_pos hv, Nat.min_eq_left hv]
      exact key _ hv
    · rw [if_neg hv, Nat.min_eq_right (by omega)]
      exact key _ (Nat.le_refl _)
theorem Ns (k19 : Int → Option Int) : ∀ (l : List UInt8) (n : Nat), l.all Ca = true → n ≤ 2 ^ 30 → Bo N k19 l (n : Int) = k19 ((min (GX n l) (2 ^ 30) : Nat) : Int)
  | [], n, _, hn => by rw [Bo, GX, Nat.min_eq_left hn]
  | c :: l, n, h, hn => by
    simp only [List.all_cons, Bool.and_eq_true] at h
    have hd := JN h.1
    rw [Bo, GX]
    have w0 : wr .u8 (AL c - 48) = ((Em c.toNat : Nat) : Int) := by rw [AJj (by simp only [AL]; omega)]; rw [(PW h.1).2]; simp only [AL]; omega
    have hd9 : Em c.toNat ≤ 9 := by rw [(PW h.1).2]; omega
    rw [w0, Ar (n := (n : Int) * 10) (by omega), Ar (n := ((Em c.toNat : Nat) : Int)) (by omega), Ar (by omega)]
    have e : (n : Int) * 10 + ((Em c.toNat : Nat) : Int) = ((n * 10 + Em c.toNat : Nat) : Int) := by simp
    rw [e]
    have hge := NI l (n * 10 + Em c.toNat)
    by_cases c1 : (1073741824 : Int) < ((n * 10 + Em c.toNat : Nat) : Int)
    · rw [if_pos c1, show (1073741824 : Int) = ((2 ^ 30 : Nat) : Int) from rfl, Ns k19 l (2 ^ 30) h.2 (Nat.le_refl _)]
      have := NI l (2 ^ 30)
      rw [Nat.min_eq_right this, Nat.min_eq_right (by omega)]
    · rw [if_neg c1, Ns k19 l _ h.2 (by omega)]
theorem AH4 {P : List UInt8} (h : AB2 P) (hb : P.length ≤ 2 ^ 60) : FY N P = some (JA (2 ^ 30) P) := by
  obtain ⟨h1, h2⟩ := Sy h
  unfold FY
  refine (BS (a := Bz [45] P) fun k2 => ?_).trans ?_
  · cases P with
    | nil => rfl
    | cons c P => rw [if_neg (by simp), show idx (c :: P) 0 = some c from rfl, Option.bind_some, AE2]; rfl
  try dsimp only
  refine (BS (a := P.dropWhile ([43, 45] : List UInt8).contains) fun k7 => (BS (a := Bz [43, 45] P) fun k11 => ?_).trans ?_).trans ?_
  · cases P with
    | nil => rfl
    | cons c P =>
      show (if (c :: P == ([] : List UInt8)) = true then k11 false else Option.bind (idx (c :: P) 0) fun x14 => Option.bind (Gt N (AL x14) [43, 45]) fun y15 => k11 y15) = _
      rw [if_neg (by simp), show idx (c :: P) 0 = some c from rfl, Option.bind_some, Ub _ _ (by decide), Option.bind_some]; rfl
  · try dsimp only
    rcases h with rfl | ⟨sn, D, rfl, hs, hD, hd⟩
    · rfl
    · have hdd := Ms hd
      rcases hs with rfl | rfl | rfl
      · cases D with
        | nil => exact absurd rfl hD
        | cons c D =>
          simp only [List.all_cons, Bool.and_eq_true] at hd
          rw [List.nil_append, hdd, if_neg (by show ¬ ([43, 45] : List UInt8).contains c = true; rw [AB3 hd.1]; simp)]
      · have e : ([43] ++ D).dropWhile ([43, 45] : List UInt8).contains = D := by
          show (43 :: D).dropWhile _ = D
          rw [List.dropWhile_cons, show ([43, 45] : List UInt8).contains 43 = true from rfl, if_pos rfl]; exact hdd
        rw [e, if_pos (by rfl)]
        exact (congrArg (fun x => Option.bind x k7) (I8 43 D)).trans rfl
      · have e : ([45] ++ D).dropWhile ([43, 45] : List UInt8).contains = D := by
          show (45 :: D).dropWhile _ = D
          rw [List.dropWhile_cons, show ([43, 45] : List UInt8).contains 45 = true from rfl, if_pos rfl]; exact hdd
        rw [e, if_pos (by rfl)]
        exact (congrArg (fun x => Option.bind x k7) (I8 45 D)).trans rfl
  try dsimp only
  have hl := (List.dropWhile_sublist ([43, 45] : List UInt8).contains (l := P)).length_le
  unfold JA
  generalize hD : P.dropWhile ([43, 45] : List UInt8).contains = D at *
  rw [AP, AO (by unfold Ab; omega), show (0 : Int) = ((0 : Nat) : Int) from rfl, Ns _ D 0 h1 (by omega)]
  have : min (GX 0 D) (2 ^ 30) ≤ 2 ^ 30 := Nat.min_le_right _ _
  rw [Ar (by omega)]
  split <;> simp
def AKL (y : Int) : List UInt8 := if y < 0 then [101, 45] ++ fmtS (-y).toNat else if y > 0 then [101] ++ fmtS y.toNat else []
def Iz (sg m : List UInt8) (x : Int) : List UInt8 × Int :=
  let m1 := m.dropWhile (· == 48)
  let sh := G9 (· == 48) m1
  if sh = [] then ([48], 0)
  else if sh.length > 40 ∨ x + m1.length - sh.length < -400 ∨ x + m1.length - sh.length > 400 then ([], 144)
  else (sg ++ sh ++ AKL (x + m1.length - sh.length), 0)
theorem Ph {y : Int} (h : 0 ≤ y) (h2 : y ≤ 2 ^ 60) : wr .u64 y = ((y.toNat : Nat) : Int) := by rw [IG (by omega)]; omega
theorem TQ {l : List UInt8} (h : l.all Ca = true) : l.map Jn = l := by
  induction l with
  | nil => rfl
  | cons c l ih =>
    simp only [List.all_cons, Bool.and_eq_true] at h
    have := JN h.1
    rw [List.map_cons, ih h.2]
    congr 1
    unfold Jn AIR; rw [if_neg (by omega)]; simp
theorem T9 {c : UInt8} {a b : List UInt8} (h : a.contains c = false) : RX c (a ++ c :: b) = (a, b, true) := by
  have h1 : ∀ a : List UInt8, a.contains c = false → (a ++ c :: b).takeWhile (· != c) = a ∧ (a ++ c :: b).dropWhile (· != c) = c :: b := by
    intro a
    induction a with
    | nil => intro _; simp
    | cons x a ih =>
      intro h
      rw [List.contains_cons, Bool.or_eq_false_iff] at h
      have hx : (x != c) = true := by
        have : c ≠ x := by simpa using h.1
        simpa using fun e : x = c => this e.symm
      obtain ⟨i1, i2⟩ := ih h.2
      rw [List.cons_append, List.takeWhile_cons, List.dropWhile_cons, hx, i1, i2]
      exact ⟨rfl, rfl⟩
  unfold RX
  rw [if_pos (by simp), (h1 a h).1, (h1 a h).2]; rfl
theorem ABg {c : UInt8} {a : List UInt8} (h : a.contains c = false) : RX c a = (a, [], false) := by
  unfold RX; rw [if_neg (by rw [h]; simp)]
theorem UC {c : UInt8} {a b : List UInt8} : (a ++ b).contains c = (a.contains c || b.contains c) := by
  simp [List.contains_eq_any_beq, List.any_append]
theorem ABo {P : List UInt8} (h : AB2 P) : P.map Jn = P := by
  rcases h with rfl | ⟨sn, D, rfl, hs, hD, hd⟩
  · rfl
  · rw [List.map_append, TQ hd]
    rcases hs with rfl | rfl | rfl <;> rfl
section
variable {s sg W F FR P EX : List UInt8}
theorem NumP.len (h : NumP s sg W F FR P EX) : s.length = sg.length + (W.length + (FR.length + EX.length)) ∧ F.length ≤ FR.length ∧ P.length ≤ EX.length := by
  refine ⟨by rw [h.eq]; simp, ?_, ?_⟩
  · rcases h.fr with ⟨e1, e2⟩ | e
    · rw [e2]; simp
    · rw [e]; simp
  · rcases h.ex with ⟨e1, e2⟩ | e | e
    · rw [e2]; simp
    · rw [e]; simp
    · rw [e]; simp
theorem NumP.not_e (h : NumP s sg W F FR P EX) (k : UInt8) (hk : Ca k = false) (h46 : k ≠ 46) : (W ++ FR).contains k = false := by
  rw [UC, PY hk h.Wd, Bool.false_or]
  rcases h.fr with ⟨e1, e2⟩ | e
  · rw [e1]; rfl
  · rw [e, List.contains_cons, PY hk h.Fd, Bool.or_false]
    simpa using h46
theorem AJU (h : NumP s sg W F FR P EX) (hn : Ci s = s.length) (hb : s.length ≤ 2 ^ 48) (hN : s.length + 30 < N) : BX N s = some (Iz sg (W ++ F) (JA (2 ^ 40) P - F.length)) := by
  obtain ⟨l1, l2, l3⟩ := h.len
  have hne : s ≠ [] := by
    rw [h.eq]
    have := h.Wn
    intro e
    have := List.append_eq_nil_iff.1 e
    have := List.append_eq_nil_iff.1 this.2
    exact h.Wn this.1
  have hpos : s.length ≠ 0 := fun e => hne (List.length_eq_zero_iff.1 e)
  unfold BX
  have hp := MW (N := N) (l := s) (t := s) (i := 0) (by simp) (by omega) (by omega)
  rw [if_neg (by rw [hn]; exact hpos)] at hp
  have hp' : BJ N (TokenReader.mk s 0) = some (s.take (Ci s), true, (⟨s, ((0 + Ci s : Nat) : Int)⟩ : TokenReader)) := hp
  rw [hp', Option.bind_some]
  refine (BS (a := false) fun k4 => ?_).trans ?_
  · rw [if_pos rfl, hn, List.take_of_length_le (Nat.le_refl _)]; simp
  try dsimp only
  rw [if_neg (by decide)]
  have hhead : ∀ k7 : List UInt8 × List UInt8 → Option (List UInt8 × Int), (Option.bind (idx s 0) fun x11 => if (AL x11 == 45) = true then Option.bind (sub s 1 (s.length : Int)) fun x12 => k7 ([45], x12) else k7 ([], s)) = k7 (sg, W ++ (FR ++ EX)) := by
    intro k7
    rcases h.sg with e | e
    · have hs : s = W ++ (FR ++ EX) := by rw [h.eq, e]; rfl
      cases hW : W with
      | nil => exact absurd hW h.Wn
      | cons c W' =>
        have hc : Ca c = true := by
          have := h.Wd
          rw [hW, List.all_cons, Bool.and_eq_true] at this
          exact this.1
        have hs2 : s = c :: (W' ++ (FR ++ EX)) := by rw [hs, hW]; rfl
        rw [hs2, show idx (c :: (W' ++ (FR ++ EX))) 0 = some c from rfl, Option.bind_some, AE2, MX]
        have := JN hc
        have : ¬ c.toNat = (45 : UInt8).toNat := by show ¬ c.toNat = 45; omega
        rw [if_neg (by simpa using this), e]; rfl
    · have hs2 : s = 45 :: (W ++ (FR ++ EX)) := by rw [h.eq, e]; rfl
      rw [hs2, show idx (45 :: (W ++ (FR ++ EX))) 0 = some 45 from rfl, Option.bind_some, if_pos (by rfl), I8, Option.bind_some, e]
  refine (BS (a := (sg, W ++ (FR ++ EX))) fun k8 => hhead k8).trans ?_
  try dsimp only
  rw [lower_eq _ (by simp; omega), Option.bind_some]
  have hWF : (W ++ FR).map Jn = W ++ FR := by
    rw [List.map_append, TQ h.Wd]
    rcases h.fr with ⟨e1, e2⟩ | e
    · rw [e1]; rfl
    · rw [e, List.map_cons, TQ h.Fd]; rfl
  have hlow : RX 101 ((W ++ (FR ++ EX)).map Jn) = (W ++ FR, P, (RX 101 ((W ++ (FR ++ EX)).map Jn)).2.2) := by
    rw [← List.append_assoc, List.map_append, hWF]
    have hc := h.not_e 101 (by decide) (by decide)
    rcases h.ex with ⟨e1, e2⟩ | e | e
    · rw [e1, e2, List.map_nil, List.append_nil, ABg hc]
    · rw [e, List.map_cons, ABo h.pw, show Jn 101 = 101 from rfl, T9 hc]
    · rw [e, List.map_cons, ABo h.pw, show Jn 69 = 101 from rfl, T9 hc]
  rw [AGs 101 _ (by simp; omega), Option.bind_some, hlow]
  try dsimp only
  have hcut2 : RX 46 (W ++ FR) = (W, F, (RX 46 (W ++ FR)).2.2) := by
    have hc := PY (k := 46) (by decide) h.Wd
    rcases h.fr with ⟨e1, e2⟩ | e
    · rw [e1, e2, List.append_nil, ABg hc]
    · rw [e, T9 hc]
  rw [AGs 46 _ (by simp; omega), Option.bind_some, hcut2]
  try dsimp only
  rw [AO (by unfold Ab; omega), AFG 48 (W ++ F) (by decide) (by simp; omega), Option.bind_some]
  have hml := (List.dropWhile_sublist (fun x : UInt8 => x == 48) (l := W ++ F)).length_le
  rw [List.length_append] at hml
  have htl := Ps (fun x : UInt8 => x == 48) ((W ++ F).dropWhile (fun x : UInt8 => x == 48))
  rw [AGb 48 _ (by decide) (by omega) (by omega), Option.bind_some]
  unfold Iz
  dsimp only
  generalize hm1 : (W ++ F).dropWhile (fun x : UInt8 => x == 48) = m1 at *
  generalize hsh : G9 (fun x : UInt8 => x == 48) m1 = sh at *
  try dsimp only
  by_cases hz : sh = []
  · rw [if_pos (by simpa using hz), if_pos hz]
  rw [if_neg (by simpa using hz), if_neg hz, AI3 h.pw (by omega) (by omega), Option.bind_some]
  have hev : -(2 ^ 40 : Int) ≤ JA (2 ^ 40) P ∧ JA (2 ^ 40) P ≤ (2 ^ 40 : Int) := by
    unfold JA
    have : min (GX 0 (P.dropWhile ([43, 45] : List UInt8).contains)) (2 ^ 40) ≤ 2 ^ 40 := Nat.min_le_right _ _
    split <;> omega
  generalize JA (2 ^ 40) P = x at *
  have hw : wr .i64 (wr .i64 (wr .i64 (x - (F.length : Int)) + (m1.length : Int)) - (sh.length : Int)) = x - (F.length : Int) + (m1.length : Int) - (sh.length : Int) := by
    rw [Ar (n := x - (F.length : Int)) (by omega), Ar (n := x - (F.length : Int) + (m1.length : Int)) (by omega), Ar (by omega)]
  rw [hw]
  generalize hy : x - (F.length : Int) + (m1.length : Int) - (sh.length : Int) = y at *
  have hsg : sg.length ≤ 1 := by rcases h.sg with e | e <;> rw [e] <;> simp
  refine (BS (a := decide (sh.length > 40 ∨ y < -400 ∨ y > 400)) fun k26 => ?_).trans ?_
  · by_cases c1 : (sh.length : Int) > 40
    · rw [if_pos (decide_eq_true c1), decide_eq_true (.inl (by omega))]
    · rw [if_neg (by simpa using c1)]
      by_cases c2 : y < -400
      · rw [if_pos (decide_eq_true c2), decide_eq_true (.inr (.inl c2))]
      · rw [if_neg (by simpa using c2)]
        congr 1
        simp only [eq_iff_iff, decide_eq_decide]; omega
  try dsimp only
  by_cases hc : sh.length > 40 ∨ y < -400 ∨ y > 400
  · rw [if_pos (decide_eq_true hc), if_pos hc]
  rw [if_neg (by simpa using hc), if_neg hc]
  have hc' : ¬ (sh.length > 40) ∧ ¬ y < -400 ∧ ¬ y > 400 := ⟨fun h => hc (.inl h), fun h => hc (.inr (.inl h)), fun h => hc (.inr (.inr h))⟩
  have hf := XA
  unfold AKL
  by_cases c1 : y < 0
  · rw [if_pos (decide_eq_true c1), if_pos c1, AO (by unfold Ab; omega), AO (by unfold Ab; simp; omega), Ar (by omega), Ph (by omega) (by omega), Qu _ (by omega) (by omega), Option.bind_some]
    have := hf (0 - y).toNat
    have := hf (-y).toNat
    rw [AO (by unfold Ab; simp; omega), show (0 - y).toNat = (-y).toNat by omega]
    simp
  · rw [if_neg (by simpa using c1), if_neg c1]
    by_cases c2 : y > 0
    · have := hf y.toNat
      rw [if_pos (decide_eq_true c2), if_pos c2, AO (by unfold Ab; omega), AO (by unfold Ab; simp; omega), Ph (by omega) (by omega), Qu _ (by omega) (by omega), Option.bind_some, AO (by unfold Ab; simp; omega)]
      simp
    · rw [if_neg (by simpa using c2), if_neg c2, AO (by unfold Ab; omega)]
      simp
end
end
end Go.VM
namespace Go.VM
section
variable {N : Nat}
theorem ABd (k29 : List UInt8 → Option (List UInt8 × Int)) : ∀ (l : List UInt8) (k : Nat), l.length < k → DK N k29 k l = k29 (l.dropWhile (· == 48))
  | [], k + 1, _ => by rw [DK, AP]; rfl
  | x :: l, k + 1, h => by
    simp only [List.length_cons] at h
    rw [DK, AP, if_pos (by simp <;> omega), show idx (x :: l) 0 = some x from rfl, Option.bind_some, List.dropWhile_cons]
    try dsimp only
    rw [show (AL x == 48) = (x == 48) from Mv x 48]
    cases x == 48
    · rfl
    · rw [if_pos rfl, I8, Option.bind_some, ABd k29 l k (by omega)]; rfl
theorem ABi (k40 : Int × List UInt8 → Option (List UInt8 × Int)) : ∀ (n : Nat) (l : List UInt8) (x : Int), l.length = n → n ≤ 2 ^ 50 → (∃ c r, l = c :: r ∧ (c == 48) = false) → -(2 ^ 60) ≤ x → x + n ≤ 2 ^ 60 → ∀ k : Nat, n < k → Dn N k40 k x l = k40 (x + l.length - (G9 (· == 48) l).length, G9 (· == 48) l)
  | 0, l, x, hl, hb, ⟨c, r, e, hc⟩, h1, h3, k, hk => by rw [e] at hl; simp at hl
  | n + 1, l, x, hl, hb, hh, h1, h3, 0, hk => by omega
  | n + 1, l, x, hl, hb, hh, h1, h3, k + 1, hk => by
    obtain ⟨l', y, rfl⟩ : ∃ l' y, l = l' ++ [y] := by
      have hne : l ≠ [] := fun e => by subst e; simp at hl
      exact ⟨l.dropLast, l.getLast hne, (List.dropLast_concat_getLast hne).symm⟩
    have hl' : l'.length = n := by simpa using hl
    rw [Dn, XD l' y (by omega), Option.bind_some, Lv, show (AL y == 48) = (y == 48) from Mv y 48]
    by_cases hy : (y == 48) = true
    · rw [if_pos hy, if_pos hy, XJ l' y (by omega), Option.bind_some, Ar (by omega)]
      have hh' : ∃ c r, l' = c :: r ∧ (c == 48) = false := by
        obtain ⟨c, r, e, hc⟩ := hh
        cases l' with
        | nil =>
          simp only [List.nil_append, List.cons.injEq] at e
          rw [e.1, hc] at hy; cases hy
        | cons a l' =>
          simp only [List.cons_append, List.cons.injEq] at e
          exact ⟨a, l', rfl, by rw [e.1]; exact hc⟩
      rw [ABi k40 n l' (x + 1) hl' (by omega) hh' (by omega) (by omega) k (by omega)]
      congr 2
      simp only [List.length_append, List.length_cons, List.length_nil]; omega
    · rw [if_neg hy, if_neg hy]
      congr 2; omega
theorem Ol (set : List UInt8) (hs : set.length ≤ 1000) (k2 : Unit → Option Int) (n : Int) (h : k2 () = some n) : ∀ (l : List UInt8) (i : Nat), ((i + l.length : Nat) : Int) = n → Cg N set k2 l (i : Int) = some ((i + (l.takeWhile fun c => !set.contains c).length : Nat) : Int)
  | [], i, hn => by rw [Cg, h, ← hn]; simp
  | c :: l, i, hn => by
    rw [Cg, Ub _ _ hs, Option.bind_some, List.takeWhile_cons]
    cases hc : set.contains c
    · simp only [List.length_cons] at hn
      rw [if_neg (by decide), show (i : Int) + 1 = ((i + 1 : Nat) : Int) by simp, Ol set hs k2 n h l (i + 1) (by rw [← hn]; congr 1; omega)]
      simp only [Bool.not_false, if_true, List.length_cons]; congr 2; omega
    · simp
theorem Sq (l set : List UInt8) (hs : set.length ≤ 1000) (hb : l.length ≤ 2 ^ 60) : GU N l set = some (((l.takeWhile fun c => !set.contains c).length : Nat) : Int) := by
  unfold GU
  rw [AP, AO (by unfold Ab; omega), show (0 : Int) = ((0 : Nat) : Int) from rfl, Ol set hs _ _ rfl l 0 (by simp)]
  simp
theorem OA {p : UInt8 → Bool} : ∀ {a b : List UInt8}, (∀ c ∈ a, p c = true) → (b = [] ∨ ∃ c r, b = c :: r ∧ p c = false) → (a ++ b).takeWhile p = a
  | [], b, _, hb => by
    rcases hb with rfl | ⟨c, r, rfl, hc⟩
    · rfl
    · rw [List.nil_append, List.takeWhile_cons, hc]; rfl
  | x :: a, b, ha, hb => by
    rw [List.cons_append, List.takeWhile_cons, ha x (by simp), if_pos rfl, OA (fun c hc => ha c (by simp [hc])) hb]
section
variable {s sg W F FR P EX : List UInt8}
theorem VN {l : List UInt8} (h : l.all Ca = true) : ∀ c ∈ l, Ca c = true := by simpa using h
theorem ABb {c : UInt8} (h : Ca c = true) : ([101, 69] : List UInt8).contains c = false := by
  have := Co (f := fun n => if (decide (48 ≤ n) && decide (n ≤ 57)) = true then ([101, 69] : List UInt8).contains (UInt8.ofNat n) else false) (g := fun _ => false) (by kernel_rfl) c
  simp only [UInt8.ofNat_toNat, show (decide (48 ≤ c.toNat) && decide (c.toNat ≤ 57)) = true from h, if_true] at this
  exact this
theorem AJK {c : UInt8} (h : Ca c = true) : ([46] : List UInt8).contains c = false := by
  rw [MX]
  have := JN h
  have : ¬ c.toNat = (46 : UInt8).toNat := by show ¬ c.toNat = 46; omega
  simpa using this
theorem AIP (h : NumP s sg W F FR P EX) (hn : Ci s = s.length) (hb : s.length ≤ 2 ^ 48) (hN : s.length + 30 < N) : Dz N s = some (Iz sg (W ++ F) (JA (2 ^ 30) P - F.length)) := by
  obtain ⟨l1, l2, l3⟩ := h.len
  have hne : s ≠ [] := by
    rw [h.eq]
    intro e
    have := List.append_eq_nil_iff.1 e
    have := List.append_eq_nil_iff.1 this.2
    exact h.Wn this.1
  unfold Dz
  refine (BS (a := false) fun k2 => ?_).trans ?_
  · rw [if_neg (by simpa using hne), OZ s (by omega) (by omega), Option.bind_some, hn]; simp
  try dsimp only
  rw [if_neg (by decide)]
  have hhead : ∀ k8 : List UInt8 × List UInt8 → Option (List UInt8 × Int), (Option.bind (idx s 0) fun x11 => if (AL x11 == 45) = true then Option.bind (sub s 1 (s.length : Int)) fun x12 => k8 (x12, [45]) else k8 (s, [])) = k8 (W ++ (FR ++ EX), sg) := by
    intro k7
    rcases h.sg with e | e
    · have hs : s = W ++ (FR ++ EX) := by rw [h.eq, e]; rfl
      cases hW : W with
      | nil => exact absurd hW h.Wn
      | cons c W' =>
        have hc : Ca c = true := by
          have := h.Wd
          rw [hW, List.all_cons, Bool.and_eq_true] at this
          exact this.1
        have hs2 : s = c :: (W' ++ (FR ++ EX)) := by rw [hs, hW]; rfl
        rw [hs2, show idx (c :: (W' ++ (FR ++ EX))) 0 = some c from rfl, Option.bind_some, AE2, MX]
        have := JN hc
        have : ¬ c.toNat = (45 : UInt8).toNat := by show ¬ c.toNat = 45; omega
        rw [if_neg (by simpa using this), e]; rfl
    · have hs2 : s = 45 :: (W ++ (FR ++ EX)) := by rw [h.eq, e]; rfl
      rw [hs2, show idx (45 :: (W ++ (FR ++ EX))) 0 = some 45 from rfl, Option.bind_some, if_pos (by rfl), I8, Option.bind_some, e]
  refine (BS (a := (W ++ (FR ++ EX), sg)) fun k8 => hhead k8).trans ?_
  try dsimp only
  have hWF : (W ++ (FR ++ EX)).takeWhile (fun c => !([101, 69] : List UInt8).contains c) = W ++ FR := by
    rw [← List.append_assoc]
    refine OA (fun c hc => ?_) ?_
    · rcases List.mem_append.1 hc with hc | hc
      · rw [ABb (VN h.Wd c hc)]; rfl
      · rcases h.fr with ⟨e1, e2⟩ | e
        · rw [e1] at hc; cases hc
        · rw [e] at hc
          rcases List.mem_cons.1 hc with rfl | hc
          · rfl
          · rw [ABb (VN h.Fd c hc)]; rfl
    · rcases h.ex with ⟨e1, e2⟩ | e | e
      · exact .inl e1
      · exact .inr ⟨_, _, e, rfl⟩
      · exact .inr ⟨_, _, e, rfl⟩
  have hlen : (W ++ (FR ++ EX)).length = (W ++ FR).length + EX.length := by simp only [List.length_append]; omega
  rw [Sq _ _ (by decide) (by simp; omega), Option.bind_some, hWF, Ar (by simp; omega), show (((W ++ FR).length : Nat) : Int) + 1 = (((W ++ FR).length + 1 : Nat) : Int) by simp, QS, Option.bind_some]
  have hP : (W ++ (FR ++ EX)).drop ((W ++ FR).length + 1) = P := by
    rw [← List.append_assoc, List.drop_append, List.drop_of_length_le (by omega), List.nil_append, Nat.add_sub_cancel_left]
    rcases h.ex with ⟨e1, e2⟩ | e | e
    · rw [e1, e2]; rfl
    · rw [e]; rfl
    · rw [e]; rfl
  rw [hP, AH4 h.pw (by omega), Option.bind_some]
  have hsub : sub (W ++ (FR ++ EX)) 0 (((W ++ FR).length : Nat) : Int) = some (W ++ FR) := by
    rw [show (0 : Int) = ((0 : Nat) : Int) from rfl, Dj _ 0 _ (by omega) (by omega), ← List.append_assoc]
    simp only [List.drop_zero, Nat.sub_zero, List.take_left]
  rw [hsub, Option.bind_some]
  have hev : -(2 ^ 30 : Int) ≤ JA (2 ^ 30) P ∧ JA (2 ^ 30) P ≤ (2 ^ 30 : Int) := by
    unfold JA
    have : min (GX 0 (P.dropWhile ([43, 45] : List UInt8).contains)) (2 ^ 30) ≤ 2 ^ 30 := Nat.min_le_right _ _
    split <;> omega
  generalize JA (2 ^ 30) P = x at *
  have hdot : (W ++ FR).takeWhile (fun c => !([46] : List UInt8).contains c) = W := by
    refine OA (fun c hc => ?_) ?_
    · rw [AJK (VN h.Wd c hc)]; rfl
    · rcases h.fr with ⟨e1, e2⟩ | e
      · exact .inl e1
      · exact .inr ⟨_, _, e, rfl⟩
  refine (BS (a := (x - (F.length : Int), W ++ F)) fun k21 => ?_).trans ?_
  · rw [Sq _ _ (by decide) (by simp; omega), Option.bind_some, hdot]
    rcases h.fr with ⟨e1, e2⟩ | e
    · rw [e1, e2, List.append_nil, if_neg (by simp)]; simp
    · have hfl : FR.length = F.length + 1 := by rw [e]; simp
      have w1 : wr .i64 ((W.length : Int) + 1) = ((W.length + 1 : Nat) : Int) := by rw [Ar (by omega)]; simp
      have s1 : sub (W ++ FR) 0 (W.length : Int) = some W := by
        rw [show (0 : Int) = ((0 : Nat) : Int) from rfl, Dj _ 0 _ (by omega) (by simp)]; simp only [List.drop_zero, Nat.sub_zero, List.take_left]
      have s2 : sub (W ++ FR) ((W.length + 1 : Nat) : Int) (((W ++ FR).length : Nat) : Int) = some F := by
        rw [Dj _ _ _ (by simp; omega) (Nat.le_refl _), List.take_of_length_le (by simp <;> omega), List.drop_append, List.drop_of_length_le (by omega), List.nil_append, Nat.add_sub_cancel_left, e]; rfl
      rw [if_pos (by simp; omega), s1, Option.bind_some, w1, s2, Option.bind_some, AO (by unfold Ab; omega)]
      have w2 : wr .i64 (x - wr .i64 (wr .i64 ((((W ++ FR).length : Nat) : Int) - (W.length : Int)) - 1)) = x - (F.length : Int) := by
        rw [List.length_append, Ar (n := ((W.length + FR.length : Nat) : Int) - (W.length : Int)) (by omega), Ar (n := ((W.length + FR.length : Nat) : Int) - (W.length : Int) - 1) (by omega), Ar (by omega)]
        omega
      rw [w2]
  try dsimp only
  have hml := (List.dropWhile_sublist (fun x : UInt8 => x == 48) (l := W ++ F)).length_le
  rw [List.length_append] at hml
  refine (BS (a := (W ++ F).dropWhile (· == 48)) fun k29 => ABd k29 (W ++ F) N (by simp; omega)).trans ?_
  try dsimp only
  have hhd : (W ++ F).dropWhile (fun x : UInt8 => x == 48) = [] ∨ ∃ c r, (W ++ F).dropWhile (fun x : UInt8 => x == 48) = c :: r ∧ (c == 48) = false := by
    generalize W ++ F = l
    induction l with
    | nil => exact .inl rfl
    | cons c l ih =>
      rw [List.dropWhile_cons]
      cases hc : (c == 48)
      · exact .inr ⟨c, l, rfl, hc⟩
      · exact ih
  have htl := Ps (fun x : UInt8 => x == 48) ((W ++ F).dropWhile (fun x : UInt8 => x == 48))
  unfold Iz
  dsimp only
  generalize hm1 : (W ++ F).dropWhile (fun x : UInt8 => x == 48) = m1 at *
  by_cases hz : m1 = []
  · subst hz; rfl
  have hhd' : ∃ c r, m1 = c :: r ∧ (c == 48) = false := by
    rcases hhd with e | e
    · exact absurd e hz
    · exact e
  have hsz : G9 (fun x : UInt8 => x == 48) m1 ≠ [] := by
    obtain ⟨c, r, rfl, hc⟩ := hhd'
    have key : ∀ (n : Nat) (r : List UInt8), r.length = n → G9 (fun x : UInt8 => x == 48) (c :: r) ≠ [] := by
      intro n
      induction n with
      | zero =>
        intro r hr
        have : r = [] := List.length_eq_zero_iff.1 hr
        subst this
        unfold G9; simp [hc]
      | succ n ih =>
        intro r hr
        obtain ⟨r', y, rfl⟩ : ∃ l' y, r = l' ++ [y] := by
          have hne : r ≠ [] := fun e => by subst e; simp at hr
          exact ⟨r.dropLast, r.getLast hne, (List.dropLast_concat_getLast hne).symm⟩
        rw [← List.cons_append, Lv]
        split
        · exact ih r' (by simpa using hr)
        · simp
    exact key _ r rfl
  rw [if_neg (by simpa using hz), if_neg hsz]
  refine (BS (a := (x - (F.length : Int) + (m1.length : Int) - ((G9 (fun x : UInt8 => x == 48) m1).length : Int), G9 (fun x : UInt8 => x == 48) m1)) fun k40 => ABi k40 m1.length m1 _ rfl (by omega) hhd' (by omega) (by omega) N (by omega)).trans ?_
  try dsimp only
  generalize hsh : G9 (fun x : UInt8 => x == 48) m1 = sh at *
  generalize hy : x - (F.length : Int) + (m1.length : Int) - (sh.length : Int) = y at *
  have hsg : sg.length ≤ 1 := by rcases h.sg with e | e <;> rw [e] <;> simp
  refine (BS (a := decide (sh.length > 40 ∨ y < -400 ∨ y > 400)) fun k26 => ?_).trans ?_
  · by_cases c1 : (sh.length : Int) > 40
    · rw [if_pos (decide_eq_true c1), decide_eq_true (.inl (by omega))]
    · rw [if_neg (by simpa using c1)]
      by_cases c2 : y > 400
      · rw [if_pos (decide_eq_true c2), decide_eq_true (.inr (.inr c2))]
      · rw [if_neg (by simpa using c2)]
        congr 1
        simp only [eq_iff_iff, decide_eq_decide]; omega
  try dsimp only
  by_cases hc : sh.length > 40 ∨ y < -400 ∨ y > 400
  · rw [if_pos (decide_eq_true hc), if_pos hc]
  rw [if_neg (by simpa using hc), if_neg hc]
  have hc' : ¬ (sh.length > 40) ∧ ¬ y < -400 ∧ ¬ y > 400 := ⟨fun h => hc (.inl h), fun h => hc (.inr (.inl h)), fun h => hc (.inr (.inr h))⟩
  have hf := XA
  unfold AKL
  by_cases c1 : y < 0
  · rw [if_pos (decide_eq_true c1), if_pos c1, AO (by unfold Ab; omega), AO (by unfold Ab; simp; omega), Ar (by omega), Ph (by omega) (by omega), RH _ (by omega) (by omega), Option.bind_some]
    have := hf (0 - y).toNat
    have := hf (-y).toNat
    rw [AO (by unfold Ab; simp; omega), show (0 - y).toNat = (-y).toNat by omega]
    simp
  · rw [if_neg (by simpa using c1), if_neg c1]
    by_cases c2 : y > 0
    · have := hf y.toNat
      rw [if_pos (decide_eq_true c2), if_pos c2, AO (by unfold Ab; omega), AO (by unfold Ab; simp; omega), Ph (by omega) (by omega), RH _ (by omega) (by omega), Option.bind_some, AO (by unfold Ab; simp; omega)]
      simp
    · rw [if_neg (by simpa using c2), if_neg c2, AO (by unfold Ab; omega)]
      simp
end
theorem AE0 (s : List UInt8) (hn : s = [] ∨ Ci s ≠ s.length) (hb : s.length ≤ 2 ^ 48) : BX N s = some ([], 130) := by
  unfold BX
  have hp := MW (N := N) (l := s) (t := s) (i := 0) (by simp) (by omega) (by omega)
  by_cases hz : Ci s = 0
  · rw [if_pos hz] at hp
    obtain ⟨q, hq⟩ := hp
    have hq' : BJ N (TokenReader.mk s 0) = some ([], false, q) := hq
    rw [hq', Option.bind_some]; rfl
  · rw [if_neg hz] at hp
    have hp' : BJ N (TokenReader.mk s 0) = some (s.take (Ci s), true, (⟨s, ((0 + Ci s : Nat) : Int)⟩ : TokenReader)) := hp
    rw [hp', Option.bind_some]
    refine (BS (a := true) fun k4 => ?_).trans rfl
    have hle := AB1 s
    have hne : Ci s ≠ s.length := by
      rcases hn with rfl | h
      · exact absurd rfl hz
      · exact h
    rw [if_pos rfl, List.length_take, Nat.min_eq_left hle]
    congr 1
    simp only [bne_iff_ne, ne_eq]; omega
theorem AGK (s : List UInt8) (hn : s = [] ∨ Ci s ≠ s.length) (hb : s.length ≤ 2 ^ 48) (hN : s.length + 30 < N) : Dz N s = some ([], 130) := by
  unfold Dz
  refine (BS (a := true) fun k2 => ?_).trans rfl
  by_cases h : s = []
  · subst h; rfl
  · have hne : Ci s ≠ s.length := by
      rcases hn with e | e
      · exact absurd e h
      · exact e
    rw [if_neg (by simpa using h), OZ s (by omega) (by omega), Option.bind_some]
    congr 1
    simp only [bne_iff_ne, ne_eq]; omega
end
end Go.VM
namespace Go.VM
theorem Qj {p : UInt8 → Bool} (l : List UInt8) : (l.dropWhile p).length ≤ l.length := (List.dropWhile_sublist p (l := l)).length_le
theorem Yb {sg m : List UInt8} {x y : Int} (hm : m.length ≤ 2000000) (h : x = y ∨ (100000000 ≤ x ∧ 100000000 ≤ y) ∨ (x ≤ -100000000 ∧ y ≤ -100000000)) : Iz sg m x = Iz sg m y := by
  unfold Iz
  dsimp only
  have h1 := Qj (p := fun x : UInt8 => x == 48) m
  have h2 := Ps (fun x : UInt8 => x == 48) (m.dropWhile (fun x : UInt8 => x == 48))
  generalize m.dropWhile (fun x : UInt8 => x == 48) = m1 at *
  generalize G9 (fun x : UInt8 => x == 48) m1 = sh at *
  by_cases hz : sh = []
  · rw [if_pos hz, if_pos hz]
  · rw [if_neg hz, if_neg hz]
    rcases h with rfl | ⟨ha, hb⟩ | ⟨ha, hb⟩
    · rfl
    · rw [if_pos (.inr (.inr (by omega))), if_pos (.inr (.inr (by omega)))]
    · rw [if_pos (.inr (.inl (by omega))), if_pos (.inr (.inl (by omega)))]
theorem ACt (P : List UInt8) (f : Nat) (hf : f ≤ 2000000) : JA (2 ^ 40) P - f = JA (2 ^ 30) P - f ∨ (100000000 ≤ JA (2 ^ 40) P - f ∧ 100000000 ≤ JA (2 ^ 30) P - f) ∨ (JA (2 ^ 40) P - f ≤ -100000000 ∧ JA (2 ^ 30) P - f ≤ -100000000) := by
  unfold JA
  generalize GX 0 (P.dropWhile ([43, 45] : List UInt8).contains) = v
  by_cases h : v ≤ 2 ^ 30
  · rw [Nat.min_eq_left (show v ≤ 2 ^ 40 by omega), Nat.min_eq_left h]; exact .inl rfl
  · rw [Nat.min_eq_right (show 2 ^ 30 ≤ v by omega)]
    have h2 : 2 ^ 30 ≤ min v (2 ^ 40) := Nat.le_min.2 ⟨by omega, by decide⟩
    split
    · exact .inr (.inr ⟨by omega, by omega⟩)
    · exact .inr (.inl ⟨by omega, by omega⟩)
theorem Zn (sg m : List UInt8) (x : Int) : (Iz sg m x).2 = 0 ∨ Iz sg m x = ([], 144) := by
  unfold Iz
  dsimp only
  split
  · exact .inl rfl
  · split
    · exact .inr rfl
    · exact .inl rfl
def N7 (N : Nat) (s : List UInt8) : List UInt8 × Int := (BX N s).getD ([], 144)
theorem X9 {N : Nat} {s : List UInt8} (h0 : s ≠ []) (hn : Ci s = s.length) (hb : s.length ≤ 2000000) (hN : s.length + 30 < N) :
    BX N s = some (N7 N s) ∧ Dz N s = some (N7 N s) ∧ ((N7 N s).2 = 0 ∨ N7 N s = ([], 144)) := by
  obtain ⟨sg, W, F, FR, P, EX, h⟩ := OE h0 hn
  obtain ⟨l1, l2, l3⟩ := h.len
  have e1 := AJU (N := N) h hn (by omega) hN
  have e2 := AIP (N := N) h hn (by omega) hN
  have e3 : N7 N s = Iz sg (W ++ F) (JA (2 ^ 40) P - F.length) := by unfold N7; rw [e1]; rfl
  refine ⟨by rw [e3]; exact e1, ?_, by rw [e3]; exact Zn _ _ _⟩
  rw [e2, e3, Yb (by rw [List.length_append]; omega) (ACt P F.length (by omega))]
inductive TK (n : Nat) : ApiToken → Prop
  | fin (p : Int) : TK n (ApiToken.mk 1 [] p)
  | pun (c : UInt8) (p : Int) (h : Jg.contains c = true) : TK n (ApiToken.mk 2 [c] p)
  | txt (s : List UInt8) (p : Int) (h : s.length ≤ n) : TK n (ApiToken.mk 3 s p)
  | num (s : List UInt8) (p : Int) (h0 : s ≠ []) (h : Ci s = s.length) (hl : s.length ≤ n) : TK n (ApiToken.mk 4 s p)
  | wrd (s : List UInt8) (p : Int) (h : isWord s = true) : TK n (ApiToken.mk 5 s p)
end Go.VM
namespace Go.VM
mutual
def Gx : ApiValue → Nat
  | ⟨kind, _, _, items⟩ => (if kind == 6 || kind == 7 then 1 else 0) + ED items
def ED : List ApiValue → Nat
  | [] => 0
  | x :: xs => max (Gx x) (ED xs)
end
theorem Jm (v : ApiValue) : Gx v = (if v.kind == 6 || v.kind == 7 then 1 else 0) + ED v.items := by cases v; rw [Gx]
theorem Mh (v : ApiValue) : 0 < EA v := by rw [Gu]; omega
section
variable {N : Nat}
theorem RL (inner : Nat) (rc : ApiValue → Int → Option Int) : ∀ (xs : List ApiValue) (n : Nat), n + Bf xs ≤ 20000 → (∀ x, x ∈ xs → rc x (inner : Int) = some (if inner + Gx x ≤ 64 then (EA x : Int) else 0)) →
    inner ≤ 64 → CF N rc (inner : Int) (fun j => some j) xs (n : Int) = some (if inner + ED xs ≤ 64 then ((n + Bf xs : Nat) : Int) else 0)
  | [], n, _, _, hi => by rw [CF, ED, Bf, if_pos (by omega)]; rfl
  | x :: xs, n, hn, hr, hi => by
    rw [Bf] at hn
    have hp := Mh x
    rw [CF, hr x (by simp), Option.bind_some, ED, Bf]
    by_cases h : inner + Gx x ≤ 64
    · have e0 : ((EA x : Int) == 0) = false := by simp; omega
      rw [if_pos h, e0, if_neg (by decide), Ar (by omega), if_neg (by simp; omega), show (n : Int) + (EA x : Int) = ((n + EA x : Nat) : Int) by simp]
      rw [RL inner rc xs (n + EA x) (by omega) (fun y hy => hr y (by simp [hy])) hi]
      by_cases h2 : inner + ED xs ≤ 64
      · rw [if_pos h2, if_pos (by omega)]; congr 2; omega
      · rw [if_neg h2, if_neg (by omega)]
    · rw [if_neg h, if_pos (by decide), if_neg (by omega)]
theorem PU {x : ApiValue} : ∀ {xs : List ApiValue}, x ∈ xs → EA x ≤ Bf xs
  | y :: xs, h => by
    rw [Bf]
    rcases List.mem_cons.1 h with rfl | h
    · omega
    · have := PU h; omega
theorem V9 : ∀ (D e d : Nat) (v : ApiValue), okW e v → e ≤ D → d ≤ 64 → EA v ≤ 20000 → Cq N D v (d : Int) = some (if d + Gx v ≤ 64 then (EA v : Int) else 0)
  | 0, e, d, v, h, he, _, _ => by have := h.pos; omega
  | D + 1, e, d, v, h, he, hd, hc => by
    obtain ⟨e, rfl⟩ : ∃ k, e = k + 1 := ⟨e - 1, by have := h.pos; omega⟩
    have hi := h.items
    rw [Gu] at hc
    have main : ∀ inner : Nat, inner ≤ 65 → (if decide ((inner : Int) > 64) = true then some (0 : Int) else AR (fun j9 : Int => some j9) fun k10 => grd (Ab v.items.length) (CF N (Cq N D) (inner : Int) k10 v.items 1)) = some (if inner + ED v.items ≤ 64 then (EA v : Int) else 0) := by
      intro inner hin
      by_cases h64 : inner > 64
      · rw [if_pos (by simp; omega), if_neg (by omega)]
      · rw [if_neg (by simp; omega), AP, Ip (by omega), show (1 : Int) = ((1 : Nat) : Int) from rfl]
        rw [RL inner (Cq N D) v.items 1 (by omega) (fun x hx => V9 D e inner x (h.sub x hx) (by omega) (by omega) (by have := PU hx; omega)) (by omega), Gu]
    rw [Cq, Jm]
    simp only [AP]
    cases h6 : v.kind == 6
    · cases h7 : v.kind == 7
      · simp only [Bool.false_eq_true, if_false, Bool.or_false, Nat.zero_add]
        exact main d (by omega)
      · simp only [Bool.false_eq_true, if_false, if_true, Bool.or_true]
        rw [Ar (by omega), show (d : Int) + 1 = ((d + 1 : Nat) : Int) by simp]
        have := main (d + 1) (by omega)
        simpa [Nat.add_assoc, AP] using this
    · simp only [if_true, Bool.true_or]
      rw [Ar (by omega), show (d : Int) + 1 = ((d + 1 : Nat) : Int) by simp]
      have := main (d + 1) (by omega)
      simpa [Nat.add_assoc, AP] using this
def TP (N : Nat) (s : List UInt8) : List UInt8 × Int := if s ≠ [] ∧ Ci s = s.length then N7 N s else ([], 130)
theorem AI4 (s : List UInt8) (hb : s.length ≤ 2000000) (hN : s.length + 30 < N) : Dz N s = some (TP N s) ∧ BX N s = some (TP N s) := by
  unfold TP
  by_cases h : s ≠ [] ∧ Ci s = s.length
  · rw [if_pos h]
    obtain ⟨h1, h2, _⟩ := X9 h.1 h.2 hb hN
    exact ⟨h2, h1⟩
  · rw [if_neg h]
    have hb' : s = [] ∨ Ci s ≠ s.length := by
      by_cases h1 : s = []
      · exact .inl h1
      · exact .inr fun h2 => h ⟨h1, h2⟩
    exact ⟨AGK s hb' (by omega) hN, AE0 s hb' (by omega)⟩
def Si (N : Nat) (s : List UInt8) : Bool := (TP N s).2 == 0 && (TP N s).1 == s
mutual
def E5 (N : Nat) : ApiValue → Bool
  | ⟨kind, text, keys, items⟩ =>
    if kind == 1 || kind == 2 || kind == 3 then text == [] && keys.isEmpty && items.isEmpty
    else if kind == 4 then Si N text && keys.isEmpty && items.isEmpty
    else if kind == 5 then (Dh N text).isSome && keys.isEmpty && items.isEmpty
    else if kind == 6 then text == [] && keys.isEmpty && KV N items
    else if kind == 7 then text == [] && decide (keys.length = items.length) && Jf N keys && KV N items
    else false
def KV (N : Nat) : List ApiValue → Bool
  | [] => true
  | x :: xs => E5 N x && KV N xs
end
theorem QY (rc : ApiValue → Option Bool) (k24 : Unit → Option Bool) (hk : k24 () = some true) : ∀ (xs : List ApiValue), (∀ x, x ∈ xs → rc x = some (E5 N x)) → CO N rc k24 xs = some (KV N xs)
  | [], _ => by rw [CO, KV, hk]
  | x :: xs, h => by
    rw [CO, h x (by simp), Option.bind_some, KV, QY rc k24 hk xs fun y hy => h y (by simp [hy])]
    cases E5 N x <;> simp
theorem SF {α : Type} (l : List α) : (((l.length : Nat) : Int) == 0) = l.isEmpty := by cases l <;> simp; omega
theorem Yz (hN : 2000 ≤ N) : ∀ (D e : Nat) (v : ApiValue), okW e v → e ≤ D → DJ N D v = some (E5 N v)
  | 0, e, v, h, he => by have := h.pos; omega
  | D + 1, e, v, h, he => by
    obtain ⟨e, rfl⟩ : ∃ k, e = k + 1 := ⟨e - 1, by have := h.pos; omega⟩
    have hi := h.items; have ht := h.text; have hk := h.keys; have hkl := h.klen
    have hs := h.sub
    have loop : ∀ k24 : Unit → Option Bool, k24 () = some true → CO N (DJ N D) k24 v.items = some (KV N v.items) := fun k24 h24 => QY _ k24 h24 v.items fun x hx => Yz hN D e x (hs x hx) (by omega)
    have hdiff := UT (N := N) v.keys (by omega) (by omega) fun k hk => ⟨by have := hkl k hk; omega, by have := hkl k hk; omega⟩
    have hnum := (AI4 (N := N) v.text (by omega) (by omega)).1
    have hval := OI (N := N) (l := v.text) (by omega) (by omega)
    rw [DJ]
    obtain ⟨kind, text, keys, items⟩ := v
    simp only at *
    rw [E5]
    simp only [AP, SF, hdiff, hnum, hval, Option.bind_some]
    rw [Ip (by omega), loop _ rfl]
    have elen : (((keys.length : Nat) : Int) != ((items.length : Nat) : Int)) = !decide (keys.length = items.length) := by
      by_cases h : keys.length = items.length
      · simp [h]
      · have : ¬ ((keys.length : Int) = (items.length : Int)) := by omega
        simp [h, this, bne]
    have elen0 : (((keys.length : Nat) : Int) != 0) = !keys.isEmpty := by rw [bne, SF]
    rw [elen, elen0]
    unfold Si
    cases h1 : kind == 1 <;> cases h2 : kind == 2 <;> cases h3 : kind == 3 <;> simp only [Bool.false_eq_true, if_false, if_true, Bool.or_false, Bool.or_true, Bool.true_or, Bool.false_or, Bool.or_self]
    all_goals first
      | (cases text == [] <;> cases keys.isEmpty <;> rfl)
      | skip
    cases h4 : kind == 4 <;> cases h5 : kind == 5 <;> cases h6 : kind == 6 <;> cases h7 : kind == 7 <;> simp only [Bool.false_eq_true, if_false, if_true]
    all_goals first
      | rfl
      | (cases (TP N text).2 == 0 <;> cases (TP N text).1 == text <;> cases keys.isEmpty <;> rfl)
      | (cases (Dh N text).isSome <;> cases keys.isEmpty <;> rfl)
      | (cases text == [] <;> cases keys.isEmpty <;> rfl)
      | (cases text == [] <;> cases decide (keys.length = items.length) <;> cases Jf N keys <;> rfl)
theorem AFa (hN : 2000 ≤ N) {v : ApiValue} (h : okW 70 v) (hc : EA v ≤ 20000) : H6 N v = some (decide (Gx v ≤ 64) && E5 N v) := by
  unfold H6
  have hp := Mh v
  rw [show (0 : Int) = ((0 : Nat) : Int) from rfl, V9 N 70 0 v h (by omega) (by omega) hc, Option.bind_some, Nat.zero_add]
  by_cases hn : Gx v ≤ 64
  · rw [if_pos hn, if_pos (by simp; omega), if_pos (by simp; omega), Yz hN N 70 v h (by omega), Option.bind_some]
    simp [hn]
  · rw [if_neg hn, if_neg (by simp)]; simp [hn]
end
end Go.VM
