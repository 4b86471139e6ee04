import Derived.Test.YtooeobhihpkicaaGreatDoorL3
set_option linter.unusedVariables false
set_option linter.unusedSimpArgs false
namespace Go.VM
section
variable {N : Nat}
def Gy : Nat → List UInt8 → Nat
  | n, [] => n
  | n, c :: l => Gy (n * 10 + Iw c.toNat) l
theorem MR : ∀ (l : List UInt8) (n : Nat), n ≤ Gy n l
  | [], n => by rw [Gy]; exact Nat.le_refl _
  | c :: l, n => by
    have := MR l (n * 10 + Iw c.toNat)
    rw [Gy]; omega
theorem KP {c : UInt8} (h : EE c = true) : 48 ≤ c.toNat ∧ c.toNat ≤ 57 := by
  simpa [EE] using h
theorem OJ {c : UInt8} (h : EE c = true) : AIq c = true ∧ Iw c.toNat = c.toNat - 48 := by
  have := KP h
  refine ⟨?_, ?_⟩
  · simp only [AIq, ACT, Bool.or_eq_true, Bool.and_eq_true, decide_eq_true_eq]; omega
  · unfold Iw; rw [if_pos this.2]
theorem AHK (k2 : Unit → Option (Int × Int)) : ∀ l : List UInt8, BJ N k2 l = if l.all EE = true then k2 () else some (0, 1)
  | [] => by rw [BJ]; rfl
  | c :: l => by
    rw [BJ, ZC, Option.bind_some, AHK k2 l]
    cases h : EE c <;> simp [h]
theorem AHQ {m : Nat} (hm : m ≤ 2 ^ 59) (k9 : Int → Option (Int × Int)) : ∀ (l : List UInt8) (n : Nat), l.all EE = true → n ≤ m → BI N 10 (m : Int) k9 l (n : Int) = if Gy n l ≤ m then k9 ((Gy n l : Nat) : Int) else some (0, 4)
  | [], n, _, hn => by rw [BI, Gy, if_pos hn]
  | c :: l, n, h, hn => by
    simp only [List.all_cons, Bool.and_eq_true] at h
    have hd : Iw c.toNat ≤ 9 := by have := KP h.1; rw [(OJ h.1).2]; omega
    obtain ⟨hx, hv⟩ := OJ h.1
    rw [BI, AFf c hx, Option.bind_some, Au, Aa (by decide)]
    have w1 : wr .u64 ((n : Int) * 10) = ((n * 10 : Nat) : Int) := by rw [K8 (by omega)]; simp
    have w2 : wr .u64 (((n * 10 : Nat) : Int) + ((Iw c.toNat : Nat) : Int)) = ((n * 10 + Iw c.toNat : Nat) : Int) := by rw [K8 (by omega)]; simp
    have w3 : wr .u64 (18446744073709551615 - ((Iw c.toNat : Nat) : Int)) = 18446744073709551615 - ((Iw c.toNat : Nat) : Int) := K8 (by omega)
    rw [w1, w2, w3, Int.tdiv_eq_ediv_of_nonneg (by omega), K8 (by omega)]
    have c1 : ¬ ((n : Int) > (18446744073709551615 - ((Iw c.toNat : Nat) : Int)) / 10) := by omega
    rw [if_neg (by simpa using c1), Gy]
    by_cases c2 : n * 10 + Iw c.toNat ≤ m
    · have c3 : ¬ (((n * 10 + Iw c.toNat : Nat) : Int) > (m : Int)) := by omega
      rw [decide_eq_false c3]
      simp only [Bool.false_eq_true, if_false]
      exact AHQ hm k9 l _ h.2 c2
    · have c3 : (((n * 10 + Iw c.toNat : Nat) : Int) > (m : Int)) := by omega
      have := MR l (n * 10 + Iw c.toNat)
      rw [decide_eq_true c3, if_neg (by omega)]; rfl
theorem AAf {m : Nat} (hm : m ≤ 2 ^ 59) (l : List UInt8) (hb : l.length ≤ 2 ^ 60) : G9 N l (m : Int) = some (if l = [] then (0, 3) else if l.all EE = true then (if Gy 0 l ≤ m then (((Gy 0 l : Nat) : Int), 0) else (0, 4)) else (0, 1)) := by
  unfold G9 DT
  by_cases h : l = []
  · subst h; rfl
  · rw [if_neg (by simpa using h), if_neg h, Au, Aa (by unfold Bi; omega), AHK]
    by_cases h1 : l.all EE = true
    · rw [if_pos h1, if_pos h1, Au, Aa (by unfold Bi; omega), show (0 : Int) = ((0 : Nat) : Int) from rfl, AHQ hm _ l 0 h1 (by omega)]
      split <;> rfl
    · rw [if_neg h1, if_neg h1]; rfl
def JD (B : Nat) (P : List UInt8) : Int := if DN [45] P = true then -((min (Gy 0 (P.dropWhile ([43, 45] : List UInt8).contains)) B : Nat) : Int) else ((min (Gy 0 (P.dropWhile ([43, 45] : List UInt8).contains)) B : Nat) : Int)
def ZF (P : List UInt8) : Prop := P = [] ∨ ∃ sn D, P = sn ++ D ∧ (sn = [] ∨ sn = [43] ∨ sn = [45]) ∧ D ≠ [] ∧ D.all EE = true
theorem ZH {c : UInt8} (h : EE c = true) : ([43, 45] : List UInt8).contains c = false := by
  have := Jn (f := fun n => if (decide (48 ≤ n) && decide (n ≤ 57)) = true then ([43, 45] : List UInt8).contains (UInt8.ofNat n) else false) (g := fun _ => false) (by kernel_rfl) c
  simp only [UInt8.ofNat_toNat, show (decide (48 ≤ c.toNat) && decide (c.toNat ≤ 57)) = true from h, if_true] at this
  exact this
theorem Mg {D : List UInt8} (h : D.all EE = true) : D.dropWhile ([43, 45] : List UInt8).contains = D := by
  cases D with
  | nil => rfl
  | cons c D =>
    simp only [List.all_cons, Bool.and_eq_true] at h
    rw [List.dropWhile_cons, ZH h.1]; rfl
theorem RJ {P : List UInt8} (h : ZF P) : (P.dropWhile ([43, 45] : List UInt8).contains).all EE = true ∧ (P.dropWhile ([43, 45] : List UInt8).contains = [] → P = []) := by
  rcases h with rfl | ⟨sn, D, rfl, hs, hD, hd⟩
  · exact ⟨rfl, fun _ => rfl⟩
  · have : (sn ++ D).dropWhile ([43, 45] : List UInt8).contains = D := by
      rcases hs with rfl | rfl | rfl
      · exact Mg hd
      · show (43 :: D).dropWhile _ = D
        rw [List.dropWhile_cons, show ([43, 45] : List UInt8).contains 43 = true from rfl, if_pos rfl]; exact Mg hd
      · show (45 :: D).dropWhile _ = D
        rw [List.dropWhile_cons, show ([43, 45] : List UInt8).contains 45 = true from rfl, if_pos rfl]; exact Mg hd
    rw [this]
    exact ⟨hd, fun e => absurd e hD⟩
theorem AF6 {P : List UInt8} (h : ZF P) (hb : P.length ≤ 2 ^ 60) (hN : P.length < N) : GL N P = some (JD (2 ^ 40) P) := by
  obtain ⟨h1, h2⟩ := RJ h
  unfold GL
  rw [ABz P [43, 45] (by simp) (by simp) (by decide) hN, Option.bind_some]
  have hl := (List.dropWhile_sublist ([43, 45] : List UInt8).contains (l := P)).length_le
  unfold JD
  generalize hD : P.dropWhile ([43, 45] : List UInt8).contains = D at *
  rw [show (1099511627776 : Int) = ((2 ^ 40 : Nat) : Int) from rfl, AAf (by decide) D (by omega), Option.bind_some]
  by_cases he : D = []
  · rw [if_pos he]
    have hP := h2 he
    subst hP; subst he
    rfl
  · rw [if_neg he, if_pos h1]
    have key : ∀ v : Nat, v ≤ 2 ^ 40 → (Option.bind (strings_HasPrefix N P [45]) fun y9 => if y9 = true then some (wr .i64 (0 - wr .i64 (v : Int))) else some (wr .i64 (v : Int))) = some (if DN [45] P = true then -(v : Int) else (v : Int)) := by
      intro v hv
      rw [AGl, Option.bind_some, A8 (n := (v : Int)) (by omega), A8 (n := 0 - (v : Int)) (by omega)]
      split <;> simp
    rw [Au]
    by_cases hv : Gy 0 D ≤ 2 ^ 40
    · rw [if_pos hv, Nat.min_eq_left hv]
      exact key _ hv
    · rw [if_neg hv, Nat.min_eq_right (by omega)]
      exact key _ (Nat.le_refl _)
theorem NF (k19 : Int → Option Int) : ∀ (l : List UInt8) (n : Nat), l.all EE = true → n ≤ 2 ^ 30 → Cg N k19 l (n : Int) = k19 ((min (Gy n l) (2 ^ 30) : Nat) : Int)
  | [], n, _, hn => by rw [Cg, Gy, Nat.min_eq_left hn]
  | c :: l, n, h, hn => by
    simp only [List.all_cons, Bool.and_eq_true] at h
    have hd := KP h.1
    rw [Cg, Gy]
    have w0 : wr .u8 (Ap c - 48) = ((Iw c.toNat : Nat) : Int) := by rw [AHJ (by simp only [Ap]; omega)]; rw [(OJ h.1).2]; simp only [Ap]; omega
    have hd9 : Iw c.toNat ≤ 9 := by rw [(OJ h.1).2]; omega
    rw [w0, A8 (n := (n : Int) * 10) (by omega), A8 (n := ((Iw c.toNat : Nat) : Int)) (by omega), A8 (by omega)]
    have e : (n : Int) * 10 + ((Iw c.toNat : Nat) : Int) = ((n * 10 + Iw c.toNat : Nat) : Int) := by simp
    rw [e]
    have hge := MR l (n * 10 + Iw c.toNat)
    by_cases c1 : (1073741824 : Int) < ((n * 10 + Iw c.toNat : Nat) : Int)
    · rw [if_pos c1, show (1073741824 : Int) = ((2 ^ 30 : Nat) : Int) from rfl, NF k19 l (2 ^ 30) h.2 (Nat.le_refl _)]
      have := MR l (2 ^ 30)
      rw [Nat.min_eq_right this, Nat.min_eq_right (by omega)]
    · rw [if_neg c1, NF k19 l _ h.2 (by omega)]
theorem AFO {P : List UInt8} (h : ZF P) (hb : P.length ≤ 2 ^ 60) : GM N P = some (JD (2 ^ 30) P) := by
  obtain ⟨h1, h2⟩ := RJ h
  unfold GM
  refine (CZ (a := DN [45] P) fun k2 => ?_).trans ?_
  · cases P with
    | nil => rfl
    | cons c P => rw [if_neg (by simp), show idx (c :: P) 0 = some c from rfl, Option.bind_some, AGg]; rfl
  try dsimp only
  refine (CZ (a := P.dropWhile ([43, 45] : List UInt8).contains) fun k7 => (CZ (a := DN [43, 45] P) fun k11 => ?_).trans ?_).trans ?_
  · cases P with
    | nil => rfl
    | cons c P =>
      show (if (c :: P == ([] : List UInt8)) = true then k11 false else Option.bind (idx (c :: P) 0) fun x14 => Option.bind (GN N (Ap x14) [43, 45]) fun y15 => k11 y15) = _
      rw [if_neg (by simp), show idx (c :: P) 0 = some c from rfl, Option.bind_some, RQ _ _ (by decide), Option.bind_some]; rfl
  · try dsimp only
    rcases h with rfl | ⟨sn, D, rfl, hs, hD, hd⟩
    · rfl
    · have hdd := Mg hd
      rcases hs with rfl | rfl | rfl
      · cases D with
        | nil => exact absurd rfl hD
        | cons c D =>
          simp only [List.all_cons, Bool.and_eq_true] at hd
          rw [List.nil_append, hdd, if_neg (by show ¬ ([43, 45] : List UInt8).contains c = true; rw [ZH hd.1]; simp)]
      · have e : ([43] ++ D).dropWhile ([43, 45] : List UInt8).contains = D := by
          show (43 :: D).dropWhile _ = D
          rw [List.dropWhile_cons, show ([43, 45] : List UInt8).contains 43 = true from rfl, if_pos rfl]; exact hdd
        rw [e, if_pos (by rfl)]
        exact (congrArg (fun x => Option.bind x k7) (I8 43 D)).trans rfl
      · have e : ([45] ++ D).dropWhile ([43, 45] : List UInt8).contains = D := by
          show (45 :: D).dropWhile _ = D
          rw [List.dropWhile_cons, show ([43, 45] : List UInt8).contains 45 = true from rfl, if_pos rfl]; exact hdd
        rw [e, if_pos (by rfl)]
        exact (congrArg (fun x => Option.bind x k7) (I8 45 D)).trans rfl
  try dsimp only
  have hl := (List.dropWhile_sublist ([43, 45] : List UInt8).contains (l := P)).length_le
  unfold JD
  generalize hD : P.dropWhile ([43, 45] : List UInt8).contains = D at *
  rw [Au, Aa (by unfold Bi; omega), show (0 : Int) = ((0 : Nat) : Int) from rfl, NF _ D 0 h1 (by omega)]
  have : min (Gy 0 D) (2 ^ 30) ≤ 2 ^ 30 := Nat.min_le_right _ _
  rw [A8 (by omega)]
  split <;> simp
def AHx (y : Int) : List UInt8 := if y < 0 then [101, 45] ++ fmtS (-y).toNat else if y > 0 then [101] ++ fmtS y.toNat else []
def I9 (sg m : List UInt8) (x : Int) : List UInt8 × Int :=
  let m1 := m.dropWhile (· == 48)
  let sh := Hq (· == 48) m1
  if sh = [] then ([48], 0)
  else if sh.length > 40 ∨ x + m1.length - sh.length < -400 ∨ x + m1.length - sh.length > 400 then ([], 144)
  else (sg ++ sh ++ AHx (x + m1.length - sh.length), 0)
theorem OL {y : Int} (h : 0 ≤ y) (h2 : y ≤ 2 ^ 60) : wr .u64 y = ((y.toNat : Nat) : Int) := by rw [K8 (by omega)]; omega
theorem SK {l : List UInt8} (h : l.all EE = true) : l.map Jp = l := by
  induction l with
  | nil => rfl
  | cons c l ih =>
    simp only [List.all_cons, Bool.and_eq_true] at h
    have := KP h.1
    rw [List.map_cons, ih h.2]
    congr 1
    unfold Jp AG4; rw [if_neg (by omega)]; simp
theorem SB {c : UInt8} {a b : List UInt8} (h : a.contains c = false) : QE c (a ++ c :: b) = (a, b, true) := by
  have h1 : ∀ a : List UInt8, a.contains c = false → (a ++ c :: b).takeWhile (· != c) = a ∧ (a ++ c :: b).dropWhile (· != c) = c :: b := by
    intro a
    induction a with
    | nil => intro _; simp
    | cons x a ih =>
      intro h
      rw [List.contains_cons, Bool.or_eq_false_iff] at h
      have hx : (x != c) = true := by
        have : c ≠ x := by simpa using h.1
        simpa using fun e : x = c => this e.symm
      obtain ⟨i1, i2⟩ := ih h.2
      rw [List.cons_append, List.takeWhile_cons, List.dropWhile_cons, hx, i1, i2]
      exact ⟨rfl, rfl⟩
  unfold QE
  rw [if_pos (by simp), (h1 a h).1, (h1 a h).2]; rfl
theorem Zc {c : UInt8} {a : List UInt8} (h : a.contains c = false) : QE c a = (a, [], false) := by
  unfold QE; rw [if_neg (by rw [h]; simp)]
theorem Ru {c : UInt8} {a b : List UInt8} : (a ++ b).contains c = (a.contains c || b.contains c) := by
  simp [List.contains_eq_any_beq, List.any_append]
theorem ZG {P : List UInt8} (h : ZF P) : P.map Jp = P := by
  rcases h with rfl | ⟨sn, D, rfl, hs, hD, hd⟩
  · rfl
  · rw [List.map_append, SK hd]
    rcases hs with rfl | rfl | rfl <;> rfl
section
variable {s sg W F FR P EX : List UInt8}
theorem NumP.len (h : NumP s sg W F FR P EX) : s.length = sg.length + (W.length + (FR.length + EX.length)) ∧ F.length ≤ FR.length ∧ P.length ≤ EX.length := by
  refine ⟨by rw [h.eq]; simp, ?_, ?_⟩
  · rcases h.fr with ⟨e1, e2⟩ | e
    · rw [e2]; simp
    · rw [e]; simp
  · rcases h.ex with ⟨e1, e2⟩ | e | e
    · rw [e2]; simp
    · rw [e]; simp
    · rw [e]; simp
theorem NumP.not_e (h : NumP s sg W F FR P EX) (k : UInt8) (hk : EE k = false) (h46 : k ≠ 46) : (W ++ FR).contains k = false := by
  rw [Ru, OM hk h.Wd, Bool.false_or]
  rcases h.fr with ⟨e1, e2⟩ | e
  · rw [e1]; rfl
  · rw [e, List.contains_cons, OM hk h.Fd, Bool.or_false]
    simpa using h46
theorem AFz (h : NumP s sg W F FR P EX) (hn : FT s = s.length) (hb : s.length ≤ 2 ^ 48) (hN : s.length + 30 < N) : Dw N s = some (I9 sg (W ++ F) (JD (2 ^ 40) P - F.length)) := by
  obtain ⟨l1, l2, l3⟩ := h.len
  have hne : s ≠ [] := by
    rw [h.eq]
    have := h.Wn
    intro e
    have := List.append_eq_nil_iff.1 e
    have := List.append_eq_nil_iff.1 this.2
    exact h.Wn this.1
  have hpos : s.length ≠ 0 := fun e => hne (List.length_eq_zero_iff.1 e)
  unfold Dw
  have hp := PN (N := N) (l := s) (t := s) (i := 0) (by simp) (by omega) (by omega)
  rw [if_neg (by rw [hn]; exact hpos)] at hp
  have hp' : Cb N (TokenReader.mk s 0) = some (s.take (FT s), true, (⟨s, ((0 + FT s : Nat) : Int)⟩ : TokenReader)) := hp
  rw [hp', Option.bind_some]
  refine (CZ (a := false) fun k4 => ?_).trans ?_
  · rw [if_pos rfl, hn, List.take_of_length_le (Nat.le_refl _)]; simp
  try dsimp only
  rw [if_neg (by decide)]
  have hhead : ∀ k7 : List UInt8 × List UInt8 → Option (List UInt8 × Int), (Option.bind (idx s 0) fun x11 => if (Ap x11 == 45) = true then Option.bind (sub s 1 (s.length : Int)) fun x12 => k7 ([45], x12) else k7 ([], s)) = k7 (sg, W ++ (FR ++ EX)) := by
    intro k7
    rcases h.sg with e | e
    · have hs : s = W ++ (FR ++ EX) := by rw [h.eq, e]; rfl
      cases hW : W with
      | nil => exact absurd hW h.Wn
      | cons c W' =>
        have hc : EE c = true := by
          have := h.Wd
          rw [hW, List.all_cons, Bool.and_eq_true] at this
          exact this.1
        have hs2 : s = c :: (W' ++ (FR ++ EX)) := by rw [hs, hW]; rfl
        rw [hs2, show idx (c :: (W' ++ (FR ++ EX))) 0 = some c from rfl, Option.bind_some, AGg, MG]
        have := KP hc
        have : ¬ c.toNat = (45 : UInt8).toNat := by show ¬ c.toNat = 45; omega
        rw [if_neg (by simpa using this), e]; rfl
    · have hs2 : s = 45 :: (W ++ (FR ++ EX)) := by rw [h.eq, e]; rfl
      rw [hs2, show idx (45 :: (W ++ (FR ++ EX))) 0 = some 45 from rfl, Option.bind_some, if_pos (by rfl), I8, Option.bind_some, e]
  refine (CZ (a := (sg, W ++ (FR ++ EX))) fun k8 => hhead k8).trans ?_
  try dsimp only
  rw [lower_eq _ (by simp; omega), Option.bind_some]
  have hWF : (W ++ FR).map Jp = W ++ FR := by
    rw [List.map_append, SK h.Wd]
    rcases h.fr with ⟨e1, e2⟩ | e
    · rw [e1]; rfl
    · rw [e, List.map_cons, SK h.Fd]; rfl
  have hlow : QE 101 ((W ++ (FR ++ EX)).map Jp) = (W ++ FR, P, (QE 101 ((W ++ (FR ++ EX)).map Jp)).2.2) := by
    rw [← List.append_assoc, List.map_append, hWF]
    have hc := h.not_e 101 (by decide) (by decide)
    rcases h.ex with ⟨e1, e2⟩ | e | e
    · rw [e1, e2, List.map_nil, List.append_nil, Zc hc]
    · rw [e, List.map_cons, ZG h.pw, show Jp 101 = 101 from rfl, SB hc]
    · rw [e, List.map_cons, ZG h.pw, show Jp 69 = 101 from rfl, SB hc]
  rw [AET 101 _ (by simp; omega), Option.bind_some, hlow]
  try dsimp only
  have hcut2 : QE 46 (W ++ FR) = (W, F, (QE 46 (W ++ FR)).2.2) := by
    have hc := OM (k := 46) (by decide) h.Wd
    rcases h.fr with ⟨e1, e2⟩ | e
    · rw [e1, e2, List.append_nil, Zc hc]
    · rw [e, SB hc]
  rw [AET 46 _ (by simp; omega), Option.bind_some, hcut2]
  try dsimp only
  rw [Aa (by unfold Bi; omega), AE2 48 (W ++ F) (by decide) (by simp; omega), Option.bind_some]
  have hml := (List.dropWhile_sublist (fun x : UInt8 => x == 48) (l := W ++ F)).length_le
  rw [List.length_append] at hml
  have htl := Pj (fun x : UInt8 => x == 48) ((W ++ F).dropWhile (fun x : UInt8 => x == 48))
  rw [ADY 48 _ (by decide) (by omega) (by omega), Option.bind_some]
  unfold I9
  dsimp only
  generalize hm1 : (W ++ F).dropWhile (fun x : UInt8 => x == 48) = m1 at *
  generalize hsh : Hq (fun x : UInt8 => x == 48) m1 = sh at *
  try dsimp only
  by_cases hz : sh = []
  · rw [if_pos (by simpa using hz), if_pos hz]
  rw [if_neg (by simpa using hz), if_neg hz, AF6 h.pw (by omega) (by omega), Option.bind_some]
  have hev : -(2 ^ 40 : Int) ≤ JD (2 ^ 40) P ∧ JD (2 ^ 40) P ≤ (2 ^ 40 : Int) := by
    unfold JD
    have : min (Gy 0 (P.dropWhile ([43, 45] : List UInt8).contains)) (2 ^ 40) ≤ 2 ^ 40 := Nat.min_le_right _ _
    split <;> omega
  generalize JD (2 ^ 40) P = x at *
  have hw : wr .i64 (wr .i64 (wr .i64 (x - (F.length : Int)) + (m1.length : Int)) - (sh.length : Int)) = x - (F.length : Int) + (m1.length : Int) - (sh.length : Int) := by
    rw [A8 (n := x - (F.length : Int)) (by omega), A8 (n := x - (F.length : Int) + (m1.length : Int)) (by omega), A8 (by omega)]
  rw [hw]
  generalize hy : x - (F.length : Int) + (m1.length : Int) - (sh.length : Int) = y at *
  have hsg : sg.length ≤ 1 := by rcases h.sg with e | e <;> rw [e] <;> simp
  refine (CZ (a := decide (sh.length > 40 ∨ y < -400 ∨ y > 400)) fun k26 => ?_).trans ?_
  · by_cases c1 : (sh.length : Int) > 40
    · rw [if_pos (decide_eq_true c1), decide_eq_true (.inl (by omega))]
    · rw [if_neg (by simpa using c1)]
      by_cases c2 : y < -400
      · rw [if_pos (decide_eq_true c2), decide_eq_true (.inr (.inl c2))]
      · rw [if_neg (by simpa using c2)]
        congr 1
        simp only [eq_iff_iff, decide_eq_decide]; omega
  try dsimp only
  by_cases hc : sh.length > 40 ∨ y < -400 ∨ y > 400
  · rw [if_pos (decide_eq_true hc), if_pos hc]
  rw [if_neg (by simpa using hc), if_neg hc]
  have hc' : ¬ (sh.length > 40) ∧ ¬ y < -400 ∧ ¬ y > 400 := ⟨fun h => hc (.inl h), fun h => hc (.inr (.inl h)), fun h => hc (.inr (.inr h))⟩
  have hf := Wm
  unfold AHx
  by_cases c1 : y < 0
  · rw [if_pos (decide_eq_true c1), if_pos c1, Aa (by unfold Bi; omega), Aa (by unfold Bi; simp; omega), A8 (by omega), OL (by omega) (by omega), Ol _ (by omega) (by omega), Option.bind_some]
    have := hf (0 - y).toNat
    have := hf (-y).toNat
    rw [Aa (by unfold Bi; simp; omega), show (0 - y).toNat = (-y).toNat by omega]
    simp
  · rw [if_neg (by simpa using c1), if_neg c1]
    by_cases c2 : y > 0
    · have := hf y.toNat
      rw [if_pos (decide_eq_true c2), if_pos c2, Aa (by unfold Bi; omega), Aa (by unfold Bi; simp; omega), OL (by omega) (by omega), Ol _ (by omega) (by omega), Option.bind_some, Aa (by unfold Bi; simp; omega)]
      simp
    · rw [if_neg (by simpa using c2), if_neg c2, Aa (by unfold Bi; omega)]
      simp
end
end
end Go.VM
namespace Go.VM
section
variable {N : Nat}
theorem ZJ (k29 : List UInt8 → Option (List UInt8 × Int)) : ∀ (l : List UInt8) (k : Nat), l.length < k → Dh N k29 k l = k29 (l.dropWhile (· == 48))
  | [], k + 1, _ => by rw [Dh, Au]; rfl
  | x :: l, k + 1, h => by
    simp only [List.length_cons] at h
    rw [Dh, Au, if_pos (by simp <;> omega), show idx (x :: l) 0 = some x from rfl, Option.bind_some, List.dropWhile_cons]
    try dsimp only
    rw [show (Ap x == 48) = (x == 48) from Me x 48]
    cases x == 48
    · rfl
    · rw [if_pos rfl, I8, Option.bind_some, ZJ k29 l k (by omega)]; rfl
theorem ZP (k40 : Int × List UInt8 → Option (List UInt8 × Int)) : ∀ (n : Nat) (l : List UInt8) (x : Int), l.length = n → n ≤ 2 ^ 50 → (∃ c r, l = c :: r ∧ (c == 48) = false) → -(2 ^ 60) ≤ x → x + n ≤ 2 ^ 60 → ∀ k : Nat, n < k → D9 N k40 k x l = k40 (x + l.length - (Hq (· == 48) l).length, Hq (· == 48) l)
  | 0, l, x, hl, hb, ⟨c, r, e, hc⟩, h1, h3, k, hk => by rw [e] at hl; simp at hl
  | n + 1, l, x, hl, hb, hh, h1, h3, 0, hk => by omega
  | n + 1, l, x, hl, hb, hh, h1, h3, k + 1, hk => by
    obtain ⟨l', y, rfl⟩ : ∃ l' y, l = l' ++ [y] := by
      have hne : l ≠ [] := fun e => by subst e; simp at hl
      exact ⟨l.dropLast, l.getLast hne, (List.dropLast_concat_getLast hne).symm⟩
    have hl' : l'.length = n := by simpa using hl
    rw [D9, U8 l' y (by omega), Option.bind_some, MF, show (Ap y == 48) = (y == 48) from Me y 48]
    by_cases hy : (y == 48) = true
    · rw [if_pos hy, if_pos hy, XY l' y (by omega), Option.bind_some, A8 (by omega)]
      have hh' : ∃ c r, l' = c :: r ∧ (c == 48) = false := by
        obtain ⟨c, r, e, hc⟩ := hh
        cases l' with
        | nil =>
          simp only [List.nil_append, List.cons.injEq] at e
          rw [e.1, hc] at hy; cases hy
        | cons a l' =>
          simp only [List.cons_append, List.cons.injEq] at e
          exact ⟨a, l', rfl, by rw [e.1]; exact hc⟩
      rw [ZP k40 n l' (x + 1) hl' (by omega) hh' (by omega) (by omega) k (by omega)]
      congr 2
      simp only [List.length_append, List.length_cons, List.length_nil]; omega
    · rw [if_neg hy, if_neg hy]
      congr 2; omega
theorem NT (set : List UInt8) (hs : set.length ≤ 1000) (k2 : Unit → Option Int) (n : Int) (h : k2 () = some n) : ∀ (l : List UInt8) (i : Nat), ((i + l.length : Nat) : Int) = n → DF N set k2 l (i : Int) = some ((i + (l.takeWhile fun c => !set.contains c).length : Nat) : Int)
  | [], i, hn => by rw [DF, h, ← hn]; simp
  | c :: l, i, hn => by
    rw [DF, RQ _ _ hs, Option.bind_some, List.takeWhile_cons]
    cases hc : set.contains c
    · simp only [List.length_cons] at hn
      rw [if_neg (by decide), show (i : Int) + 1 = ((i + 1 : Nat) : Int) by simp, NT set hs k2 n h l (i + 1) (by rw [← hn]; congr 1; omega)]
      simp only [Bool.not_false, if_true, List.length_cons]; congr 2; omega
    · simp
theorem Qw (l set : List UInt8) (hs : set.length ≤ 1000) (hb : l.length ≤ 2 ^ 60) : Gz N l set = some (((l.takeWhile fun c => !set.contains c).length : Nat) : Int) := by
  unfold Gz
  rw [Au, Aa (by unfold Bi; omega), show (0 : Int) = ((0 : Nat) : Int) from rfl, NT set hs _ _ rfl l 0 (by simp)]
  simp
theorem M3 {p : UInt8 → Bool} : ∀ {a b : List UInt8}, (∀ c ∈ a, p c = true) → (b = [] ∨ ∃ c r, b = c :: r ∧ p c = false) → (a ++ b).takeWhile p = a
  | [], b, _, hb => by
    rcases hb with rfl | ⟨c, r, rfl, hc⟩
    · rfl
    · rw [List.nil_append, List.takeWhile_cons, hc]; rfl
  | x :: a, b, ha, hb => by
    rw [List.cons_append, List.takeWhile_cons, ha x (by simp), if_pos rfl, M3 (fun c hc => ha c (by simp [hc])) hb]
section
variable {s sg W F FR P EX : List UInt8}
theorem Rq {l : List UInt8} (h : l.all EE = true) : ∀ c ∈ l, EE c = true := by simpa using h
theorem ZT {c : UInt8} (h : EE c = true) : ([101, 69] : List UInt8).contains c = false := by
  have := Jn (f := fun n => if (decide (48 ≤ n) && decide (n ≤ 57)) = true then ([101, 69] : List UInt8).contains (UInt8.ofNat n) else false) (g := fun _ => false) (by kernel_rfl) c
  simp only [UInt8.ofNat_toNat, show (decide (48 ≤ c.toNat) && decide (c.toNat ≤ 57)) = true from h, if_true] at this
  exact this
theorem AF2 {c : UInt8} (h : EE c = true) : ([46] : List UInt8).contains c = false := by
  rw [MG]
  have := KP h
  have : ¬ c.toNat = (46 : UInt8).toNat := by show ¬ c.toNat = 46; omega
  simpa using this
theorem AGm (h : NumP s sg W F FR P EX) (hn : FT s = s.length) (hb : s.length ≤ 2 ^ 48) (hN : s.length + 30 < N) : EF N s = some (I9 sg (W ++ F) (JD (2 ^ 30) P - F.length)) := by
  obtain ⟨l1, l2, l3⟩ := h.len
  have hne : s ≠ [] := by
    rw [h.eq]
    intro e
    have := List.append_eq_nil_iff.1 e
    have := List.append_eq_nil_iff.1 this.2
    exact h.Wn this.1
  unfold EF
  refine (CZ (a := false) fun k2 => ?_).trans ?_
  · rw [if_neg (by simpa using hne), NY s (by omega) (by omega), Option.bind_some, hn]; simp
  try dsimp only
  rw [if_neg (by decide)]
  have hhead : ∀ k8 : List UInt8 × List UInt8 → Option (List UInt8 × Int), (Option.bind (idx s 0) fun x11 => if (Ap x11 == 45) = true then Option.bind (sub s 1 (s.length : Int)) fun x12 => k8 (x12, [45]) else k8 (s, [])) = k8 (W ++ (FR ++ EX), sg) := by
    intro k7
    rcases h.sg with e | e
    · have hs : s = W ++ (FR ++ EX) := by rw [h.eq, e]; rfl
      cases hW : W with
      | nil => exact absurd hW h.Wn
      | cons c W' =>
        have hc : EE c = true := by
          have := h.Wd
          rw [hW, List.all_cons, Bool.and_eq_true] at this
          exact this.1
        have hs2 : s = c :: (W' ++ (FR ++ EX)) := by rw [hs, hW]; rfl
        rw [hs2, show idx (c :: (W' ++ (FR ++ EX))) 0 = some c from rfl, Option.bind_some, AGg, MG]
        have := KP hc
        have : ¬ c.toNat = (45 : UInt8).toNat := by show ¬ c.toNat = 45; omega
        rw [if_neg (by simpa using this), e]; rfl
    · have hs2 : s = 45 :: (W ++ (FR ++ EX)) := by rw [h.eq, e]; rfl
      rw [hs2, show idx (45 :: (W ++ (FR ++ EX))) 0 = some 45 from rfl, Option.bind_some, if_pos (by rfl), I8, Option.bind_some, e]
  refine (CZ (a := (W ++ (FR ++ EX), sg)) fun k8 => hhead k8).trans ?_
  try dsimp only
  have hWF : (W ++ (FR ++ EX)).takeWhile (fun c => !([101, 69] : List UInt8).contains c) = W ++ FR := by
    rw [← List.append_assoc]
    refine M3 (fun c hc => ?_) ?_
    · rcases List.mem_append.1 hc with hc | hc
      · rw [ZT (Rq h.Wd c hc)]; rfl
      · rcases h.fr with ⟨e1, e2⟩ | e
        · rw [e1] at hc; cases hc
        · rw [e] at hc
          rcases List.mem_cons.1 hc with rfl | hc
          · rfl
          · rw [ZT (Rq h.Fd c hc)]; rfl
    · rcases h.ex with ⟨e1, e2⟩ | e | e
      · exact .inl e1
      · exact .inr ⟨_, _, e, rfl⟩
      · exact .inr ⟨_, _, e, rfl⟩
  have hlen : (W ++ (FR ++ EX)).length = (W ++ FR).length + EX.length := by simp only [List.length_append]; omega
  rw [Qw _ _ (by decide) (by simp; omega), Option.bind_some, hWF, A8 (by simp; omega), show (((W ++ FR).length : Nat) : Int) + 1 = (((W ++ FR).length + 1 : Nat) : Int) by simp, Pm, Option.bind_some]
  have hP : (W ++ (FR ++ EX)).drop ((W ++ FR).length + 1) = P := by
    rw [← List.append_assoc, List.drop_append, List.drop_of_length_le (by omega), List.nil_append, Nat.add_sub_cancel_left]
    rcases h.ex with ⟨e1, e2⟩ | e | e
    · rw [e1, e2]; rfl
    · rw [e]; rfl
    · rw [e]; rfl
  rw [hP, AFO h.pw (by omega), Option.bind_some]
  have hsub : sub (W ++ (FR ++ EX)) 0 (((W ++ FR).length : Nat) : Int) = some (W ++ FR) := by
    rw [show (0 : Int) = ((0 : Nat) : Int) from rfl, FE _ 0 _ (by omega) (by omega), ← List.append_assoc]
    simp only [List.drop_zero, Nat.sub_zero, List.take_left]
  rw [hsub, Option.bind_some]
  have hev : -(2 ^ 30 : Int) ≤ JD (2 ^ 30) P ∧ JD (2 ^ 30) P ≤ (2 ^ 30 : Int) := by
    unfold JD
    have : min (Gy 0 (P.dropWhile ([43, 45] : List UInt8).contains)) (2 ^ 30) ≤ 2 ^ 30 := Nat.min_le_right _ _
    split <;> omega
  generalize JD (2 ^ 30) P = x at *
  have hdot : (W ++ FR).takeWhile (fun c => !([46] : List UInt8).contains c) = W := by
    refine M3 (fun c hc => ?_) ?_
    · rw [AF2 (Rq h.Wd c hc)]; rfl
    · rcases h.fr with ⟨e1, e2⟩ | e
      · exact .inl e1
      · exact .inr ⟨_, _, e, rfl⟩
  refine (CZ (a := (x - (F.length : Int), W ++ F)) fun k21 => ?_).trans ?_
  · rw [Qw _ _ (by decide) (by simp; omega), Option.bind_some, hdot]
    rcases h.fr with ⟨e1, e2⟩ | e
    · rw [e1, e2, List.append_nil, if_neg (by simp)]; simp
    · have hfl : FR.length = F.length + 1 := by rw [e]; simp
      have w1 : wr .i64 ((W.length : Int) + 1) = ((W.length + 1 : Nat) : Int) := by rw [A8 (by omega)]; simp
      have s1 : sub (W ++ FR) 0 (W.length : Int) = some W := by
        rw [show (0 : Int) = ((0 : Nat) : Int) from rfl, FE _ 0 _ (by omega) (by simp)]; simp only [List.drop_zero, Nat.sub_zero, List.take_left]
      have s2 : sub (W ++ FR) ((W.length + 1 : Nat) : Int) (((W ++ FR).length : Nat) : Int) = some F := by
        rw [FE _ _ _ (by simp; omega) (Nat.le_refl _), List.take_of_length_le (by simp <;> omega), List.drop_append, List.drop_of_length_le (by omega), List.nil_append, Nat.add_sub_cancel_left, e]; rfl
      rw [if_pos (by simp; omega), s1, Option.bind_some, w1, s2, Option.bind_some, Aa (by unfold Bi; omega)]
      have w2 : wr .i64 (x - wr .i64 (wr .i64 ((((W ++ FR).length : Nat) : Int) - (W.length : Int)) - 1)) = x - (F.length : Int) := by
        rw [List.length_append, A8 (n := ((W.length + FR.length : Nat) : Int) - (W.length : Int)) (by omega), A8 (n := ((W.length + FR.length : Nat) : Int) - (W.length : Int) - 1) (by omega), A8 (by omega)]
        omega
      rw [w2]
  try dsimp only
  have hml := (List.dropWhile_sublist (fun x : UInt8 => x == 48) (l := W ++ F)).length_le
  rw [List.length_append] at hml
  refine (CZ (a := (W ++ F).dropWhile (· == 48)) fun k29 => ZJ k29 (W ++ F) N (by simp; omega)).trans ?_
  try dsimp only
  have hhd : (W ++ F).dropWhile (fun x : UInt8 => x == 48) = [] ∨ ∃ c r, (W ++ F).dropWhile (fun x : UInt8 => x == 48) = c :: r ∧ (c == 48) = false := by
    generalize W ++ F = l
    induction l with
    | nil => exact .inl rfl
    | cons c l ih =>
      rw [List.dropWhile_cons]
      cases hc : (c == 48)
      · exact .inr ⟨c, l, rfl, hc⟩
      · exact ih
  have htl := Pj (fun x : UInt8 => x == 48) ((W ++ F).dropWhile (fun x : UInt8 => x == 48))
  unfold I9
  dsimp only
  generalize hm1 : (W ++ F).dropWhile (fun x : UInt8 => x == 48) = m1 at *
  by_cases hz : m1 = []
  · subst hz; rfl
  have hhd' : ∃ c r, m1 = c :: r ∧ (c == 48) = false := by
    rcases hhd with e | e
    · exact absurd e hz
    · exact e
  have hsz : Hq (fun x : UInt8 => x == 48) m1 ≠ [] := by
    obtain ⟨c, r, rfl, hc⟩ := hhd'
    have key : ∀ (n : Nat) (r : List UInt8), r.length = n → Hq (fun x : UInt8 => x == 48) (c :: r) ≠ [] := by
      intro n
      induction n with
      | zero =>
        intro r hr
        have : r = [] := List.length_eq_zero_iff.1 hr
        subst this
        unfold Hq; simp [hc]
      | succ n ih =>
        intro r hr
        obtain ⟨r', y, rfl⟩ : ∃ l' y, r = l' ++ [y] := by
          have hne : r ≠ [] := fun e => by subst e; simp at hr
          exact ⟨r.dropLast, r.getLast hne, (List.dropLast_concat_getLast hne).symm⟩
        rw [← List.cons_append, MF]
        split
        · exact ih r' (by simpa using hr)
        · simp
    exact key _ r rfl
  rw [if_neg (by simpa using hz), if_neg hsz]
  refine (CZ (a := (x - (F.length : Int) + (m1.length : Int) - ((Hq (fun x : UInt8 => x == 48) m1).length : Int), Hq (fun x : UInt8 => x == 48) m1)) fun k40 => ZP k40 m1.length m1 _ rfl (by omega) hhd' (by omega) (by omega) N (by omega)).trans ?_
  try dsimp only
  generalize hsh : Hq (fun x : UInt8 => x == 48) m1 = sh at *
  generalize hy : x - (F.length : Int) + (m1.length : Int) - (sh.length : Int) = y at *
  have hsg : sg.length ≤ 1 := by rcases h.sg with e | e <;> rw [e] <;> simp
  refine (CZ (a := decide (sh.length > 40 ∨ y < -400 ∨ y > 400)) fun k26 => ?_).trans ?_
  · by_cases c1 : (sh.length : Int) > 40
    · rw [if_pos (decide_eq_true c1), decide_eq_true (.inl (by omega))]
    · rw [if_neg (by simpa using c1)]
      by_cases c2 : y > 400
      · rw [if_pos (decide_eq_true c2), decide_eq_true (.inr (.inr c2))]
      · rw [if_neg (by simpa using c2)]
        congr 1
        simp only [eq_iff_iff, decide_eq_decide]; omega
  try dsimp only
  by_cases hc : sh.length > 40 ∨ y < -400 ∨ y > 400
  · rw [if_pos (decide_eq_true hc), if_pos hc]
  rw [if_neg (by simpa using hc), if_neg hc]
  have hc' : ¬ (sh.length > 40) ∧ ¬ y < -400 ∧ ¬ y > 400 := ⟨fun h => hc (.inl h), fun h => hc (.inr (.inl h)), fun h => hc (.inr (.inr h))⟩
  have hf := Wm
  unfold AHx
  by_cases c1 : y < 0
  · rw [if_pos (decide_eq_true c1), if_pos c1, Aa (by unfold Bi; omega), Aa (by unfold Bi; simp; omega), A8 (by omega), OL (by omega) (by omega), PE _ (by omega) (by omega), Option.bind_some]
    have := hf (0 - y).toNat
    have := hf (-y).toNat
    rw [Aa (by unfold Bi; simp; omega), show (0 - y).toNat = (-y).toNat by omega]
    simp
  · rw [if_neg (by simpa using c1), if_neg c1]
    by_cases c2 : y > 0
    · have := hf y.toNat
      rw [if_pos (decide_eq_true c2), if_pos c2, Aa (by unfold Bi; omega), Aa (by unfold Bi; simp; omega), OL (by omega) (by omega), PE _ (by omega) (by omega), Option.bind_some, Aa (by unfold Bi; simp; omega)]
      simp
    · rw [if_neg (by simpa using c2), if_neg c2, Aa (by unfold Bi; omega)]
      simp
end
theorem ACK (s : List UInt8) (hn : s = [] ∨ FT s ≠ s.length) (hb : s.length ≤ 2 ^ 48) : Dw N s = some ([], 130) := by
  unfold Dw
  have hp := PN (N := N) (l := s) (t := s) (i := 0) (by simp) (by omega) (by omega)
  by_cases hz : FT s = 0
  · rw [if_pos hz] at hp
    obtain ⟨q, hq⟩ := hp
    have hq' : Cb N (TokenReader.mk s 0) = some ([], false, q) := hq
    rw [hq', Option.bind_some]; rfl
  · rw [if_neg hz] at hp
    have hp' : Cb N (TokenReader.mk s 0) = some (s.take (FT s), true, (⟨s, ((0 + FT s : Nat) : Int)⟩ : TokenReader)) := hp
    rw [hp', Option.bind_some]
    refine (CZ (a := true) fun k4 => ?_).trans rfl
    have hle := ZW s
    have hne : FT s ≠ s.length := by
      rcases hn with rfl | h
      · exact absurd rfl hz
      · exact h
    rw [if_pos rfl, List.length_take, Nat.min_eq_left hle]
    congr 1
    simp only [bne_iff_ne, ne_eq]; omega
theorem ACS (s : List UInt8) (hn : s = [] ∨ FT s ≠ s.length) (hb : s.length ≤ 2 ^ 48) (hN : s.length + 30 < N) : EF N s = some ([], 130) := by
  unfold EF
  refine (CZ (a := true) fun k2 => ?_).trans rfl
  by_cases h : s = []
  · subst h; rfl
  · have hne : FT s ≠ s.length := by
      rcases hn with e | e
      · exact absurd e h
      · exact e
    rw [if_neg (by simpa using h), NY s (by omega) (by omega), Option.bind_some]
    congr 1
    simp only [bne_iff_ne, ne_eq]; omega
end
end Go.VM
namespace Go.VM
theorem PY {p : UInt8 → Bool} (l : List UInt8) : (l.dropWhile p).length ≤ l.length := (List.dropWhile_sublist p (l := l)).length_le
theorem Uy {sg m : List UInt8} {x y : Int} (hm : m.length ≤ 2000000) (h : x = y ∨ (100000000 ≤ x ∧ 100000000 ≤ y) ∨ (x ≤ -100000000 ∧ y ≤ -100000000)) : I9 sg m x = I9 sg m y := by
  unfold I9
  dsimp only
  have h1 := PY (p := fun x : UInt8 => x == 48) m
  have h2 := Pj (fun x : UInt8 => x == 48) (m.dropWhile (fun x : UInt8 => x == 48))
  generalize m.dropWhile (fun x : UInt8 => x == 48) = m1 at *
  generalize Hq (fun x : UInt8 => x == 48) m1 = sh at *
  by_cases hz : sh = []
  · rw [if_pos hz, if_pos hz]
  · rw [if_neg hz, if_neg hz]
    rcases h with rfl | ⟨ha, hb⟩ | ⟨ha, hb⟩
    · rfl
    · rw [if_pos (.inr (.inr (by omega))), if_pos (.inr (.inr (by omega)))]
    · rw [if_pos (.inr (.inl (by omega))), if_pos (.inr (.inl (by omega)))]
theorem ABi (P : List UInt8) (f : Nat) (hf : f ≤ 2000000) : JD (2 ^ 40) P - f = JD (2 ^ 30) P - f ∨ (100000000 ≤ JD (2 ^ 40) P - f ∧ 100000000 ≤ JD (2 ^ 30) P - f) ∨ (JD (2 ^ 40) P - f ≤ -100000000 ∧ JD (2 ^ 30) P - f ≤ -100000000) := by
  unfold JD
  generalize Gy 0 (P.dropWhile ([43, 45] : List UInt8).contains) = v
  by_cases h : v ≤ 2 ^ 30
  · rw [Nat.min_eq_left (show v ≤ 2 ^ 40 by omega), Nat.min_eq_left h]; exact .inl rfl
  · rw [Nat.min_eq_right (show 2 ^ 30 ≤ v by omega)]
    have h2 : 2 ^ 30 ≤ min v (2 ^ 40) := Nat.le_min.2 ⟨by omega, by decide⟩
    split
    · exact .inr (.inr ⟨by omega, by omega⟩)
    · exact .inr (.inl ⟨by omega, by omega⟩)
theorem Xg (sg m : List UInt8) (x : Int) : (I9 sg m x).2 = 0 ∨ I9 sg m x = ([], 144) := by
  unfold I9
  dsimp only
  split
  · exact .inl rfl
  · split
    · exact .inr rfl
    · exact .inl rfl
def Y7 (N : Nat) (s : List UInt8) : List UInt8 × Int := (Dw N s).getD ([], 144)
theorem AEy {N : Nat} {s : List UInt8} (h0 : s ≠ []) (hn : FT s = s.length) (hb : s.length ≤ 2000000) (hN : s.length + 30 < N) :
    Dw N s = some (Y7 N s) ∧ EF N s = some (Y7 N s) ∧ ((Y7 N s).2 = 0 ∨ Y7 N s = ([], 144)) := by
  obtain ⟨sg, W, F, FR, P, EX, h⟩ := ABg h0 hn
  obtain ⟨l1, l2, l3⟩ := h.len
  have e1 := AFz (N := N) h hn (by omega) hN
  have e2 := AGm (N := N) h hn (by omega) hN
  have e3 : Y7 N s = I9 sg (W ++ F) (JD (2 ^ 40) P - F.length) := by unfold Y7; rw [e1]; rfl
  refine ⟨by rw [e3]; exact e1, ?_, by rw [e3]; exact Xg _ _ _⟩
  rw [e2, e3, Uy (by rw [List.length_append]; omega) (ABi P F.length (by omega))]
end Go.VM
namespace Go.VM
mutual
def IU : ApiValue → Nat
  | ⟨kind, _, _, items⟩ => (if kind == 6 || kind == 7 then 1 else 0) + FL items
def FL : List ApiValue → Nat
  | [] => 0
  | x :: xs => max (IU x) (FL xs)
end
theorem Kw (v : ApiValue) : IU v = (if v.kind == 6 || v.kind == 7 then 1 else 0) + FL v.items := by cases v; rw [IU]
theorem AEd (v : ApiValue) : 0 < Ho v := by rw [IJ]; omega
section
variable {N : Nat}
def AAE (N : Nat) (s : List UInt8) : List UInt8 × Int := if s ≠ [] ∧ FT s = s.length then Y7 N s else ([], 130)
theorem AGR (s : List UInt8) (hb : s.length ≤ 2000000) (hN : s.length + 30 < N) : EF N s = some (AAE N s) ∧ Dw N s = some (AAE N s) := by
  unfold AAE
  by_cases h : s ≠ [] ∧ FT s = s.length
  · rw [if_pos h]
    obtain ⟨h1, h2, _⟩ := AEy h.1 h.2 hb hN
    exact ⟨h2, h1⟩
  · rw [if_neg h]
    have hb' : s = [] ∨ FT s ≠ s.length := by
      by_cases h1 : s = []
      · exact .inl h1
      · exact .inr fun h2 => h ⟨h1, h2⟩
    exact ⟨ACS s hb' (by omega) hN, ACK s hb' (by omega)⟩
def V4 (N : Nat) (s : List UInt8) : Bool := (AAE N s).2 == 0 && (AAE N s).1 == s
mutual
def F8 (N : Nat) : ApiValue → Bool
  | ⟨kind, text, keys, items⟩ =>
    if kind == 1 || kind == 2 || kind == 3 then text == [] && keys.isEmpty && items.isEmpty
    else if kind == 4 then V4 N text && keys.isEmpty && items.isEmpty
    else if kind == 5 then (Em N text).isSome && keys.isEmpty && items.isEmpty
    else if kind == 6 then text == [] && keys.isEmpty && Gt N items
    else if kind == 7 then text == [] && decide (keys.length = items.length) && JK N keys && Gt N items
    else false
def Gt (N : Nat) : List ApiValue → Bool
  | [] => true
  | x :: xs => F8 N x && Gt N xs
end
end
end Go.VM
namespace Go.VM
mutual
def DU : ApiValue → ApiValue
  | ⟨kind, text, keys, items⟩ => if kind == 6 then ⟨kind, text, [], Pb items⟩ else ⟨kind, text, Gw keys, (Gw keys).map fun k => (Jc keys (Pb items) k).1⟩
def Pb : List ApiValue → List ApiValue
  | [] => []
  | x :: xs => DU x :: Pb xs
end
theorem H6 : ∀ xs : List ApiValue, Pb xs = xs.map DU
  | [] => rfl
  | x :: xs => by rw [Pb, H6 xs]; rfl
mutual
def wrV : ApiValue → List UInt8
  | ⟨kind, text, keys, items⟩ =>
    if kind == 1 then [110, 117, 108, 108] else if kind == 2 then [102, 97, 108, 115, 101] else if kind == 3 then [116, 114, 117, 101] else if kind == 4 then text
    else if kind == 5 then I7 text else if kind == 7 then 123 :: (wrM true keys items ++ [125]) else 91 :: (wrI true items ++ [93])
def wrI : Bool → List ApiValue → List UInt8
  | _, [] => []
  | b, x :: xs => (if b then [] else [44]) ++ (wrV x ++ wrI false xs)
def wrM : Bool → List (List UInt8) → List ApiValue → List UInt8
  | b, k :: ks, x :: xs => (if b then [] else [44]) ++ (I7 k ++ (58 :: (wrV x ++ wrM false ks xs)))
  | _, _, _ => []
end
theorem LF {N : Nat} : ∀ {xs : List ApiValue}, Gt N xs = true → ∀ x, x ∈ xs → F8 N x = true
  | [], _, x, hx => by cases hx
  | y :: xs, h, x, hx => by
    rw [Gt, Bool.and_eq_true] at h
    rcases List.mem_cons.1 hx with rfl | hx
    · exact h.1
    · exact LF h.2 x hx
theorem PG {N : Nat} : ∀ {xs : List ApiValue}, (∀ x, x ∈ xs → F8 N x = true) → Gt N xs = true
  | [], _ => rfl
  | y :: xs, h => by rw [Gt, h y (by simp), PG fun x hx => h x (by simp [hx])]; rfl
inductive Shp (N : Nat) : ApiValue → Prop
  | word (k : Int) (hk : k = 1 ∨ k = 2 ∨ k = 3) : Shp N ⟨k, [], [], []⟩
  | num (s : List UInt8) (h : V4 N s = true) : Shp N ⟨4, s, [], []⟩
  | str (s : List UInt8) (h : (Em N s).isSome = true) : Shp N ⟨5, s, [], []⟩
  | arr (xs : List ApiValue) (h : ∀ x, x ∈ xs → F8 N x = true) : Shp N ⟨6, [], [], xs⟩
  | obj (ks : List (List UInt8)) (xs : List ApiValue) (hl : ks.length = xs.length) (hd : JK N ks = true) (h : ∀ x, x ∈ xs → F8 N x = true) : Shp N ⟨7, [], ks, xs⟩
theorem Y6 {N : Nat} {v : ApiValue} (h : F8 N v = true) : Shp N v := by
  obtain ⟨kind, text, keys, items⟩ := v
  rw [F8] at h
  by_cases h1 : (kind == 1 || kind == 2 || kind == 3) = true
  · rw [if_pos h1] at h
    simp only [Bool.and_eq_true, beq_iff_eq, List.isEmpty_iff] at h
    obtain ⟨⟨rfl, rfl⟩, rfl⟩ := h
    simp only [Bool.or_eq_true, beq_iff_eq] at h1
    exact .word _ (by omega)
  rw [if_neg h1] at h
  by_cases h4 : (kind == 4) = true
  · rw [if_pos h4] at h
    simp only [Bool.and_eq_true, List.isEmpty_iff] at h
    obtain ⟨⟨hn, rfl⟩, rfl⟩ := h
    rw [beq_iff_eq] at h4; subst h4
    exact .num _ hn
  rw [if_neg h4] at h
  by_cases h5 : (kind == 5) = true
  · rw [if_pos h5] at h
    simp only [Bool.and_eq_true, List.isEmpty_iff] at h
    obtain ⟨⟨hn, rfl⟩, rfl⟩ := h
    rw [beq_iff_eq] at h5; subst h5
    exact .str _ hn
  rw [if_neg h5] at h
  by_cases h6 : (kind == 6) = true
  · rw [if_pos h6] at h
    simp only [Bool.and_eq_true, beq_iff_eq, List.isEmpty_iff] at h
    obtain ⟨⟨rfl, rfl⟩, hs⟩ := h
    rw [beq_iff_eq] at h6; subst h6
    exact .arr _ (LF hs)
  rw [if_neg h6] at h
  by_cases h7 : (kind == 7) = true
  · rw [if_pos h7] at h
    simp only [Bool.and_eq_true, beq_iff_eq, decide_eq_true_eq] at h
    obtain ⟨⟨⟨rfl, hl⟩, hd⟩, hs⟩ := h
    rw [beq_iff_eq] at h7; subst h7
    exact .obj _ _ hl hd (LF hs)
  rw [if_neg h7] at h; cases h
theorem Shp.b {N : Nat} {v : ApiValue} (h : Shp N v) : F8 N v = true := by
  cases h with
  | word k hk => rcases hk with rfl | rfl | rfl <;> rfl
  | num s h => simp [F8, h]
  | str s h => simp [F8, h]
  | arr xs h => simp [F8, PG h]
  | obj ks xs hl hd h => simp [F8, PG h, hl, hd]
section
variable {N : Nat}
theorem AAc : Gw [] = [] := by simp [Gw]
theorem ACz {n : Nat} (h : n ≤ 1000000000) : EK n 72 := by unfold EK; omega
theorem AAC {s : List UInt8} (hs : s.length ≤ 1048576) (h : (Em N s).isSome = true) : Tt N s = (I7 s, 0) := by
  unfold Tt; rw [if_neg (by omega), if_pos h]
theorem L6 (s : List UInt8) : (I7 s).length ≤ 6 * s.length + 2 := by
  unfold I7
  have := q_len s
  simp only [List.length_cons, List.length_append, List.length_nil]; omega
theorem AEk {n : Nat} (h : n ≤ 1000000000) : EK n 1 := by unfold EK; omega
theorem Rh : ∀ (e : Nat) (v : ApiValue), okW e v → F8 N v = true → (wrV v).length + 1850 ≤ 3700 * Ho v
  | 0, v, h, _ => by have := h.pos; omega
  | e + 1, v, h, hs => by
    have ht := h.text; have hsub := h.sub; have hkl := h.klen
    rw [IJ]
    cases Y6 hs with
    | word k hkw => rcases hkw with rfl | rfl | rfl <;> (simp only [wrV]; decide +revert) <;> simp [wrV, Ez]
    | num s _ => simp only at ht; simp [wrV, Ez]; omega
    | str s _ =>
      simp only at ht
      have := L6 s
      simp [wrV, Ez]; omega
    | arr xs hx =>
      simp only at hsub
      have key : ∀ (b : Bool) (ys : List ApiValue), (∀ y, y ∈ ys → okW e y ∧ F8 N y = true) → (wrI b ys).length ≤ 3700 * Ez ys := by
        intro b ys
        induction ys generalizing b with
        | nil => intro _; simp [wrI]
        | cons y ys ih =>
          intro hy
          have h1 := Rh e y (hy y (by simp)).1 (hy y (by simp)).2
          have h2 := ih false fun z hz => hy z (by simp [hz])
          rw [wrI, Ez]
          simp only [List.length_append]
          have : (if b = true then ([] : List UInt8) else [44]).length ≤ 1 := by cases b <;> simp
          omega
      have := key true xs fun y hy => ⟨hsub y hy, hx y hy⟩
      simp [wrV]; omega
    | obj ks xs hl hd hx =>
      simp only at hsub hkl
      have key : ∀ (b : Bool) (ks : List (List UInt8)) (ys : List ApiValue), (∀ k, k ∈ ks → k.length ≤ 300) → (∀ y, y ∈ ys → okW e y ∧ F8 N y = true) → (wrM b ks ys).length ≤ 3700 * Ez ys := by
        intro b ks ys
        induction ys generalizing b ks with
        | nil => intro _ _; cases ks <;> simp [wrM]
        | cons y ys ih =>
          intro hk hy
          cases ks with
          | nil => simp [wrM]
          | cons k ks =>
            have h1 := Rh e y (hy y (by simp)).1 (hy y (by simp)).2
            have h2 := ih false ks (fun z hz => hk z (by simp [hz])) fun z hz => hy z (by simp [hz])
            have h3 := L6 k
            have h4 := hk k (by simp)
            rw [wrM, Ez]
            simp only [List.length_append, List.length_cons]
            have : (if b = true then ([] : List UInt8) else [44]).length ≤ 1 := by cases b <;> simp
            omega
      have := key true ks xs hkl fun y hy => ⟨hsub y hy, hx y hy⟩
      simp [wrV]; omega
end
end Go.VM
namespace Go.VM
theorem RB : ∀ (ks : List (List UInt8)) (xs : List ApiValue), ks.length = xs.length → ks.Nodup → (ks.map fun k => (Jc ks xs k).1) = xs
  | [], [], _, _ => rfl
  | k :: ks, x :: xs, h, hn => by
    rw [List.nodup_cons] at hn
    have ih := RB ks xs (by simpa using h) hn.2
    rw [List.map_cons]
    congr 1
    · simp [Jc]
    · conv => rhs; rw [← ih]
      apply List.map_congr_left
      intro y hy
      have : ¬ k = y := fun e => hn.1 (e ▸ hy)
      rw [Jc, if_neg (by simpa using this)]
theorem ABw {ks : List (List UInt8)} {xs : List ApiValue} (h : ks.length = xs.length) (hn : ks.Nodup) : ((Gw ks).map fun k => (Jc ks xs k).1).Perm xs := by
  have := (H5 ks).map fun k => (Jc ks xs k).1
  rw [RB ks xs h hn] at this
  exact this
theorem Od {xs ys : List ApiValue} (h : xs.Perm ys) : Ez xs = Ez ys := by
  induction h with
  | nil => rfl
  | cons x _ ih => rw [Ez, Ez, ih]
  | swap x y l => simp only [Ez]; omega
  | trans _ _ h1 h2 => rw [h1, h2]
theorem Ni {xs ys : List ApiValue} (h : xs.Perm ys) : FL xs = FL ys := by
  induction h with
  | nil => rfl
  | cons x _ ih => rw [FL, FL, ih]
  | swap x y l => simp only [FL]; omega
  | trans _ _ h1 h2 => rw [h1, h2]
theorem Xx {N : Nat} {xs ys : List ApiValue} (h : xs.Perm ys) : Gt N xs = Gt N ys := by
  induction h with
  | nil => rfl
  | cons x _ ih => rw [Gt, Gt, ih]
  | swap x y l => simp only [Gt]; cases F8 N x <;> cases F8 N y <;> rfl
  | trans _ _ h1 h2 => rw [h1, h2]
section
variable {N : Nat}
theorem Po {l m : List (List UInt8)} (h : l.Perm m) : JK N l = JK N m := by
  unfold JK
  have e1 : decide l.Nodup = decide m.Nodup := by rw [decide_eq_decide]; exact h.nodup_iff
  have e2 : (l.all fun k => (Em N k).isSome) = m.all fun k => (Em N k).isSome := by
    rw [Bool.eq_iff_iff, List.all_eq_true, List.all_eq_true]
    exact ⟨fun k x hx => k x (h.mem_iff.2 hx), fun k x hx => k x (h.mem_iff.1 hx)⟩
  rw [e1, e2]
theorem Kr {ks : List (List UInt8)} (h : JK N ks = true) : ks.Nodup := by
  unfold JK at h
  rw [Bool.and_eq_true, decide_eq_true_eq] at h
  exact h.1
theorem Zz {ks : List (List UInt8)} (h : JK N ks = true) : ∀ k, k ∈ ks → (Em N k).isSome = true := by
  unfold JK at h
  rw [Bool.and_eq_true, List.all_eq_true] at h
  exact h.2
theorem ZX (xs : List ApiValue) : DU ⟨6, [], [], xs⟩ = ⟨6, [], [], xs.map DU⟩ := by rw [DU, H6]; rfl
theorem ZQ (ks : List (List UInt8)) (xs : List ApiValue) : DU ⟨7, [], ks, xs⟩ = ⟨7, [], Gw ks, (Gw ks).map fun k => (Jc ks (xs.map DU) k).1⟩ := by rw [DU, H6]; rfl
theorem Ir {k : Int} {s : List UInt8} (h : k ≠ 6) : DU ⟨k, s, [], []⟩ = ⟨k, s, [], []⟩ := by rw [DU, if_neg (by simpa using h), AAc]; rfl
theorem Mo : ∀ (e : Nat) (v : ApiValue), okW e v → F8 N v = true → okW e (DU v) ∧ F8 N (DU v) = true ∧ Ho (DU v) = Ho v ∧ IU (DU v) = IU v
  | 0, v, h, _ => by have := h.pos; omega
  | e + 1, v, h, hs => by
    have ht := h.text; have hsub := h.sub; have hkl := h.klen; have hk := h.keys; have hi := h.items
    cases Y6 hs with
    | word k hkw => rw [Ir (by omega)]; exact ⟨h, hs, rfl, rfl⟩
    | num s _ => rw [Ir (by decide)]; exact ⟨h, hs, rfl, rfl⟩
    | str s _ => rw [Ir (by decide)]; exact ⟨h, hs, rfl, rfl⟩
    | arr xs hx =>
      simp only at hsub hi
      have ih := fun x hm => Mo e x (hsub x hm) (hx x hm)
      have hc : ∀ ys : List ApiValue, (∀ y, y ∈ ys → Ho (DU y) = Ho y ∧ IU (DU y) = IU y) → Ez (ys.map DU) = Ez ys ∧ FL (ys.map DU) = FL ys := by
        intro ys
        induction ys with
        | nil => intro _; exact ⟨rfl, rfl⟩
        | cons y ys ih2 =>
          intro hy
          have h1 := hy y (by simp)
          have h2 := ih2 fun z hz => hy z (by simp [hz])
          simp only [List.map_cons, Ez, FL, h1.1, h1.2, h2.1, h2.2, and_self]
      obtain ⟨c1, c2⟩ := hc xs fun y hy => ⟨(ih y hy).2.2.1, (ih y hy).2.2.2⟩
      rw [ZX]
      refine ⟨.mk _ (by simp) (by simp) (by simp) (by simpa using hi) fun x hm => ?_, ?_, ?_, ?_⟩
      · simp only [List.mem_map] at hm
        obtain ⟨y, hy, rfl⟩ := hm
        exact (ih y hy).1
      · refine (Shp.arr (xs.map DU) fun x hm => ?_).b
        simp only [List.mem_map] at hm
        obtain ⟨y, hy, rfl⟩ := hm
        exact (ih y hy).2.1
      · rw [IJ, IJ]; simp only [c1]
      · rw [Kw, Kw]; simp only [c2]
    | obj ks xs hl hd hx =>
      simp only at hsub hi hkl hk
      have ih := fun x hm => Mo e x (hsub x hm) (hx x hm)
      have hc : ∀ ys : List ApiValue, (∀ y, y ∈ ys → Ho (DU y) = Ho y ∧ IU (DU y) = IU y) → Ez (ys.map DU) = Ez ys ∧ FL (ys.map DU) = FL ys := by
        intro ys
        induction ys with
        | nil => intro _; exact ⟨rfl, rfl⟩
        | cons y ys ih2 =>
          intro hy
          have h1 := hy y (by simp)
          have h2 := ih2 fun z hz => hy z (by simp [hz])
          simp only [List.map_cons, Ez, FL, h1.1, h1.2, h2.1, h2.2, and_self]
      obtain ⟨c1, c2⟩ := hc xs fun y hy => ⟨(ih y hy).2.2.1, (ih y hy).2.2.2⟩
      have hp := ABw (ks := ks) (xs := xs.map DU) (by simpa using hl) (Kr hd)
      have hpk := H5 ks
      have hlen := hp.length_eq
      rw [ZQ]
      refine ⟨.mk _ (by simp) (by rw [hpk.length_eq]; exact hk) (fun k hkm => hkl k (hpk.mem_iff.1 hkm)) (by simp only []; rw [hlen]; simpa using hi) fun x hm => ?_, ?_, ?_, ?_⟩
      · have hm := hp.mem_iff.1 hm
        simp only [List.mem_map] at hm
        obtain ⟨y, hy, rfl⟩ := hm
        exact (ih y hy).1
      · refine (Shp.obj _ _ (by simp) (by rw [Po hpk]; exact hd) fun x hm => ?_).b
        have hm := hp.mem_iff.1 hm
        simp only [List.mem_map] at hm
        obtain ⟨y, hy, rfl⟩ := hm
        exact (ih y hy).2.1
      · rw [IJ, IJ]; simp only [Od hp, c1]
      · rw [Kw, Kw]; simp only [Ni hp, c2]
def SE (N : Nat) (v : ApiValue) : Bool := decide (IU v ≤ 64) && F8 N v
end
end Go.VM
