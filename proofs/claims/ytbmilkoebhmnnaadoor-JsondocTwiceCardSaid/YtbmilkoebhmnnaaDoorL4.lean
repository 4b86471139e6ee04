import Derived.Test.YtbmilkoebhmnnaaDoorL3
set_option linter.unusedVariables false
set_option linter.unusedSimpArgs false
namespace Go.VM
section
variable {N : Nat}
def GL : Nat → List UInt8 → Nat
  | n, [] => n
  | n, c :: l => GL (n * 10 + Ef c.toNat) l
theorem MX : ∀ (l : List UInt8) (n : Nat), n ≤ GL n l
  | [], n => by rw [GL]; exact Nat.le_refl _
  | c :: l, n => by
    have := MX l (n * 10 + Ef c.toNat)
    rw [GL]; omega
theorem Iw {c : UInt8} (h : Cq c = true) : 48 ≤ c.toNat ∧ c.toNat ≤ 57 := by
  simpa [Cq] using h
theorem PT {c : UInt8} (h : Cq c = true) : Jj c = true ∧ Ef c.toNat = c.toNat - 48 := by
  have := Iw h
  refine ⟨?_, ?_⟩
  · simp only [Jj, AAI, Bool.or_eq_true, Bool.and_eq_true, decide_eq_true_eq]; omega
  · unfold Ef; rw [if_pos this.2]
theorem AII (k2 : Unit → Option (Int × Int)) : ∀ l : List UInt8, Af N k2 l = if l.all Cq = true then k2 () else some (0, 1)
  | [] => by rw [Af]; rfl
  | c :: l => by
    rw [Af, TQ, Option.bind_some, AII k2 l]
    cases h : Cq c <;> simp [h]
theorem AIA {m : Nat} (hm : m ≤ 2 ^ 59) (k9 : Int → Option (Int × Int)) : ∀ (l : List UInt8) (n : Nat), l.all Cq = true → n ≤ m → Ag N 10 (m : Int) k9 l (n : Int) = if GL n l ≤ m then k9 ((GL n l : Nat) : Int) else some (0, 4)
  | [], n, _, hn => by rw [Ag, GL, if_pos hn]
  | c :: l, n, h, hn => by
    simp only [List.all_cons, Bool.and_eq_true] at h
    have hd : Ef c.toNat ≤ 9 := by have := Iw h.1; rw [(PT h.1).2]; omega
    obtain ⟨hx, hv⟩ := PT h.1
    rw [Ag, AAP c hx, Option.bind_some, AO, AL (by decide)]
    have w1 : wr .u64 ((n : Int) * 10) = ((n * 10 : Nat) : Int) := by rw [H9 (by omega)]; simp
    have w2 : wr .u64 (((n * 10 : Nat) : Int) + ((Ef c.toNat : Nat) : Int)) = ((n * 10 + Ef c.toNat : Nat) : Int) := by rw [H9 (by omega)]; simp
    have w3 : wr .u64 (18446744073709551615 - ((Ef c.toNat : Nat) : Int)) = 18446744073709551615 - ((Ef c.toNat : Nat) : Int) := H9 (by omega)
    rw [w1, w2, w3, Int.tdiv_eq_ediv_of_nonneg (by omega), H9 (by omega)]
    have c1 : ¬ ((n : Int) > (18446744073709551615 - ((Ef c.toNat : Nat) : Int)) / 10) := by omega
    rw [if_neg (by simpa using c1), GL]
    by_cases c2 : n * 10 + Ef c.toNat ≤ m
    · have c3 : ¬ (((n * 10 + Ef c.toNat : Nat) : Int) > (m : Int)) := by omega
      rw [decide_eq_false c3]
      simp only [Bool.false_eq_true, if_false]
      exact AIA hm k9 l _ h.2 c2
    · have c3 : (((n * 10 + Ef c.toNat : Nat) : Int) > (m : Int)) := by omega
      have := MX l (n * 10 + Ef c.toNat)
      rw [decide_eq_true c3, if_neg (by omega)]; rfl
theorem ABf {m : Nat} (hm : m ≤ 2 ^ 59) (l : List UInt8) (hb : l.length ≤ 2 ^ 60) : Gj N l (m : Int) = some (if l = [] then (0, 3) else if l.all Cq = true then (if GL 0 l ≤ m then (((GL 0 l : Nat) : Int), 0) else (0, 4)) else (0, 1)) := by
  unfold Gj Cs
  by_cases h : l = []
  · subst h; rfl
  · rw [if_neg (by simpa using h), if_neg h, AO, AL (by unfold Ac; omega), AII]
    by_cases h1 : l.all Cq = true
    · rw [if_pos h1, if_pos h1, AO, AL (by unfold Ac; omega), show (0 : Int) = ((0 : Nat) : Int) from rfl, AIA hm _ l 0 h1 (by omega)]
      split <;> rfl
    · rw [if_neg h1, if_neg h1]; rfl
def Ip (B : Nat) (P : List UInt8) : Int := if Bz [45] P = true then -((min (GL 0 (P.dropWhile ([43, 45] : List UInt8).contains)) B : Nat) : Int) else ((min (GL 0 (P.dropWhile ([43, 45] : List UInt8).contains)) B : Nat) : Int)
def AAf (P : List UInt8) : Prop := P = [] ∨ ∃ sn D, P = sn ++ D ∧ (sn = [] ∨ sn = [43] ∨ sn = [45]) ∧ D ≠ [] ∧ D.all Cq = true
theorem AAg {c : UInt8} (h : Cq c = true) : ([43, 45] : List UInt8).contains c = false := by
  have := EA (f := fun n => if (decide (48 ≤ n) && decide (n ≤ 57)) = true then ([43, 45] : List UInt8).contains (UInt8.ofNat n) else false) (g := fun _ => false) (by kernel_rfl) c
  simp only [UInt8.ofNat_toNat, show (decide (48 ≤ c.toNat) && decide (c.toNat ≤ 57)) = true from h, if_true] at this
  exact this
theorem Ml {D : List UInt8} (h : D.all Cq = true) : D.dropWhile ([43, 45] : List UInt8).contains = D := by
  cases D with
  | nil => rfl
  | cons c D =>
    simp only [List.all_cons, Bool.and_eq_true] at h
    rw [List.dropWhile_cons, AAg h.1]; rfl
theorem Rn {P : List UInt8} (h : AAf P) : (P.dropWhile ([43, 45] : List UInt8).contains).all Cq = true ∧ (P.dropWhile ([43, 45] : List UInt8).contains = [] → P = []) := by
  rcases h with rfl | ⟨sn, D, rfl, hs, hD, hd⟩
  · exact ⟨rfl, fun _ => rfl⟩
  · have : (sn ++ D).dropWhile ([43, 45] : List UInt8).contains = D := by
      rcases hs with rfl | rfl | rfl
      · exact Ml hd
      · show (43 :: D).dropWhile _ = D
        rw [List.dropWhile_cons, show ([43, 45] : List UInt8).contains 43 = true from rfl, if_pos rfl]; exact Ml hd
      · show (45 :: D).dropWhile _ = D
        rw [List.dropWhile_cons, show ([43, 45] : List UInt8).contains 45 = true from rfl, if_pos rfl]; exact Ml hd
    rw [this]
    exact ⟨hd, fun e => absurd e hD⟩
theorem AGk {P : List UInt8} (h : AAf P) (hb : P.length ≤ 2 ^ 60) (hN : P.length < N) : FY N P = some (Ip (2 ^ 40) P) := by
  obtain ⟨h1, h2⟩ := Rn h
  unfold FY
  rw [ACl P [43, 45] (by simp) (by simp) (by decide) hN, Option.bind_some]
  have hl := (List.dropWhile_sublist ([43, 45] : List UInt8).contains (l := P)).length_le
  unfold Ip
  generalize hD : P.dropWhile ([43, 45] : List UInt8).contains = D at *
  rw [show (1099511627776 : Int) = ((2 ^ 40 : Nat) : Int) from rfl, ABf (by decide) D (by omega), Option.bind_some]
  by_cases he : D = []
  · rw [if_pos he]
    have hP := h2 he
    subst hP; subst he
    rfl
  · rw [if_neg he, if_pos h1]
    have key : ∀ v : Nat, v ≤ 2 ^ 40 → (Option.bind (strings_HasPrefix N P [45]) fun y9 => if y9 = true then some (wr .i64 (0 - wr .i64 (v : Int))) else some (wr .i64 (v : Int))) = some (if Bz [45] P = true then -(v : Int) else (v : Int)) := by
      intro v hv
      rw [AHo, Option.bind_some, A8 (n := (v : Int)) (by omega), A8 (n := 0 - (v : Int)) (by omega)]
      split <;> simp
    rw [AO]
    by_cases hv : GL 0 D ≤ 2 ^ 40
    · rw [if_pos hv, Nat.min_eq_left hv]
      exact key _ hv
    · rw [if_neg hv, Nat.min_eq_right (by omega)]
      exact key _ (Nat.le_refl _)
theorem Nf (k19 : Int → Option Int) : ∀ (l : List UInt8) (n : Nat), l.all Cq = true → n ≤ 2 ^ 30 → Bi N k19 l (n : Int) = k19 ((min (GL n l) (2 ^ 30) : Nat) : Int)
  | [], n, _, hn => by rw [Bi, GL, Nat.min_eq_left hn]
  | c :: l, n, h, hn => by
    simp only [List.all_cons, Bool.and_eq_true] at h
    have hd := Iw h.1
    rw [Bi, GL]
    have w0 : wr .u8 (AP c - 48) = ((Ef c.toNat : Nat) : Int) := by rw [AIC (by simp only [AP]; omega)]; rw [(PT h.1).2]; simp only [AP]; omega
    have hd9 : Ef c.toNat ≤ 9 := by rw [(PT h.1).2]; omega
    rw [w0, A8 (n := (n : Int) * 10) (by omega), A8 (n := ((Ef c.toNat : Nat) : Int)) (by omega), A8 (by omega)]
    have e : (n : Int) * 10 + ((Ef c.toNat : Nat) : Int) = ((n * 10 + Ef c.toNat : Nat) : Int) := by simp
    rw [e]
    have hge := MX l (n * 10 + Ef c.toNat)
    by_cases c1 : (1073741824 : Int) < ((n * 10 + Ef c.toNat : Nat) : Int)
    · rw [if_pos c1, show (1073741824 : Int) = ((2 ^ 30 : Nat) : Int) from rfl, Nf k19 l (2 ^ 30) h.2 (Nat.le_refl _)]
      have := MX l (2 ^ 30)
      rw [Nat.min_eq_right this, Nat.min_eq_right (by omega)]
    · rw [if_neg c1, Nf k19 l _ h.2 (by omega)]
theorem AHB {P : List UInt8} (h : AAf P) (hb : P.length ≤ 2 ^ 60) : Fg N P = some (Ip (2 ^ 30) P) := by
  obtain ⟨h1, h2⟩ := Rn h
  unfold Fg
  refine (BQ (a := Bz [45] P) fun k2 => ?_).trans ?_
  · cases P with
    | nil => rfl
    | cons c P => rw [if_neg (by simp), show idx (c :: P) 0 = some c from rfl, Option.bind_some, AEx]; rfl
  try dsimp only
  refine (BQ (a := P.dropWhile ([43, 45] : List UInt8).contains) fun k7 => (BQ (a := Bz [43, 45] P) fun k11 => ?_).trans ?_).trans ?_
  · cases P with
    | nil => rfl
    | cons c P =>
      show (if (c :: P == ([] : List UInt8)) = true then k11 false else Option.bind (idx (c :: P) 0) fun x14 => Option.bind (Gt N (AP x14) [43, 45]) fun y15 => k11 y15) = _
      rw [if_neg (by simp), show idx (c :: P) 0 = some c from rfl, Option.bind_some, Ua _ _ (by decide), Option.bind_some]; rfl
  · try dsimp only
    rcases h with rfl | ⟨sn, D, rfl, hs, hD, hd⟩
    · rfl
    · have hdd := Ml hd
      rcases hs with rfl | rfl | rfl
      · cases D with
        | nil => exact absurd rfl hD
        | cons c D =>
          simp only [List.all_cons, Bool.and_eq_true] at hd
          rw [List.nil_append, hdd, if_neg (by show ¬ ([43, 45] : List UInt8).contains c = true; rw [AAg hd.1]; simp)]
      · have e : ([43] ++ D).dropWhile ([43, 45] : List UInt8).contains = D := by
          show (43 :: D).dropWhile _ = D
          rw [List.dropWhile_cons, show ([43, 45] : List UInt8).contains 43 = true from rfl, if_pos rfl]; exact hdd
        rw [e, if_pos (by rfl)]
        exact (congrArg (fun x => Option.bind x k7) (Ib 43 D)).trans rfl
      · have e : ([45] ++ D).dropWhile ([43, 45] : List UInt8).contains = D := by
          show (45 :: D).dropWhile _ = D
          rw [List.dropWhile_cons, show ([43, 45] : List UInt8).contains 45 = true from rfl, if_pos rfl]; exact hdd
        rw [e, if_pos (by rfl)]
        exact (congrArg (fun x => Option.bind x k7) (Ib 45 D)).trans rfl
  try dsimp only
  have hl := (List.dropWhile_sublist ([43, 45] : List UInt8).contains (l := P)).length_le
  unfold Ip
  generalize hD : P.dropWhile ([43, 45] : List UInt8).contains = D at *
  rw [AO, AL (by unfold Ac; omega), show (0 : Int) = ((0 : Nat) : Int) from rfl, Nf _ D 0 h1 (by omega)]
  have : min (GL 0 D) (2 ^ 30) ≤ 2 ^ 30 := Nat.min_le_right _ _
  rw [A8 (by omega)]
  split <;> simp
def AJy (y : Int) : List UInt8 := if y < 0 then [101, 45] ++ fmtS (-y).toNat else if y > 0 then [101] ++ fmtS y.toNat else []
def Ij (sg m : List UInt8) (x : Int) : List UInt8 × Int :=
  let m1 := m.dropWhile (· == 48)
  let sh := Gy (· == 48) m1
  if sh = [] then ([48], 0)
  else if sh.length > 40 ∨ x + m1.length - sh.length < -400 ∨ x + m1.length - sh.length > 400 then ([], 144)
  else (sg ++ sh ++ AJy (x + m1.length - sh.length), 0)
theorem PN {y : Int} (h : 0 ≤ y) (h2 : y ≤ 2 ^ 60) : wr .u64 y = ((y.toNat : Nat) : Int) := by rw [H9 (by omega)]; omega
theorem Sz {l : List UInt8} (h : l.all Cq = true) : l.map Ja = l := by
  induction l with
  | nil => rfl
  | cons c l ih =>
    simp only [List.all_cons, Bool.and_eq_true] at h
    have := Iw h.1
    rw [List.map_cons, ih h.2]
    congr 1
    unfold Ja AGX; rw [if_neg (by omega)]; simp
theorem Td {c : UInt8} {a b : List UInt8} (h : a.contains c = false) : Q7 c (a ++ c :: b) = (a, b, true) := by
  have h1 : ∀ a : List UInt8, a.contains c = false → (a ++ c :: b).takeWhile (· != c) = a ∧ (a ++ c :: b).dropWhile (· != c) = c :: b := by
    intro a
    induction a with
    | nil => intro _; simp
    | cons x a ih =>
      intro h
      rw [List.contains_cons, Bool.or_eq_false_iff] at h
      have hx : (x != c) = true := by
        have : c ≠ x := by simpa using h.1
        simpa using fun e : x = c => this e.symm
      obtain ⟨i1, i2⟩ := ih h.2
      rw [List.cons_append, List.takeWhile_cons, List.dropWhile_cons, hx, i1, i2]
      exact ⟨rfl, rfl⟩
  unfold Q7
  rw [if_pos (by simp), (h1 a h).1, (h1 a h).2]; rfl
theorem AAh {c : UInt8} {a : List UInt8} (h : a.contains c = false) : Q7 c a = (a, [], false) := by
  unfold Q7; rw [if_neg (by rw [h]; simp)]
theorem Su {c : UInt8} {a b : List UInt8} : (a ++ b).contains c = (a.contains c || b.contains c) := by
  simp [List.contains_eq_any_beq, List.any_append]
theorem AAi {P : List UInt8} (h : AAf P) : P.map Ja = P := by
  rcases h with rfl | ⟨sn, D, rfl, hs, hD, hd⟩
  · rfl
  · rw [List.map_append, Sz hd]
    rcases hs with rfl | rfl | rfl <;> rfl
section
variable {s sg W F FR P EX : List UInt8}
theorem NumP.len (h : NumP s sg W F FR P EX) : s.length = sg.length + (W.length + (FR.length + EX.length)) ∧ F.length ≤ FR.length ∧ P.length ≤ EX.length := by
  refine ⟨by rw [h.eq]; simp, ?_, ?_⟩
  · rcases h.fr with ⟨e1, e2⟩ | e
    · rw [e2]; simp
    · rw [e]; simp
  · rcases h.ex with ⟨e1, e2⟩ | e | e
    · rw [e2]; simp
    · rw [e]; simp
    · rw [e]; simp
theorem NumP.not_e (h : NumP s sg W F FR P EX) (k : UInt8) (hk : Cq k = false) (h46 : k ≠ 46) : (W ++ FR).contains k = false := by
  rw [Su, PE hk h.Wd, Bool.false_or]
  rcases h.fr with ⟨e1, e2⟩ | e
  · rw [e1]; rfl
  · rw [e, List.contains_cons, PE hk h.Fd, Bool.or_false]
    simpa using h46
theorem AG3 (h : NumP s sg W F FR P EX) (hn : Ck s = s.length) (hb : s.length ≤ 2 ^ 48) (hN : s.length + 30 < N) : Bd N s = some (Ij sg (W ++ F) (Ip (2 ^ 40) P - F.length)) := by
  obtain ⟨l1, l2, l3⟩ := h.len
  have hne : s ≠ [] := by
    rw [h.eq]
    have := h.Wn
    intro e
    have := List.append_eq_nil_iff.1 e
    have := List.append_eq_nil_iff.1 this.2
    exact h.Wn this.1
  have hpos : s.length ≠ 0 := fun e => hne (List.length_eq_zero_iff.1 e)
  unfold Bd
  have hp := Lr (N := N) (l := s) (t := s) (i := 0) (by simp) (by omega) (by omega)
  rw [if_neg (by rw [hn]; exact hpos)] at hp
  have hp' : BF N (TokenReader.mk s 0) = some (s.take (Ck s), true, (⟨s, ((0 + Ck s : Nat) : Int)⟩ : TokenReader)) := hp
  rw [hp', Option.bind_some]
  refine (BQ (a := false) fun k4 => ?_).trans ?_
  · rw [if_pos rfl, hn, List.take_of_length_le (Nat.le_refl _)]; simp
  try dsimp only
  rw [if_neg (by decide)]
  have hhead : ∀ k7 : List UInt8 × List UInt8 → Option (List UInt8 × Int), (Option.bind (idx s 0) fun x11 => if (AP x11 == 45) = true then Option.bind (sub s 1 (s.length : Int)) fun x12 => k7 ([45], x12) else k7 ([], s)) = k7 (sg, W ++ (FR ++ EX)) := by
    intro k7
    rcases h.sg with e | e
    · have hs : s = W ++ (FR ++ EX) := by rw [h.eq, e]; rfl
      cases hW : W with
      | nil => exact absurd hW h.Wn
      | cons c W' =>
        have hc : Cq c = true := by
          have := h.Wd
          rw [hW, List.all_cons, Bool.and_eq_true] at this
          exact this.1
        have hs2 : s = c :: (W' ++ (FR ++ EX)) := by rw [hs, hW]; rfl
        rw [hs2, show idx (c :: (W' ++ (FR ++ EX))) 0 = some c from rfl, Option.bind_some, AEx, MC]
        have := Iw hc
        have : ¬ c.toNat = (45 : UInt8).toNat := by show ¬ c.toNat = 45; omega
        rw [if_neg (by simpa using this), e]; rfl
    · have hs2 : s = 45 :: (W ++ (FR ++ EX)) := by rw [h.eq, e]; rfl
      rw [hs2, show idx (45 :: (W ++ (FR ++ EX))) 0 = some 45 from rfl, Option.bind_some, if_pos (by rfl), Ib, Option.bind_some, e]
  refine (BQ (a := (sg, W ++ (FR ++ EX))) fun k8 => hhead k8).trans ?_
  try dsimp only
  rw [lower_eq _ (by simp; omega), Option.bind_some]
  have hWF : (W ++ FR).map Ja = W ++ FR := by
    rw [List.map_append, Sz h.Wd]
    rcases h.fr with ⟨e1, e2⟩ | e
    · rw [e1]; rfl
    · rw [e, List.map_cons, Sz h.Fd]; rfl
  have hlow : Q7 101 ((W ++ (FR ++ EX)).map Ja) = (W ++ FR, P, (Q7 101 ((W ++ (FR ++ EX)).map Ja)).2.2) := by
    rw [← List.append_assoc, List.map_append, hWF]
    have hc := h.not_e 101 (by decide) (by decide)
    rcases h.ex with ⟨e1, e2⟩ | e | e
    · rw [e1, e2, List.map_nil, List.append_nil, AAh hc]
    · rw [e, List.map_cons, AAi h.pw, show Ja 101 = 101 from rfl, Td hc]
    · rw [e, List.map_cons, AAi h.pw, show Ja 69 = 101 from rfl, Td hc]
  rw [AEu 101 _ (by simp; omega), Option.bind_some, hlow]
  try dsimp only
  have hcut2 : Q7 46 (W ++ FR) = (W, F, (Q7 46 (W ++ FR)).2.2) := by
    have hc := PE (k := 46) (by decide) h.Wd
    rcases h.fr with ⟨e1, e2⟩ | e
    · rw [e1, e2, List.append_nil, AAh hc]
    · rw [e, Td hc]
  rw [AEu 46 _ (by simp; omega), Option.bind_some, hcut2]
  try dsimp only
  rw [AL (by unfold Ac; omega), AEO 48 (W ++ F) (by decide) (by simp; omega), Option.bind_some]
  have hml := (List.dropWhile_sublist (fun x : UInt8 => x == 48) (l := W ++ F)).length_le
  rw [List.length_append] at hml
  have htl := Qn (fun x : UInt8 => x == 48) ((W ++ F).dropWhile (fun x : UInt8 => x == 48))
  rw [AFn 48 _ (by decide) (by omega) (by omega), Option.bind_some]
  unfold Ij
  dsimp only
  generalize hm1 : (W ++ F).dropWhile (fun x : UInt8 => x == 48) = m1 at *
  generalize hsh : Gy (fun x : UInt8 => x == 48) m1 = sh at *
  try dsimp only
  by_cases hz : sh = []
  · rw [if_pos (by simpa using hz), if_pos hz]
  rw [if_neg (by simpa using hz), if_neg hz, AGk h.pw (by omega) (by omega), Option.bind_some]
  have hev : -(2 ^ 40 : Int) ≤ Ip (2 ^ 40) P ∧ Ip (2 ^ 40) P ≤ (2 ^ 40 : Int) := by
    unfold Ip
    have : min (GL 0 (P.dropWhile ([43, 45] : List UInt8).contains)) (2 ^ 40) ≤ 2 ^ 40 := Nat.min_le_right _ _
    split <;> omega
  generalize Ip (2 ^ 40) P = x at *
  have hw : wr .i64 (wr .i64 (wr .i64 (x - (F.length : Int)) + (m1.length : Int)) - (sh.length : Int)) = x - (F.length : Int) + (m1.length : Int) - (sh.length : Int) := by
    rw [A8 (n := x - (F.length : Int)) (by omega), A8 (n := x - (F.length : Int) + (m1.length : Int)) (by omega), A8 (by omega)]
  rw [hw]
  generalize hy : x - (F.length : Int) + (m1.length : Int) - (sh.length : Int) = y at *
  have hsg : sg.length ≤ 1 := by rcases h.sg with e | e <;> rw [e] <;> simp
  refine (BQ (a := decide (sh.length > 40 ∨ y < -400 ∨ y > 400)) fun k26 => ?_).trans ?_
  · by_cases c1 : (sh.length : Int) > 40
    · rw [if_pos (decide_eq_true c1), decide_eq_true (.inl (by omega))]
    · rw [if_neg (by simpa using c1)]
      by_cases c2 : y < -400
      · rw [if_pos (decide_eq_true c2), decide_eq_true (.inr (.inl c2))]
      · rw [if_neg (by simpa using c2)]
        congr 1
        simp only [eq_iff_iff, decide_eq_decide]; omega
  try dsimp only
  by_cases hc : sh.length > 40 ∨ y < -400 ∨ y > 400
  · rw [if_pos (decide_eq_true hc), if_pos hc]
  rw [if_neg (by simpa using hc), if_neg hc]
  have hc' : ¬ (sh.length > 40) ∧ ¬ y < -400 ∧ ¬ y > 400 := ⟨fun h => hc (.inl h), fun h => hc (.inr (.inl h)), fun h => hc (.inr (.inr h))⟩
  have hf := V5
  unfold AJy
  by_cases c1 : y < 0
  · rw [if_pos (decide_eq_true c1), if_pos c1, AL (by unfold Ac; omega), AL (by unfold Ac; simp; omega), A8 (by omega), PN (by omega) (by omega), PZ _ (by omega) (by omega), Option.bind_some]
    have := hf (0 - y).toNat
    have := hf (-y).toNat
    rw [AL (by unfold Ac; simp; omega), show (0 - y).toNat = (-y).toNat by omega]
    simp
  · rw [if_neg (by simpa using c1), if_neg c1]
    by_cases c2 : y > 0
    · have := hf y.toNat
      rw [if_pos (decide_eq_true c2), if_pos c2, AL (by unfold Ac; omega), AL (by unfold Ac; simp; omega), PN (by omega) (by omega), PZ _ (by omega) (by omega), Option.bind_some, AL (by unfold Ac; simp; omega)]
      simp
    · rw [if_neg (by simpa using c2), if_neg c2, AL (by unfold Ac; omega)]
      simp
end
end
end Go.VM
namespace Go.VM
section
variable {N : Nat}
theorem AAR (k29 : List UInt8 → Option (List UInt8 × Int)) : ∀ (l : List UInt8) (k : Nat), l.length < k → C8 N k29 k l = k29 (l.dropWhile (· == 48))
  | [], k + 1, _ => by rw [C8, AO]; rfl
  | x :: l, k + 1, h => by
    simp only [List.length_cons] at h
    rw [C8, AO, if_pos (by simp <;> omega), show idx (x :: l) 0 = some x from rfl, Option.bind_some, List.dropWhile_cons]
    try dsimp only
    rw [show (AP x == 48) = (x == 48) from MK x 48]
    cases x == 48
    · rfl
    · rw [if_pos rfl, Ib, Option.bind_some, AAR k29 l k (by omega)]; rfl
theorem AAe (k40 : Int × List UInt8 → Option (List UInt8 × Int)) : ∀ (n : Nat) (l : List UInt8) (x : Int), l.length = n → n ≤ 2 ^ 50 → (∃ c r, l = c :: r ∧ (c == 48) = false) → -(2 ^ 60) ≤ x → x + n ≤ 2 ^ 60 → ∀ k : Nat, n < k → Dj N k40 k x l = k40 (x + l.length - (Gy (· == 48) l).length, Gy (· == 48) l)
  | 0, l, x, hl, hb, ⟨c, r, e, hc⟩, h1, h3, k, hk => by rw [e] at hl; simp at hl
  | n + 1, l, x, hl, hb, hh, h1, h3, 0, hk => by omega
  | n + 1, l, x, hl, hb, hh, h1, h3, k + 1, hk => by
    obtain ⟨l', y, rfl⟩ : ∃ l' y, l = l' ++ [y] := by
      have hne : l ≠ [] := fun e => by subst e; simp at hl
      exact ⟨l.dropLast, l.getLast hne, (List.dropLast_concat_getLast hne).symm⟩
    have hl' : l'.length = n := by simpa using hl
    rw [Dj, YX l' y (by omega), Option.bind_some, Ls, show (AP y == 48) = (y == 48) from MK y 48]
    by_cases hy : (y == 48) = true
    · rw [if_pos hy, if_pos hy, YD l' y (by omega), Option.bind_some, A8 (by omega)]
      have hh' : ∃ c r, l' = c :: r ∧ (c == 48) = false := by
        obtain ⟨c, r, e, hc⟩ := hh
        cases l' with
        | nil =>
          simp only [List.nil_append, List.cons.injEq] at e
          rw [e.1, hc] at hy; cases hy
        | cons a l' =>
          simp only [List.cons_append, List.cons.injEq] at e
          exact ⟨a, l', rfl, by rw [e.1]; exact hc⟩
      rw [AAe k40 n l' (x + 1) hl' (by omega) hh' (by omega) (by omega) k (by omega)]
      congr 2
      simp only [List.length_append, List.length_cons, List.length_nil]; omega
    · rw [if_neg hy, if_neg hy]
      congr 2; omega
theorem Oe (set : List UInt8) (hs : set.length ≤ 1000) (k2 : Unit → Option Int) (n : Int) (h : k2 () = some n) : ∀ (l : List UInt8) (i : Nat), ((i + l.length : Nat) : Int) = n → Ci N set k2 l (i : Int) = some ((i + (l.takeWhile fun c => !set.contains c).length : Nat) : Int)
  | [], i, hn => by rw [Ci, h, ← hn]; simp
  | c :: l, i, hn => by
    rw [Ci, Ua _ _ hs, Option.bind_some, List.takeWhile_cons]
    cases hc : set.contains c
    · simp only [List.length_cons] at hn
      rw [if_neg (by decide), show (i : Int) + 1 = ((i + 1 : Nat) : Int) by simp, Oe set hs k2 n h l (i + 1) (by rw [← hn]; congr 1; omega)]
      simp only [Bool.not_false, if_true, List.length_cons]; congr 2; omega
    · simp
theorem Rh (l set : List UInt8) (hs : set.length ≤ 1000) (hb : l.length ≤ 2 ^ 60) : GV N l set = some (((l.takeWhile fun c => !set.contains c).length : Nat) : Int) := by
  unfold GV
  rw [AO, AL (by unfold Ac; omega), show (0 : Int) = ((0 : Nat) : Int) from rfl, Oe set hs _ _ rfl l 0 (by simp)]
  simp
theorem NJ {p : UInt8 → Bool} : ∀ {a b : List UInt8}, (∀ c ∈ a, p c = true) → (b = [] ∨ ∃ c r, b = c :: r ∧ p c = false) → (a ++ b).takeWhile p = a
  | [], b, _, hb => by
    rcases hb with rfl | ⟨c, r, rfl, hc⟩
    · rfl
    · rw [List.nil_append, List.takeWhile_cons, hc]; rfl
  | x :: a, b, ha, hb => by
    rw [List.cons_append, List.takeWhile_cons, ha x (by simp), if_pos rfl, NJ (fun c hc => ha c (by simp [hc])) hb]
section
variable {s sg W F FR P EX : List UInt8}
theorem UD {l : List UInt8} (h : l.all Cq = true) : ∀ c ∈ l, Cq c = true := by simpa using h
theorem AAl {c : UInt8} (h : Cq c = true) : ([101, 69] : List UInt8).contains c = false := by
  have := EA (f := fun n => if (decide (48 ≤ n) && decide (n ≤ 57)) = true then ([101, 69] : List UInt8).contains (UInt8.ofNat n) else false) (g := fun _ => false) (by kernel_rfl) c
  simp only [UInt8.ofNat_toNat, show (decide (48 ≤ c.toNat) && decide (c.toNat ≤ 57)) = true from h, if_true] at this
  exact this
theorem AGU {c : UInt8} (h : Cq c = true) : ([46] : List UInt8).contains c = false := by
  rw [MC]
  have := Iw h
  have : ¬ c.toNat = (46 : UInt8).toNat := by show ¬ c.toNat = 46; omega
  simpa using this
theorem AHz (h : NumP s sg W F FR P EX) (hn : Ck s = s.length) (hb : s.length ≤ 2 ^ 48) (hN : s.length + 30 < N) : Du N s = some (Ij sg (W ++ F) (Ip (2 ^ 30) P - F.length)) := by
  obtain ⟨l1, l2, l3⟩ := h.len
  have hne : s ≠ [] := by
    rw [h.eq]
    intro e
    have := List.append_eq_nil_iff.1 e
    have := List.append_eq_nil_iff.1 this.2
    exact h.Wn this.1
  unfold Du
  refine (BQ (a := false) fun k2 => ?_).trans ?_
  · rw [if_neg (by simpa using hne), Oh s (by omega) (by omega), Option.bind_some, hn]; simp
  try dsimp only
  rw [if_neg (by decide)]
  have hhead : ∀ k8 : List UInt8 × List UInt8 → Option (List UInt8 × Int), (Option.bind (idx s 0) fun x11 => if (AP x11 == 45) = true then Option.bind (sub s 1 (s.length : Int)) fun x12 => k8 (x12, [45]) else k8 (s, [])) = k8 (W ++ (FR ++ EX), sg) := by
    intro k7
    rcases h.sg with e | e
    · have hs : s = W ++ (FR ++ EX) := by rw [h.eq, e]; rfl
      cases hW : W with
      | nil => exact absurd hW h.Wn
      | cons c W' =>
        have hc : Cq c = true := by
          have := h.Wd
          rw [hW, List.all_cons, Bool.and_eq_true] at this
          exact this.1
        have hs2 : s = c :: (W' ++ (FR ++ EX)) := by rw [hs, hW]; rfl
        rw [hs2, show idx (c :: (W' ++ (FR ++ EX))) 0 = some c from rfl, Option.bind_some, AEx, MC]
        have := Iw hc
        have : ¬ c.toNat = (45 : UInt8).toNat := by show ¬ c.toNat = 45; omega
        rw [if_neg (by simpa using this), e]; rfl
    · have hs2 : s = 45 :: (W ++ (FR ++ EX)) := by rw [h.eq, e]; rfl
      rw [hs2, show idx (45 :: (W ++ (FR ++ EX))) 0 = some 45 from rfl, Option.bind_some, if_pos (by rfl), Ib, Option.bind_some, e]
  refine (BQ (a := (W ++ (FR ++ EX), sg)) fun k8 => hhead k8).trans ?_
  try dsimp only
  have hWF : (W ++ (FR ++ EX)).takeWhile (fun c => !([101, 69] : List UInt8).contains c) = W ++ FR := by
    rw [← List.append_assoc]
    refine NJ (fun c hc => ?_) ?_
    · rcases List.mem_append.1 hc with hc | hc
      · rw [AAl (UD h.Wd c hc)]; rfl
      · rcases h.fr with ⟨e1, e2⟩ | e
        · rw [e1] at hc; cases hc
        · rw [e] at hc
          rcases List.mem_cons.1 hc with rfl | hc
          · rfl
          · rw [AAl (UD h.Fd c hc)]; rfl
    · rcases h.ex with ⟨e1, e2⟩ | e | e
      · exact .inl e1
      · exact .inr ⟨_, _, e, rfl⟩
      · exact .inr ⟨_, _, e, rfl⟩
  have hlen : (W ++ (FR ++ EX)).length = (W ++ FR).length + EX.length := by simp only [List.length_append]; omega
  rw [Rh _ _ (by decide) (by simp; omega), Option.bind_some, hWF, A8 (by simp; omega), show (((W ++ FR).length : Nat) : Int) + 1 = (((W ++ FR).length + 1 : Nat) : Int) by simp, Pv, Option.bind_some]
  have hP : (W ++ (FR ++ EX)).drop ((W ++ FR).length + 1) = P := by
    rw [← List.append_assoc, List.drop_append, List.drop_of_length_le (by omega), List.nil_append, Nat.add_sub_cancel_left]
    rcases h.ex with ⟨e1, e2⟩ | e | e
    · rw [e1, e2]; rfl
    · rw [e]; rfl
    · rw [e]; rfl
  rw [hP, AHB h.pw (by omega), Option.bind_some]
  have hsub : sub (W ++ (FR ++ EX)) 0 (((W ++ FR).length : Nat) : Int) = some (W ++ FR) := by
    rw [show (0 : Int) = ((0 : Nat) : Int) from rfl, Df _ 0 _ (by omega) (by omega), ← List.append_assoc]
    simp only [List.drop_zero, Nat.sub_zero, List.take_left]
  rw [hsub, Option.bind_some]
  have hev : -(2 ^ 30 : Int) ≤ Ip (2 ^ 30) P ∧ Ip (2 ^ 30) P ≤ (2 ^ 30 : Int) := by
    unfold Ip
    have : min (GL 0 (P.dropWhile ([43, 45] : List UInt8).contains)) (2 ^ 30) ≤ 2 ^ 30 := Nat.min_le_right _ _
    split <;> omega
  generalize Ip (2 ^ 30) P = x at *
  have hdot : (W ++ FR).takeWhile (fun c => !([46] : List UInt8).contains c) = W := by
    refine NJ (fun c hc => ?_) ?_
    · rw [AGU (UD h.Wd c hc)]; rfl
    · rcases h.fr with ⟨e1, e2⟩ | e
      · exact .inl e1
      · exact .inr ⟨_, _, e, rfl⟩
  refine (BQ (a := (x - (F.length : Int), W ++ F)) fun k21 => ?_).trans ?_
  · rw [Rh _ _ (by decide) (by simp; omega), Option.bind_some, hdot]
    rcases h.fr with ⟨e1, e2⟩ | e
    · rw [e1, e2, List.append_nil, if_neg (by simp)]; simp
    · have hfl : FR.length = F.length + 1 := by rw [e]; simp
      have w1 : wr .i64 ((W.length : Int) + 1) = ((W.length + 1 : Nat) : Int) := by rw [A8 (by omega)]; simp
      have s1 : sub (W ++ FR) 0 (W.length : Int) = some W := by
        rw [show (0 : Int) = ((0 : Nat) : Int) from rfl, Df _ 0 _ (by omega) (by simp)]; simp only [List.drop_zero, Nat.sub_zero, List.take_left]
      have s2 : sub (W ++ FR) ((W.length + 1 : Nat) : Int) (((W ++ FR).length : Nat) : Int) = some F := by
        rw [Df _ _ _ (by simp; omega) (Nat.le_refl _), List.take_of_length_le (by simp <;> omega), List.drop_append, List.drop_of_length_le (by omega), List.nil_append, Nat.add_sub_cancel_left, e]; rfl
      rw [if_pos (by simp; omega), s1, Option.bind_some, w1, s2, Option.bind_some, AL (by unfold Ac; omega)]
      have w2 : wr .i64 (x - wr .i64 (wr .i64 ((((W ++ FR).length : Nat) : Int) - (W.length : Int)) - 1)) = x - (F.length : Int) := by
        rw [List.length_append, A8 (n := ((W.length + FR.length : Nat) : Int) - (W.length : Int)) (by omega), A8 (n := ((W.length + FR.length : Nat) : Int) - (W.length : Int) - 1) (by omega), A8 (by omega)]
        omega
      rw [w2]
  try dsimp only
  have hml := (List.dropWhile_sublist (fun x : UInt8 => x == 48) (l := W ++ F)).length_le
  rw [List.length_append] at hml
  refine (BQ (a := (W ++ F).dropWhile (· == 48)) fun k29 => AAR k29 (W ++ F) N (by simp; omega)).trans ?_
  try dsimp only
  have hhd : (W ++ F).dropWhile (fun x : UInt8 => x == 48) = [] ∨ ∃ c r, (W ++ F).dropWhile (fun x : UInt8 => x == 48) = c :: r ∧ (c == 48) = false := by
    generalize W ++ F = l
    induction l with
    | nil => exact .inl rfl
    | cons c l ih =>
      rw [List.dropWhile_cons]
      cases hc : (c == 48)
      · exact .inr ⟨c, l, rfl, hc⟩
      · exact ih
  have htl := Qn (fun x : UInt8 => x == 48) ((W ++ F).dropWhile (fun x : UInt8 => x == 48))
  unfold Ij
  dsimp only
  generalize hm1 : (W ++ F).dropWhile (fun x : UInt8 => x == 48) = m1 at *
  by_cases hz : m1 = []
  · subst hz; rfl
  have hhd' : ∃ c r, m1 = c :: r ∧ (c == 48) = false := by
    rcases hhd with e | e
    · exact absurd e hz
    · exact e
  have hsz : Gy (fun x : UInt8 => x == 48) m1 ≠ [] := by
    obtain ⟨c, r, rfl, hc⟩ := hhd'
    have key : ∀ (n : Nat) (r : List UInt8), r.length = n → Gy (fun x : UInt8 => x == 48) (c :: r) ≠ [] := by
      intro n
      induction n with
      | zero =>
        intro r hr
        have : r = [] := List.length_eq_zero_iff.1 hr
        subst this
        unfold Gy; simp [hc]
      | succ n ih =>
        intro r hr
        obtain ⟨r', y, rfl⟩ : ∃ l' y, r = l' ++ [y] := by
          have hne : r ≠ [] := fun e => by subst e; simp at hr
          exact ⟨r.dropLast, r.getLast hne, (List.dropLast_concat_getLast hne).symm⟩
        rw [← List.cons_append, Ls]
        split
        · exact ih r' (by simpa using hr)
        · simp
    exact key _ r rfl
  rw [if_neg (by simpa using hz), if_neg hsz]
  refine (BQ (a := (x - (F.length : Int) + (m1.length : Int) - ((Gy (fun x : UInt8 => x == 48) m1).length : Int), Gy (fun x : UInt8 => x == 48) m1)) fun k40 => AAe k40 m1.length m1 _ rfl (by omega) hhd' (by omega) (by omega) N (by omega)).trans ?_
  try dsimp only
  generalize hsh : Gy (fun x : UInt8 => x == 48) m1 = sh at *
  generalize hy : x - (F.length : Int) + (m1.length : Int) - (sh.length : Int) = y at *
  have hsg : sg.length ≤ 1 := by rcases h.sg with e | e <;> rw [e] <;> simp
  refine (BQ (a := decide (sh.length > 40 ∨ y < -400 ∨ y > 400)) fun k26 => ?_).trans ?_
  · by_cases c1 : (sh.length : Int) > 40
    · rw [if_pos (decide_eq_true c1), decide_eq_true (.inl (by omega))]
    · rw [if_neg (by simpa using c1)]
      by_cases c2 : y > 400
      · rw [if_pos (decide_eq_true c2), decide_eq_true (.inr (.inr c2))]
      · rw [if_neg (by simpa using c2)]
        congr 1
        simp only [eq_iff_iff, decide_eq_decide]; omega
  try dsimp only
  by_cases hc : sh.length > 40 ∨ y < -400 ∨ y > 400
  · rw [if_pos (decide_eq_true hc), if_pos hc]
  rw [if_neg (by simpa using hc), if_neg hc]
  have hc' : ¬ (sh.length > 40) ∧ ¬ y < -400 ∧ ¬ y > 400 := ⟨fun h => hc (.inl h), fun h => hc (.inr (.inl h)), fun h => hc (.inr (.inr h))⟩
  have hf := V5
  unfold AJy
  by_cases c1 : y < 0
  · rw [if_pos (decide_eq_true c1), if_pos c1, AL (by unfold Ac; omega), AL (by unfold Ac; simp; omega), A8 (by omega), PN (by omega) (by omega), Ph _ (by omega) (by omega), Option.bind_some]
    have := hf (0 - y).toNat
    have := hf (-y).toNat
    rw [AL (by unfold Ac; simp; omega), show (0 - y).toNat = (-y).toNat by omega]
    simp
  · rw [if_neg (by simpa using c1), if_neg c1]
    by_cases c2 : y > 0
    · have := hf y.toNat
      rw [if_pos (decide_eq_true c2), if_pos c2, AL (by unfold Ac; omega), AL (by unfold Ac; simp; omega), PN (by omega) (by omega), Ph _ (by omega) (by omega), Option.bind_some, AL (by unfold Ac; simp; omega)]
      simp
    · rw [if_neg (by simpa using c2), if_neg c2, AL (by unfold Ac; omega)]
      simp
end
theorem AFD (s : List UInt8) (hn : s = [] ∨ Ck s ≠ s.length) (hb : s.length ≤ 2 ^ 48) : Bd N s = some ([], 130) := by
  unfold Bd
  have hp := Lr (N := N) (l := s) (t := s) (i := 0) (by simp) (by omega) (by omega)
  by_cases hz : Ck s = 0
  · rw [if_pos hz] at hp
    obtain ⟨q, hq⟩ := hp
    have hq' : BF N (TokenReader.mk s 0) = some ([], false, q) := hq
    rw [hq', Option.bind_some]; rfl
  · rw [if_neg hz] at hp
    have hp' : BF N (TokenReader.mk s 0) = some (s.take (Ck s), true, (⟨s, ((0 + Ck s : Nat) : Int)⟩ : TokenReader)) := hp
    rw [hp', Option.bind_some]
    refine (BQ (a := true) fun k4 => ?_).trans rfl
    have hle := AAd s
    have hne : Ck s ≠ s.length := by
      rcases hn with rfl | h
      · exact absurd rfl hz
      · exact h
    rw [if_pos rfl, List.length_take, Nat.min_eq_left hle]
    congr 1
    simp only [bne_iff_ne, ne_eq]; omega
theorem AFY (s : List UInt8) (hn : s = [] ∨ Ck s ≠ s.length) (hb : s.length ≤ 2 ^ 48) (hN : s.length + 30 < N) : Du N s = some ([], 130) := by
  unfold Du
  refine (BQ (a := true) fun k2 => ?_).trans rfl
  by_cases h : s = []
  · subst h; rfl
  · have hne : Ck s ≠ s.length := by
      rcases hn with e | e
      · exact absurd e h
      · exact e
    rw [if_neg (by simpa using h), Oh s (by omega) (by omega), Option.bind_some]
    congr 1
    simp only [bne_iff_ne, ne_eq]; omega
end
end Go.VM
namespace Go.VM
theorem P5 {p : UInt8 → Bool} (l : List UInt8) : (l.dropWhile p).length ≤ l.length := (List.dropWhile_sublist p (l := l)).length_le
theorem VZ {sg m : List UInt8} {x y : Int} (hm : m.length ≤ 2000000) (h : x = y ∨ (100000000 ≤ x ∧ 100000000 ≤ y) ∨ (x ≤ -100000000 ∧ y ≤ -100000000)) : Ij sg m x = Ij sg m y := by
  unfold Ij
  dsimp only
  have h1 := P5 (p := fun x : UInt8 => x == 48) m
  have h2 := Qn (fun x : UInt8 => x == 48) (m.dropWhile (fun x : UInt8 => x == 48))
  generalize m.dropWhile (fun x : UInt8 => x == 48) = m1 at *
  generalize Gy (fun x : UInt8 => x == 48) m1 = sh at *
  by_cases hz : sh = []
  · rw [if_pos hz, if_pos hz]
  · rw [if_neg hz, if_neg hz]
    rcases h with rfl | ⟨ha, hb⟩ | ⟨ha, hb⟩
    · rfl
    · rw [if_pos (.inr (.inr (by omega))), if_pos (.inr (.inr (by omega)))]
    · rw [if_pos (.inr (.inl (by omega))), if_pos (.inr (.inl (by omega)))]
theorem ACI (P : List UInt8) (f : Nat) (hf : f ≤ 2000000) : Ip (2 ^ 40) P - f = Ip (2 ^ 30) P - f ∨ (100000000 ≤ Ip (2 ^ 40) P - f ∧ 100000000 ≤ Ip (2 ^ 30) P - f) ∨ (Ip (2 ^ 40) P - f ≤ -100000000 ∧ Ip (2 ^ 30) P - f ≤ -100000000) := by
  unfold Ip
  generalize GL 0 (P.dropWhile ([43, 45] : List UInt8).contains) = v
  by_cases h : v ≤ 2 ^ 30
  · rw [Nat.min_eq_left (show v ≤ 2 ^ 40 by omega), Nat.min_eq_left h]; exact .inl rfl
  · rw [Nat.min_eq_right (show 2 ^ 30 ≤ v by omega)]
    have h2 : 2 ^ 30 ≤ min v (2 ^ 40) := Nat.le_min.2 ⟨by omega, by decide⟩
    split
    · exact .inr (.inr ⟨by omega, by omega⟩)
    · exact .inr (.inl ⟨by omega, by omega⟩)
theorem Z8 (sg m : List UInt8) (x : Int) : (Ij sg m x).2 = 0 ∨ Ij sg m x = ([], 144) := by
  unfold Ij
  dsimp only
  split
  · exact .inl rfl
  · split
    · exact .inr rfl
    · exact .inl rfl
def NB (N : Nat) (s : List UInt8) : List UInt8 × Int := (Bd N s).getD ([], 144)
theorem U1 {N : Nat} {s : List UInt8} (h0 : s ≠ []) (hn : Ck s = s.length) (hb : s.length ≤ 2000000) (hN : s.length + 30 < N) :
    Bd N s = some (NB N s) ∧ Du N s = some (NB N s) ∧ ((NB N s).2 = 0 ∨ NB N s = ([], 144)) := by
  obtain ⟨sg, W, F, FR, P, EX, h⟩ := SI h0 hn
  obtain ⟨l1, l2, l3⟩ := h.len
  have e1 := AG3 (N := N) h hn (by omega) hN
  have e2 := AHz (N := N) h hn (by omega) hN
  have e3 : NB N s = Ij sg (W ++ F) (Ip (2 ^ 40) P - F.length) := by unfold NB; rw [e1]; rfl
  refine ⟨by rw [e3]; exact e1, ?_, by rw [e3]; exact Z8 _ _ _⟩
  rw [e2, e3, VZ (by rw [List.length_append]; omega) (ACI P F.length (by omega))]
end Go.VM
namespace Go.VM
mutual
def GK : ApiValue → Nat
  | ⟨kind, _, _, items⟩ => (if kind == 6 || kind == 7 then 1 else 0) + Dr items
def Dr : List ApiValue → Nat
  | [] => 0
  | x :: xs => max (GK x) (Dr xs)
end
theorem JZ (v : ApiValue) : GK v = (if v.kind == 6 || v.kind == 7 then 1 else 0) + Dr v.items := by cases v; rw [GK]
theorem MV (v : ApiValue) : 0 < ED v := by rw [GA]; omega
section
variable {N : Nat}
theorem Ps (inner : Nat) (rc : ApiValue → Int → Option Int) : ∀ (xs : List ApiValue) (n : Nat), n + Ba xs ≤ 20000 → (∀ x, x ∈ xs → rc x (inner : Int) = some (if inner + GK x ≤ 64 then (ED x : Int) else 0)) →
    inner ≤ 64 → CO N rc (inner : Int) (fun j => some j) xs (n : Int) = some (if inner + Dr xs ≤ 64 then ((n + Ba xs : Nat) : Int) else 0)
  | [], n, _, _, hi => by rw [CO, Dr, Ba, if_pos (by omega)]; rfl
  | x :: xs, n, hn, hr, hi => by
    rw [Ba] at hn
    have hp := MV x
    rw [CO, hr x (by simp), Option.bind_some, Dr, Ba]
    by_cases h : inner + GK x ≤ 64
    · have e0 : ((ED x : Int) == 0) = false := by simp; omega
      rw [if_pos h, e0, if_neg (by decide), A8 (by omega), if_neg (by simp; omega), show (n : Int) + (ED x : Int) = ((n + ED x : Nat) : Int) by simp]
      rw [Ps inner rc xs (n + ED x) (by omega) (fun y hy => hr y (by simp [hy])) hi]
      by_cases h2 : inner + Dr xs ≤ 64
      · rw [if_pos h2, if_pos (by omega)]; congr 2; omega
      · rw [if_neg h2, if_neg (by omega)]
    · rw [if_neg h, if_pos (by decide), if_neg (by omega)]
theorem PP {x : ApiValue} : ∀ {xs : List ApiValue}, x ∈ xs → ED x ≤ Ba xs
  | y :: xs, h => by
    rw [Ba]
    rcases List.mem_cons.1 h with rfl | h
    · omega
    · have := PP h; omega
theorem XP : ∀ (D e d : Nat) (v : ApiValue), okW e v → e ≤ D → d ≤ 64 → ED v ≤ 20000 → Cn N D v (d : Int) = some (if d + GK v ≤ 64 then (ED v : Int) else 0)
  | 0, e, d, v, h, he, _, _ => by have := h.pos; omega
  | D + 1, e, d, v, h, he, hd, hc => by
    obtain ⟨e, rfl⟩ : ∃ k, e = k + 1 := ⟨e - 1, by have := h.pos; omega⟩
    have hi := h.items
    rw [GA] at hc
    have main : ∀ inner : Nat, inner ≤ 65 → (if decide ((inner : Int) > 64) = true then some (0 : Int) else AR (fun j9 : Int => some j9) fun k10 => grd (Ac v.items.length) (CO N (Cn N D) (inner : Int) k10 v.items 1)) = some (if inner + Dr v.items ≤ 64 then (ED v : Int) else 0) := by
      intro inner hin
      by_cases h64 : inner > 64
      · rw [if_pos (by simp; omega), if_neg (by omega)]
      · rw [if_neg (by simp; omega), AO, JC (by omega), show (1 : Int) = ((1 : Nat) : Int) from rfl]
        rw [Ps inner (Cn N D) v.items 1 (by omega) (fun x hx => XP D e inner x (h.sub x hx) (by omega) (by omega) (by have := PP hx; omega)) (by omega), GA]
    rw [Cn, JZ]
    simp only [AO]
    cases h6 : v.kind == 6
    · cases h7 : v.kind == 7
      · simp only [Bool.false_eq_true, if_false, Bool.or_false, Nat.zero_add]
        exact main d (by omega)
      · simp only [Bool.false_eq_true, if_false, if_true, Bool.or_true]
        rw [A8 (by omega), show (d : Int) + 1 = ((d + 1 : Nat) : Int) by simp]
        have := main (d + 1) (by omega)
        simpa [Nat.add_assoc, AO] using this
    · simp only [if_true, Bool.true_or]
      rw [A8 (by omega), show (d : Int) + 1 = ((d + 1 : Nat) : Int) by simp]
      have := main (d + 1) (by omega)
      simpa [Nat.add_assoc, AO] using this
def Ya (N : Nat) (s : List UInt8) : List UInt8 × Int := if s ≠ [] ∧ Ck s = s.length then NB N s else ([], 130)
theorem AGF (s : List UInt8) (hb : s.length ≤ 2000000) (hN : s.length + 30 < N) : Du N s = some (Ya N s) ∧ Bd N s = some (Ya N s) := by
  unfold Ya
  by_cases h : s ≠ [] ∧ Ck s = s.length
  · rw [if_pos h]
    obtain ⟨h1, h2, _⟩ := U1 h.1 h.2 hb hN
    exact ⟨h2, h1⟩
  · rw [if_neg h]
    have hb' : s = [] ∨ Ck s ≠ s.length := by
      by_cases h1 : s = []
      · exact .inl h1
      · exact .inr fun h2 => h ⟨h1, h2⟩
    exact ⟨AFY s hb' (by omega) hN, AFD s hb' (by omega)⟩
def AAY (N : Nat) (s : List UInt8) : Bool := (Ya N s).2 == 0 && (Ya N s).1 == s
mutual
def Ed (N : Nat) : ApiValue → Bool
  | ⟨kind, text, keys, items⟩ =>
    if kind == 1 || kind == 2 || kind == 3 then text == [] && keys.isEmpty && items.isEmpty
    else if kind == 4 then AAY N text && keys.isEmpty && items.isEmpty
    else if kind == 5 then (Cf N text).isSome && keys.isEmpty && items.isEmpty
    else if kind == 6 then text == [] && keys.isEmpty && KE N items
    else if kind == 7 then text == [] && decide (keys.length = items.length) && Iz N keys && KE N items
    else false
def KE (N : Nat) : List ApiValue → Bool
  | [] => true
  | x :: xs => Ed N x && KE N xs
end
theorem Py (rc : ApiValue → Option Bool) (k24 : Unit → Option Bool) (hk : k24 () = some true) : ∀ (xs : List ApiValue), (∀ x, x ∈ xs → rc x = some (Ed N x)) → CF N rc k24 xs = some (KE N xs)
  | [], _ => by rw [CF, KE, hk]
  | x :: xs, h => by
    rw [CF, h x (by simp), Option.bind_some, KE, Py rc k24 hk xs fun y hy => h y (by simp [hy])]
    cases Ed N x <;> simp
theorem SX {α : Type} (l : List α) : (((l.length : Nat) : Int) == 0) = l.isEmpty := by cases l <;> simp; omega
theorem VU (hN : 2000 ≤ N) : ∀ (D e : Nat) (v : ApiValue), okW e v → e ≤ D → C9 N D v = some (Ed N v)
  | 0, e, v, h, he => by have := h.pos; omega
  | D + 1, e, v, h, he => by
    obtain ⟨e, rfl⟩ : ∃ k, e = k + 1 := ⟨e - 1, by have := h.pos; omega⟩
    have hi := h.items; have ht := h.text; have hk := h.keys; have hkl := h.klen
    have hs := h.sub
    have loop : ∀ k24 : Unit → Option Bool, k24 () = some true → CF N (C9 N D) k24 v.items = some (KE N v.items) := fun k24 h24 => Py _ k24 h24 v.items fun x hx => VU hN D e x (hs x hx) (by omega)
    have hdiff := TG (N := N) v.keys (by omega) (by omega) fun k hk => ⟨by have := hkl k hk; omega, by have := hkl k hk; omega⟩
    have hnum := (AGF (N := N) v.text (by omega) (by omega)).1
    have hval := NW (N := N) (l := v.text) (by omega) (by omega)
    rw [C9]
    obtain ⟨kind, text, keys, items⟩ := v
    simp only at *
    rw [Ed]
    simp only [AO, SX, hdiff, hnum, hval, Option.bind_some]
    rw [JC (by omega), loop _ rfl]
    have elen : (((keys.length : Nat) : Int) != ((items.length : Nat) : Int)) = !decide (keys.length = items.length) := by
      by_cases h : keys.length = items.length
      · simp [h]
      · have : ¬ ((keys.length : Int) = (items.length : Int)) := by omega
        simp [h, this, bne]
    have elen0 : (((keys.length : Nat) : Int) != 0) = !keys.isEmpty := by rw [bne, SX]
    rw [elen, elen0]
    unfold AAY
    cases h1 : kind == 1 <;> cases h2 : kind == 2 <;> cases h3 : kind == 3 <;> simp only [Bool.false_eq_true, if_false, if_true, Bool.or_false, Bool.or_true, Bool.true_or, Bool.false_or, Bool.or_self]
    all_goals first
      | (cases text == [] <;> cases keys.isEmpty <;> rfl)
      | skip
    cases h4 : kind == 4 <;> cases h5 : kind == 5 <;> cases h6 : kind == 6 <;> cases h7 : kind == 7 <;> simp only [Bool.false_eq_true, if_false, if_true]
    all_goals first
      | rfl
      | (cases (Ya N text).2 == 0 <;> cases (Ya N text).1 == text <;> cases keys.isEmpty <;> rfl)
      | (cases (Cf N text).isSome <;> cases keys.isEmpty <;> rfl)
      | (cases text == [] <;> cases keys.isEmpty <;> rfl)
      | (cases text == [] <;> cases decide (keys.length = items.length) <;> cases Iz N keys <;> rfl)
theorem AFg (hN : 2000 ≤ N) {v : ApiValue} (h : okW 70 v) (hc : ED v ≤ 20000) : Hm N v = some (decide (GK v ≤ 64) && Ed N v) := by
  unfold Hm
  have hp := MV v
  rw [show (0 : Int) = ((0 : Nat) : Int) from rfl, XP N 70 0 v h (by omega) (by omega) hc, Option.bind_some, Nat.zero_add]
  by_cases hn : GK v ≤ 64
  · rw [if_pos hn, if_pos (by simp; omega), if_pos (by simp; omega), VU hN N 70 v h (by omega), Option.bind_some]
    simp [hn]
  · rw [if_neg hn, if_neg (by simp)]; simp [hn]
end
end Go.VM
