/- Canonical numbers: the program's and the reference's are the same. -/
import Derived.Test.YtbmilkoebhmnnaaGreatDoorPart
set_option linter.unusedVariables false
set_option linter.unusedSimpArgs false
namespace Go.VM
section
variable {N : Nat}
def val10 : Nat → List UInt8 → Nat
  | n, [] => n
  | n, c :: l => val10 (n * 10 + hexD c.toNat) l
theorem val10_ge : ∀ (l : List UInt8) (n : Nat), n ≤ val10 n l
  | [], n => by rw [val10]; exact Nat.le_refl _
  | c :: l, n => by
    have := val10_ge l (n * 10 + hexD c.toNat)
    rw [val10]; omega
theorem dig_rng {c : UInt8} (h : digC c = true) : 48 ≤ c.toNat ∧ c.toNat ≤ 57 := by
  simpa [digC] using h
theorem dig_hex {c : UInt8} (h : digC c = true) : hexB c = true ∧ hexD c.toNat = c.toNat - 48 := by
  have := dig_rng h
  refine ⟨?_, ?_⟩
  · simp only [hexB, hexN, Bool.or_eq_true, Bool.and_eq_true, decide_eq_true_eq]; omega
  · unfold hexD; rw [if_pos this.2]
theorem pdec1 (k2 : Unit → Option (Int × Int)) : ∀ l : List UInt8, number_parse__ascii_IsDigit_L1 N k2 l = if l.all digC = true then k2 () else some (0, 1)
  | [] => by rw [number_parse__ascii_IsDigit_L1]; rfl
  | c :: l => by
    rw [number_parse__ascii_IsDigit_L1, pdig_eq, Option.bind_some, pdec1 k2 l]
    cases h : digC c <;> simp [h]
theorem pdec2 {m : Nat} (hm : m ≤ 2 ^ 59) (k9 : Int → Option (Int × Int)) : ∀ (l : List UInt8) (n : Nat), l.all digC = true → n ≤ m → number_parse__ascii_IsDigit_L2 N 10 (m : Int) k9 l (n : Int) = if val10 n l ≤ m then k9 ((val10 n l : Nat) : Int) else some (0, 4)
  | [], n, _, hn => by rw [number_parse__ascii_IsDigit_L2, val10, if_pos hn]
  | c :: l, n, h, hn => by
    simp only [List.all_cons, Bool.and_eq_true] at h
    have hd : hexD c.toNat ≤ 9 := by have := dig_rng h.1; rw [(dig_hex h.1).2]; omega
    obtain ⟨hx, hv⟩ := dig_hex h.1
    rw [number_parse__ascii_IsDigit_L2, pval_eq c hx, Option.bind_some, joinK_eq, grd_true (by decide)]
    have w1 : wr .u64 ((n : Int) * 10) = ((n * 10 : Nat) : Int) := by rw [wr_u64 (by omega)]; simp
    have w2 : wr .u64 (((n * 10 : Nat) : Int) + ((hexD c.toNat : Nat) : Int)) = ((n * 10 + hexD c.toNat : Nat) : Int) := by rw [wr_u64 (by omega)]; simp
    have w3 : wr .u64 (18446744073709551615 - ((hexD c.toNat : Nat) : Int)) = 18446744073709551615 - ((hexD c.toNat : Nat) : Int) := wr_u64 (by omega)
    rw [w1, w2, w3, Int.tdiv_eq_ediv_of_nonneg (by omega), wr_u64 (by omega)]
    have c1 : ¬ ((n : Int) > (18446744073709551615 - ((hexD c.toNat : Nat) : Int)) / 10) := by omega
    rw [if_neg (by simpa using c1), val10]
    by_cases c2 : n * 10 + hexD c.toNat ≤ m
    · have c3 : ¬ (((n * 10 + hexD c.toNat : Nat) : Int) > (m : Int)) := by omega
      rw [decide_eq_false c3]
      simp only [Bool.false_eq_true, if_false]
      exact pdec2 hm k9 l _ h.2 c2
    · have c3 : (((n * 10 + hexD c.toNat : Nat) : Int) > (m : Int)) := by omega
      have := val10_ge l (n * 10 + hexD c.toNat)
      rw [decide_eq_true c3, if_neg (by omega)]; rfl
theorem pparse_eq {m : Nat} (hm : m ≤ 2 ^ 59) (l : List UInt8) (hb : l.length ≤ 2 ^ 60) : number_Parse N l (m : Int) = some (if l = [] then (0, 3) else if l.all digC = true then (if val10 0 l ≤ m then (((val10 0 l : Nat) : Int), 0) else (0, 4)) else (0, 1)) := by
  unfold number_Parse number_parse__ascii_IsDigit
  by_cases h : l = []
  · subst h; rfl
  · rw [if_neg (by simpa using h), if_neg h, joinK_eq, grd_true (by unfold fitsS; omega), pdec1]
    by_cases h1 : l.all digC = true
    · rw [if_pos h1, if_pos h1, joinK_eq, grd_true (by unfold fitsS; omega), show (0 : Int) = ((0 : Nat) : Int) from rfl, pdec2 hm _ l 0 h1 (by omega)]
      split <;> rfl
    · rw [if_neg h1, if_neg h1]; rfl
/-- the value of an exponent, cut at a great number -/
def expV (B : Nat) (P : List UInt8) : Int := if headB [45] P = true then -((min (val10 0 (P.dropWhile ([43, 45] : List UInt8).contains)) B : Nat) : Int) else ((min (val10 0 (P.dropWhile ([43, 45] : List UInt8).contains)) B : Nat) : Int)
def PowOK (P : List UInt8) : Prop := P = [] ∨ ∃ sn D, P = sn ++ D ∧ (sn = [] ∨ sn = [43] ∨ sn = [45]) ∧ D ≠ [] ∧ D.all digC = true
theorem dig_set {c : UInt8} (h : digC c = true) : ([43, 45] : List UInt8).contains c = false := by
  have := bytes_eq (f := fun n => if (decide (48 ≤ n) && decide (n ≤ 57)) = true then ([43, 45] : List UInt8).contains (UInt8.ofNat n) else false) (g := fun _ => false) (by kernel_rfl) c
  simp only [UInt8.ofNat_toNat, show (decide (48 ≤ c.toNat) && decide (c.toNat ≤ 57)) = true from h, if_true] at this
  exact this
theorem drop_dig {D : List UInt8} (h : D.all digC = true) : D.dropWhile ([43, 45] : List UInt8).contains = D := by
  cases D with
  | nil => rfl
  | cons c D =>
    simp only [List.all_cons, Bool.and_eq_true] at h
    rw [List.dropWhile_cons, dig_set h.1]; rfl
theorem pow_cases {P : List UInt8} (h : PowOK P) : (P.dropWhile ([43, 45] : List UInt8).contains).all digC = true ∧ (P.dropWhile ([43, 45] : List UInt8).contains = [] → P = []) := by
  rcases h with rfl | ⟨sn, D, rfl, hs, hD, hd⟩
  · exact ⟨rfl, fun _ => rfl⟩
  · have : (sn ++ D).dropWhile ([43, 45] : List UInt8).contains = D := by
      rcases hs with rfl | rfl | rfl
      · exact drop_dig hd
      · show (43 :: D).dropWhile _ = D
        rw [List.dropWhile_cons, show ([43, 45] : List UInt8).contains 43 = true from rfl, if_pos rfl]; exact drop_dig hd
      · show (45 :: D).dropWhile _ = D
        rw [List.dropWhile_cons, show ([43, 45] : List UInt8).contains 45 = true from rfl, if_pos rfl]; exact drop_dig hd
    rw [this]
    exact ⟨hd, fun e => absurd e hD⟩
theorem pexp_eq {P : List UInt8} (h : PowOK P) (hb : P.length ≤ 2 ^ 60) (hN : P.length < N) : token_exponent N P = some (expV (2 ^ 40) P) := by
  obtain ⟨h1, h2⟩ := pow_cases h
  unfold token_exponent
  rw [trimLS_eq P [43, 45] (by simp) (by simp) (by decide) hN, Option.bind_some]
  have hl := (List.dropWhile_sublist ([43, 45] : List UInt8).contains (l := P)).length_le
  unfold expV
  generalize hD : P.dropWhile ([43, 45] : List UInt8).contains = D at *
  rw [show (1099511627776 : Int) = ((2 ^ 40 : Nat) : Int) from rfl, pparse_eq (by decide) D (by omega), Option.bind_some]
  by_cases he : D = []
  · rw [if_pos he]
    have hP := h2 he
    subst hP; subst he
    rfl
  · rw [if_neg he, if_pos h1]
    have key : ∀ v : Nat, v ≤ 2 ^ 40 → (Option.bind (strings_HasPrefix N P [45]) fun y9 => if y9 = true then some (wr .i64 (0 - wr .i64 (v : Int))) else some (wr .i64 (v : Int))) = some (if headB [45] P = true then -(v : Int) else (v : Int)) := by
      intro v hv
      rw [pre1_eq, Option.bind_some, wr_i64 (n := (v : Int)) (by omega), wr_i64 (n := 0 - (v : Int)) (by omega)]
      split <;> simp
    rw [joinK_eq]
    by_cases hv : val10 0 D ≤ 2 ^ 40
    · rw [if_pos hv, Nat.min_eq_left hv]
      exact key _ hv
    · rw [if_neg hv, Nat.min_eq_right (by omega)]
      exact key _ (Nat.le_refl _)
theorem rexp_loop (k19 : Int → Option Int) : ∀ (l : List UInt8) (n : Nat), l.all digC = true → n ≤ 2 ^ 30 → ref13_exponent_L1 N k19 l (n : Int) = k19 ((min (val10 n l) (2 ^ 30) : Nat) : Int)
  | [], n, _, hn => by rw [ref13_exponent_L1, val10, Nat.min_eq_left hn]
  | c :: l, n, h, hn => by
    simp only [List.all_cons, Bool.and_eq_true] at h
    have hd := dig_rng h.1
    rw [ref13_exponent_L1, val10]
    have w0 : wr .u8 (bord c - 48) = ((hexD c.toNat : Nat) : Int) := by rw [wr_u8 (by simp only [bord]; omega)]; rw [(dig_hex h.1).2]; simp only [bord]; omega
    have hd9 : hexD c.toNat ≤ 9 := by rw [(dig_hex h.1).2]; omega
    rw [w0, wr_i64 (n := (n : Int) * 10) (by omega), wr_i64 (n := ((hexD c.toNat : Nat) : Int)) (by omega), wr_i64 (by omega)]
    have e : (n : Int) * 10 + ((hexD c.toNat : Nat) : Int) = ((n * 10 + hexD c.toNat : Nat) : Int) := by simp
    rw [e]
    have hge := val10_ge l (n * 10 + hexD c.toNat)
    by_cases c1 : (1073741824 : Int) < ((n * 10 + hexD c.toNat : Nat) : Int)
    · rw [if_pos c1, show (1073741824 : Int) = ((2 ^ 30 : Nat) : Int) from rfl, rexp_loop k19 l (2 ^ 30) h.2 (Nat.le_refl _)]
      have := val10_ge l (2 ^ 30)
      rw [Nat.min_eq_right this, Nat.min_eq_right (by omega)]
    · rw [if_neg c1, rexp_loop k19 l _ h.2 (by omega)]
theorem rexp_eq {P : List UInt8} (h : PowOK P) (hb : P.length ≤ 2 ^ 60) : ref13_exponent N P = some (expV (2 ^ 30) P) := by
  obtain ⟨h1, h2⟩ := pow_cases h
  unfold ref13_exponent
  refine (join_to (a := headB [45] P) fun k2 => ?_).trans ?_
  · cases P with
    | nil => rfl
    | cons c P => rw [if_neg (by simp), show idx (c :: P) 0 = some c from rfl, Option.bind_some, bq45]; rfl
  try dsimp only
  refine (join_to (a := P.dropWhile ([43, 45] : List UInt8).contains) fun k7 => (join_to (a := headB [43, 45] P) fun k11 => ?_).trans ?_).trans ?_
  · cases P with
    | nil => rfl
    | cons c P =>
      show (if (c :: P == ([] : List UInt8)) = true then k11 false else Option.bind (idx (c :: P) 0) fun x14 => Option.bind (ref01_In N (bord x14) [43, 45]) fun y15 => k11 y15) = _
      rw [if_neg (by simp), show idx (c :: P) 0 = some c from rfl, Option.bind_some, inC_eq _ _ (by decide), Option.bind_some]; rfl
  · try dsimp only
    rcases h with rfl | ⟨sn, D, rfl, hs, hD, hd⟩
    · rfl
    · have hdd := drop_dig hd
      rcases hs with rfl | rfl | rfl
      · cases D with
        | nil => exact absurd rfl hD
        | cons c D =>
          simp only [List.all_cons, Bool.and_eq_true] at hd
          rw [List.nil_append, hdd, if_neg (by show ¬ ([43, 45] : List UInt8).contains c = true; rw [dig_set hd.1]; simp)]
      · have e : ([43] ++ D).dropWhile ([43, 45] : List UInt8).contains = D := by
          show (43 :: D).dropWhile _ = D
          rw [List.dropWhile_cons, show ([43, 45] : List UInt8).contains 43 = true from rfl, if_pos rfl]; exact hdd
        rw [e, if_pos (by rfl)]
        exact (congrArg (fun x => Option.bind x k7) (sub_tail 43 D)).trans rfl
      · have e : ([45] ++ D).dropWhile ([43, 45] : List UInt8).contains = D := by
          show (45 :: D).dropWhile _ = D
          rw [List.dropWhile_cons, show ([43, 45] : List UInt8).contains 45 = true from rfl, if_pos rfl]; exact hdd
        rw [e, if_pos (by rfl)]
        exact (congrArg (fun x => Option.bind x k7) (sub_tail 45 D)).trans rfl
  try dsimp only
  have hl := (List.dropWhile_sublist ([43, 45] : List UInt8).contains (l := P)).length_le
  unfold expV
  generalize hD : P.dropWhile ([43, 45] : List UInt8).contains = D at *
  rw [joinK_eq, grd_true (by unfold fitsS; omega), show (0 : Int) = ((0 : Nat) : Int) from rfl, rexp_loop _ D 0 h1 (by omega)]
  have : min (val10 0 D) (2 ^ 30) ≤ 2 ^ 30 := Nat.min_le_right _ _
  rw [wr_i64 (by omega)]
  split <;> simp
/-- the canonical form: sign, digits, exponent -/
def expT (y : Int) : List UInt8 := if y < 0 then [101, 45] ++ fmtS (-y).toNat else if y > 0 then [101] ++ fmtS y.toNat else []
def canonS (sg m : List UInt8) (x : Int) : List UInt8 × Int :=
  let m1 := m.dropWhile (· == 48)
  let sh := trimE (· == 48) m1
  if sh = [] then ([48], 0)
  else if sh.length > 40 ∨ x + m1.length - sh.length < -400 ∨ x + m1.length - sh.length > 400 then ([], 144)
  else (sg ++ sh ++ expT (x + m1.length - sh.length), 0)
theorem u64_pos {y : Int} (h : 0 ≤ y) (h2 : y ≤ 2 ^ 60) : wr .u64 y = ((y.toNat : Nat) : Int) := by rw [wr_u64 (by omega)]; omega
theorem low_dig {l : List UInt8} (h : l.all digC = true) : l.map lowB = l := by
  induction l with
  | nil => rfl
  | cons c l ih =>
    simp only [List.all_cons, Bool.and_eq_true] at h
    have := dig_rng h.1
    rw [List.map_cons, ih h.2]
    congr 1
    unfold lowB lowN; rw [if_neg (by omega)]; simp
theorem cut_app {c : UInt8} {a b : List UInt8} (h : a.contains c = false) : cutS c (a ++ c :: b) = (a, b, true) := by
  have h1 : ∀ a : List UInt8, a.contains c = false → (a ++ c :: b).takeWhile (· != c) = a ∧ (a ++ c :: b).dropWhile (· != c) = c :: b := by
    intro a
    induction a with
    | nil => intro _; simp
    | cons x a ih =>
      intro h
      rw [List.contains_cons, Bool.or_eq_false_iff] at h
      have hx : (x != c) = true := by
        have : c ≠ x := by simpa using h.1
        simpa using fun e : x = c => this e.symm
      obtain ⟨i1, i2⟩ := ih h.2
      rw [List.cons_append, List.takeWhile_cons, List.dropWhile_cons, hx, i1, i2]
      exact ⟨rfl, rfl⟩
  unfold cutS
  rw [if_pos (by simp), (h1 a h).1, (h1 a h).2]; rfl
theorem cut_not {c : UInt8} {a : List UInt8} (h : a.contains c = false) : cutS c a = (a, [], false) := by
  unfold cutS; rw [if_neg (by rw [h]; simp)]
theorem contains_app {c : UInt8} {a b : List UInt8} : (a ++ b).contains c = (a.contains c || b.contains c) := by
  simp [List.contains_eq_any_beq, List.any_append]
theorem pow_low {P : List UInt8} (h : PowOK P) : P.map lowB = P := by
  rcases h with rfl | ⟨sn, D, rfl, hs, hD, hd⟩
  · rfl
  · rw [List.map_append, low_dig hd]
    rcases hs with rfl | rfl | rfl <;> rfl
section
variable {s sg W F FR P EX : List UInt8}
theorem NumP.len (h : NumP s sg W F FR P EX) : s.length = sg.length + (W.length + (FR.length + EX.length)) ∧ F.length ≤ FR.length ∧ P.length ≤ EX.length := by
  refine ⟨by rw [h.eq]; simp, ?_, ?_⟩
  · rcases h.fr with ⟨e1, e2⟩ | e
    · rw [e2]; simp
    · rw [e]; simp
  · rcases h.ex with ⟨e1, e2⟩ | e | e
    · rw [e2]; simp
    · rw [e]; simp
    · rw [e]; simp
theorem NumP.not_e (h : NumP s sg W F FR P EX) (k : UInt8) (hk : digC k = false) (h46 : k ≠ 46) : (W ++ FR).contains k = false := by
  rw [contains_app, all_not hk h.Wd, Bool.false_or]
  rcases h.fr with ⟨e1, e2⟩ | e
  · rw [e1]; rfl
  · rw [e, List.contains_cons, all_not hk h.Fd, Bool.or_false]
    simpa using h46
/-- the program's canonical form -/
theorem pnum_eq (h : NumP s sg W F FR P EX) (hn : numN s = s.length) (hb : s.length ≤ 2 ^ 48) (hN : s.length + 30 < N) : token_Number N s = some (canonS sg (W ++ F) (expV (2 ^ 40) P - F.length)) := by
  obtain ⟨l1, l2, l3⟩ := h.len
  have hne : s ≠ [] := by
    rw [h.eq]
    have := h.Wn
    intro e
    have := List.append_eq_nil_iff.1 e
    have := List.append_eq_nil_iff.1 this.2
    exact h.Wn this.1
  have hpos : s.length ≠ 0 := fun e => hne (List.length_eq_zero_iff.1 e)
  unfold token_Number
  have hp := pnumber_eq (N := N) (l := s) (t := s) (i := 0) (by simp) (by omega) (by omega)
  rw [if_neg (by rw [hn]; exact hpos)] at hp
  have hp' : token_reader_number N (TokenReader.mk s 0) = some (s.take (numN s), true, (⟨s, ((0 + numN s : Nat) : Int)⟩ : TokenReader)) := hp
  rw [hp', Option.bind_some]
  refine (join_to (a := false) fun k4 => ?_).trans ?_
  · rw [if_pos rfl, hn, List.take_of_length_le (Nat.le_refl _)]; simp
  try dsimp only
  rw [if_neg (by decide)]
  -- sign and rest
  have hhead : ∀ k7 : List UInt8 × List UInt8 → Option (List UInt8 × Int), (Option.bind (idx s 0) fun x11 => if (bord x11 == 45) = true then Option.bind (sub s 1 (s.length : Int)) fun x12 => k7 ([45], x12) else k7 ([], s)) = k7 (sg, W ++ (FR ++ EX)) := by
    intro k7
    rcases h.sg with e | e
    · have hs : s = W ++ (FR ++ EX) := by rw [h.eq, e]; rfl
      cases hW : W with
      | nil => exact absurd hW h.Wn
      | cons c W' =>
        have hc : digC c = true := by
          have := h.Wd
          rw [hW, List.all_cons, Bool.and_eq_true] at this
          exact this.1
        have hs2 : s = c :: (W' ++ (FR ++ EX)) := by rw [hs, hW]; rfl
        rw [hs2, show idx (c :: (W' ++ (FR ++ EX))) 0 = some c from rfl, Option.bind_some, bq45, one_of]
        have := dig_rng hc
        have : ¬ c.toNat = (45 : UInt8).toNat := by show ¬ c.toNat = 45; omega
        rw [if_neg (by simpa using this), e]; rfl
    · have hs2 : s = 45 :: (W ++ (FR ++ EX)) := by rw [h.eq, e]; rfl
      rw [hs2, show idx (45 :: (W ++ (FR ++ EX))) 0 = some 45 from rfl, Option.bind_some, if_pos (by rfl), sub_tail, Option.bind_some, e]
  refine (join_to (a := (sg, W ++ (FR ++ EX))) fun k8 => hhead k8).trans ?_
  try dsimp only
  rw [lower_eq _ (by simp; omega), Option.bind_some]
  have hWF : (W ++ FR).map lowB = W ++ FR := by
    rw [List.map_append, low_dig h.Wd]
    rcases h.fr with ⟨e1, e2⟩ | e
    · rw [e1]; rfl
    · rw [e, List.map_cons, low_dig h.Fd]; rfl
  have hlow : cutS 101 ((W ++ (FR ++ EX)).map lowB) = (W ++ FR, P, (cutS 101 ((W ++ (FR ++ EX)).map lowB)).2.2) := by
    rw [← List.append_assoc, List.map_append, hWF]
    have hc := h.not_e 101 (by decide) (by decide)
    rcases h.ex with ⟨e1, e2⟩ | e | e
    · rw [e1, e2, List.map_nil, List.append_nil, cut_not hc]
    · rw [e, List.map_cons, pow_low h.pw, show lowB 101 = 101 from rfl, cut_app hc]
    · rw [e, List.map_cons, pow_low h.pw, show lowB 69 = 101 from rfl, cut_app hc]
  rw [cut_eq 101 _ (by simp; omega), Option.bind_some, hlow]
  try dsimp only
  have hcut2 : cutS 46 (W ++ FR) = (W, F, (cutS 46 (W ++ FR)).2.2) := by
    have hc := all_not (k := 46) (by decide) h.Wd
    rcases h.fr with ⟨e1, e2⟩ | e
    · rw [e1, e2, List.append_nil, cut_not hc]
    · rw [e, cut_app hc]
  rw [cut_eq 46 _ (by simp; omega), Option.bind_some, hcut2]
  try dsimp only
  rw [grd_true (by unfold fitsS; omega), trimL_eq 48 (W ++ F) (by decide) (by simp; omega), Option.bind_some]
  have hml := (List.dropWhile_sublist (fun x : UInt8 => x == 48) (l := W ++ F)).length_le
  rw [List.length_append] at hml
  have htl := trimE_le (fun x : UInt8 => x == 48) ((W ++ F).dropWhile (fun x : UInt8 => x == 48))
  rw [trimR_eq 48 _ (by decide) (by omega) (by omega), Option.bind_some]
  unfold canonS
  dsimp only
  generalize hm1 : (W ++ F).dropWhile (fun x : UInt8 => x == 48) = m1 at *
  generalize hsh : trimE (fun x : UInt8 => x == 48) m1 = sh at *
  try dsimp only
  by_cases hz : sh = []
  · rw [if_pos (by simpa using hz), if_pos hz]
  rw [if_neg (by simpa using hz), if_neg hz, pexp_eq h.pw (by omega) (by omega), Option.bind_some]
  have hev : -(2 ^ 40 : Int) ≤ expV (2 ^ 40) P ∧ expV (2 ^ 40) P ≤ (2 ^ 40 : Int) := by
    unfold expV
    have : min (val10 0 (P.dropWhile ([43, 45] : List UInt8).contains)) (2 ^ 40) ≤ 2 ^ 40 := Nat.min_le_right _ _
    split <;> omega
  generalize expV (2 ^ 40) P = x at *
  have hw : wr .i64 (wr .i64 (wr .i64 (x - (F.length : Int)) + (m1.length : Int)) - (sh.length : Int)) = x - (F.length : Int) + (m1.length : Int) - (sh.length : Int) := by
    rw [wr_i64 (n := x - (F.length : Int)) (by omega), wr_i64 (n := x - (F.length : Int) + (m1.length : Int)) (by omega), wr_i64 (by omega)]
  rw [hw]
  generalize hy : x - (F.length : Int) + (m1.length : Int) - (sh.length : Int) = y at *
  have hsg : sg.length ≤ 1 := by rcases h.sg with e | e <;> rw [e] <;> simp
  refine (join_to (a := decide (sh.length > 40 ∨ y < -400 ∨ y > 400)) fun k26 => ?_).trans ?_
  · by_cases c1 : (sh.length : Int) > 40
    · rw [if_pos (decide_eq_true c1), decide_eq_true (.inl (by omega))]
    · rw [if_neg (by simpa using c1)]
      by_cases c2 : y < -400
      · rw [if_pos (decide_eq_true c2), decide_eq_true (.inr (.inl c2))]
      · rw [if_neg (by simpa using c2)]
        congr 1
        simp only [eq_iff_iff, decide_eq_decide]; omega
  try dsimp only
  by_cases hc : sh.length > 40 ∨ y < -400 ∨ y > 400
  · rw [if_pos (decide_eq_true hc), if_pos hc]
  rw [if_neg (by simpa using hc), if_neg hc]
  have hc' : ¬ (sh.length > 40) ∧ ¬ y < -400 ∧ ¬ y > 400 := ⟨fun h => hc (.inl h), fun h => hc (.inr (.inl h)), fun h => hc (.inr (.inr h))⟩
  have hf := fmtS_len
  unfold expT
  by_cases c1 : y < 0
  · rw [if_pos (decide_eq_true c1), if_pos c1, grd_true (by unfold fitsS; omega), grd_true (by unfold fitsS; simp; omega), wr_i64 (by omega), u64_pos (by omega) (by omega), pformat_eq _ (by omega) (by omega), Option.bind_some]
    have := hf (0 - y).toNat
    have := hf (-y).toNat
    rw [grd_true (by unfold fitsS; simp; omega), show (0 - y).toNat = (-y).toNat by omega]
    simp
  · rw [if_neg (by simpa using c1), if_neg c1]
    by_cases c2 : y > 0
    · have := hf y.toNat
      rw [if_pos (decide_eq_true c2), if_pos c2, grd_true (by unfold fitsS; omega), grd_true (by unfold fitsS; simp; omega), u64_pos (by omega) (by omega), pformat_eq _ (by omega) (by omega), Option.bind_some, grd_true (by unfold fitsS; simp; omega)]
      simp
    · rw [if_neg (by simpa using c2), if_neg c2, grd_true (by unfold fitsS; omega)]
      simp
end
end
end Go.VM
