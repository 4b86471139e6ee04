import Derived.Test.YtbmilkoebhmnnaaGreatDoorL2
import Derived.Test.YtbmilkoebhmnnaaGreatDoorDefs
set_option linter.unusedVariables false
set_option linter.unusedSimpArgs false
namespace Go.VM
section
variable {N : Nat}
def H6 : List UInt8 := [123, 125, 91, 93, 58, 44]
def isWord (w : List UInt8) : Bool := w == [116, 114, 117, 101] || (w == [102, 97, 108, 115, 101] || w == [110, 117, 108, 108])
def Jc (e : Int) : ApiToken × Int × Int := (ApiToken.mk 0 [] 0, 0, e)
def GY (N : Nat) (p : Nat) (t : List UInt8) : ApiToken × Int × Int :=
  match t with
  | [] => (ApiToken.mk 1 [] p, p, 0)
  | c :: r =>
    if H6.contains c = true then (ApiToken.mk 2 [c] p, ((p + 1 : Nat) : Int), 0)
    else if c.toNat = 34 then
      if (Bw N r (p + 1) []).2.2 = 0 then (ApiToken.mk 3 (Bw N r (p + 1) []).1 p, ((Bw N r (p + 1) []).2.1 : Int), 0) else Jc (Bw N r (p + 1) []).2.2
    else if (([45] : List UInt8).contains c || Cm c) = true then
      if Bi (c :: r) = 0 then Jc 130 else (ApiToken.mk 4 ((c :: r).take (Bi (c :: r))) p, ((p + Bi (c :: r) : Nat) : Int), 0)
    else if isWord ((c :: r).takeWhile BX) = true then (ApiToken.mk 5 ((c :: r).takeWhile BX) p, ((p + ((c :: r).takeWhile BX).length : Nat) : Int), 0)
    else Jc 130
theorem Ec (N p : Nat) (c : UInt8) (r : List UInt8) : GY N p (c :: r) = (
  if H6.contains c = true then (ApiToken.mk 2 [c] p, ((p + 1 : Nat) : Int), 0)
  else if c.toNat = 34 then
    if (Bw N r (p + 1) []).2.2 = 0 then (ApiToken.mk 3 (Bw N r (p + 1) []).1 p, ((Bw N r (p + 1) []).2.1 : Int), 0) else Jc (Bw N r (p + 1) []).2.2
  else if (([45] : List UInt8).contains c || Cm c) = true then
    if Bi (c :: r) = 0 then Jc 130 else (ApiToken.mk 4 ((c :: r).take (Bi (c :: r))) p, ((p + Bi (c :: r) : Nat) : Int), 0)
  else if isWord ((c :: r).takeWhile BX) = true then (ApiToken.mk 5 ((c :: r).takeWhile BX) p, ((p + ((c :: r).takeWhile BX).length : Nat) : Int), 0)
  else Jc 130) := rfl
def Ey (N : Nat) (l : List UInt8) (i : Nat) : ApiToken × Int × Int :=
  GY N (i + ((l.drop i).takeWhile wsB).length) (l.drop (i + ((l.drop i).takeWhile wsB).length))
theorem AAV (c : UInt8) (h : H6.contains c = true) : Nl (AP c) = [c] := by
  have := EA (f := fun n => if H6.contains (UInt8.ofNat n) = true then Nl (n : Int) else []) (g := fun n => if H6.contains (UInt8.ofNat n) = true then [UInt8.ofNat n] else []) (by kernel_rfl) c
  simp only [UInt8.ofNat_toNat, h, if_true] at this
  exact this
section
variable {l t : List UInt8} {i p : Nat}
theorem AAL {β : Type} (w : List UInt8) (k : Bool → Option β) : (if (w == ([116, 114, 117, 101] : List UInt8)) = true then k true else if (w == ([102, 97, 108, 115, 101] : List UInt8)) = true then k true else k (w == ([110, 117, 108, 108] : List UInt8))) = k (isWord w) := by
  unfold isWord
  cases w == ([116, 114, 117, 101] : List UInt8) <;> cases w == ([102, 97, 108, 115, 101] : List UInt8) <;> rfl
theorem Zc {c : UInt8} {r : List UInt8} (h : isWord ((c :: r).takeWhile BX) = true) : BX c = true := by
  cases ha : BX c
  · rw [List.takeWhile_cons, ha] at h
    rw [if_neg (by decide)] at h; exact absurd h (by decide)
  · rfl
theorem ACI (ht : l.drop p = t) (hp : p ≤ l.length) (hb : l.length ≤ 2 ^ 40) (hN : l.length + 10 ≤ N) :
    ∃ q k x, ED N ⟨l, (p : Int)⟩ = some (k, x, (GY N p t).2.2, q) ∧ ((GY N p t).2.2 = 0 → (GY N p t) = (ApiToken.mk k x p, q.at_, 0)) := by
  have hl := CP ht hp
  unfold ED
  match t, ht, hl with
  | [], ht, hl =>
    simp only [List.length_nil] at hl
    rw [if_pos (by simp; omega)]
    exact ⟨_, _, _, rfl, fun _ => rfl⟩
  | c :: r, ht, hl =>
    simp only [List.length_cons] at hl
    have w1 : wr .i64 ((p : Int) + 1) = ((p + 1 : Nat) : Int) := by rw [Au (by omega)]; simp
    rw [Ec, if_neg (by simp; omega)]
    simp only [AO]
    rw [head_drop ht, Option.bind_some, SC, Option.bind_some, index_ge, w1]
    by_cases c3 : H6.contains c = true
    · rw [show (([123, 125, 91, 93, 58, 44] : List UInt8).contains c) = true from c3, if_pos rfl, AAV c c3]
      simp only [c3, if_true]
      exact ⟨_, _, _, rfl, fun _ => rfl⟩
    · rw [Bool.not_eq_true] at c3
      rw [show (([123, 125, 91, 93, 58, 44] : List UInt8).contains c) = false from c3, if_neg (by decide), ALJ]
      simp only [c3, Bool.false_eq_true, if_false]
      by_cases c4 : c.toNat = 34
      · rw [if_pos (decide_eq_true c4)]
        simp only [c4, if_true]
        obtain ⟨q, hq, hq0⟩ := AJC (N := N) (l := l) hb (by omega) (i := p) (by omega)
        have hr : l.drop (p + 1) = r := by rw [← List.drop_drop, ht]; rfl
        rw [hr] at hq hq0
        rw [hq, Option.bind_some]
        unfold outT
        by_cases c5 : (Bw N r (p + 1) []).2.2 = 0
        · rw [if_pos c5, if_pos c5]
          exact ⟨q, _, _, rfl, fun _ => by rw [hq0 c5]⟩
        · rw [if_neg c5, if_neg c5]
          exact ⟨q, _, _, rfl, fun h => absurd h c5⟩
      · rw [if_neg (by simpa using c4)]
        simp only [c4, if_false]
        rw [AE2, Tc, Option.bind_some, SF, Option.bind_some]
        have num : ∃ q k x, (Option.bind (BF N ⟨l, (p : Int)⟩) fun y16 => if y16.2.1 = true then some ((4 : Int), y16.1, (0 : Int), y16.2.2) else some (0, [], 130, y16.2.2)) = some (k, x, (if Bi (c :: r) = 0 then Jc 130 else (ApiToken.mk 4 ((c :: r).take (Bi (c :: r))) p, ((p + Bi (c :: r) : Nat) : Int), 0)).2.2, q) ∧ ((if Bi (c :: r) = 0 then Jc 130 else (ApiToken.mk 4 ((c :: r).take (Bi (c :: r))) p, ((p + Bi (c :: r) : Nat) : Int), 0)).2.2 = 0 → (if Bi (c :: r) = 0 then Jc 130 else (ApiToken.mk 4 ((c :: r).take (Bi (c :: r))) p, ((p + Bi (c :: r) : Nat) : Int), 0)) = (ApiToken.mk k x p, q.at_, 0)) := by
          have hn := Lv (N := N) ht hp (by omega)
          by_cases c6 : Bi (c :: r) = 0
          · rw [if_pos c6] at hn
            obtain ⟨q, hq⟩ := hn
            rw [hq, Option.bind_some, if_pos c6]
            exact ⟨_, _, _, rfl, fun h => by cases h⟩
          · rw [if_neg c6] at hn
            rw [hn, Option.bind_some, if_neg c6]
            exact ⟨_, _, _, rfl, fun _ => rfl⟩
        have word : (([45] : List UInt8).contains c || Cm c) = false → ∃ q k x, (if BX c = true then Option.bind (A9 N ⟨l, (p : Int)⟩) fun y20 => (if (y20.1 == ([116, 114, 117, 101] : List UInt8)) = true then (if true = true then some ((5 : Int), y20.1, (0 : Int), y20.2) else some (0, [], 130, y20.2)) else if (y20.1 == ([102, 97, 108, 115, 101] : List UInt8)) = true then (if true = true then some ((5 : Int), y20.1, (0 : Int), y20.2) else some (0, [], 130, y20.2)) else (if (y20.1 == ([110, 117, 108, 108] : List UInt8)) = true then some ((5 : Int), y20.1, (0 : Int), y20.2) else some (0, [], 130, y20.2))) else some (0, [], 130, ⟨l, (p : Int)⟩)) = some (k, x, (if isWord ((c :: r).takeWhile BX) = true then (ApiToken.mk 5 ((c :: r).takeWhile BX) p, ((p + ((c :: r).takeWhile BX).length : Nat) : Int), 0) else Jc 130).2.2, q) ∧ ((if isWord ((c :: r).takeWhile BX) = true then (ApiToken.mk 5 ((c :: r).takeWhile BX) p, ((p + ((c :: r).takeWhile BX).length : Nat) : Int), 0) else Jc 130).2.2 = 0 → (if isWord ((c :: r).takeWhile BX) = true then (ApiToken.mk 5 ((c :: r).takeWhile BX) p, ((p + ((c :: r).takeWhile BX).length : Nat) : Int), 0) else Jc 130) = (ApiToken.mk k x p, q.at_, 0)) := by
          intro _
          by_cases c6 : BX c = true
          · rw [if_pos c6, AKo ht hp (by omega), Option.bind_some]
            rw [AAL ((c :: r).takeWhile BX) (fun b => if b = true then some ((5 : Int), (c :: r).takeWhile BX, (0 : Int), (⟨l, ((p + ((c :: r).takeWhile BX).length : Nat) : Int)⟩ : TokenReader)) else some (0, [], 130, ⟨l, ((p + ((c :: r).takeWhile BX).length : Nat) : Int)⟩))]
            try dsimp only
            by_cases c7 : isWord ((c :: r).takeWhile BX) = true
            · rw [if_pos c7, if_pos c7]
              exact ⟨_, _, _, rfl, fun _ => rfl⟩
            · rw [if_neg c7, if_neg c7]
              exact ⟨_, _, _, rfl, fun h => by cases h⟩
          · rw [if_neg c6, if_neg (fun h => c6 (Zc h))]
            exact ⟨_, _, _, rfl, fun h => by cases h⟩
        by_cases k1 : ([45] : List UInt8).contains c = true
        · simp only [k1, Bool.true_or, if_true]
          exact num
        · rw [Bool.not_eq_true] at k1
          simp only [k1, Bool.false_or, Bool.false_eq_true, if_false]
          by_cases k2 : Cm c = true
          · simp only [k2, if_true]
            exact num
          · rw [Bool.not_eq_true] at k2
            simp only [k2, Bool.false_eq_true, if_false]
            exact word (by rw [k1, k2]; rfl)
theorem AEw (hb : l.length ≤ 2 ^ 40) (hN : l.length + 10 ≤ N) (hi : i ≤ l.length) : GJ N l (i : Int) = some (Ey N l i) := by
  obtain ⟨t0, ht0⟩ : ∃ t0, l.drop i = t0 := ⟨_, rfl⟩
  have hl0 := CP ht0 hi
  have hw := KT wsB t0
  unfold GJ Ey
  have c1 : ¬ ((i : Int) < 0) := by omega
  have c2 : ¬ ((i : Int) > (l.length : Int)) := by omega
  refine (BO (a := false) fun k => ?_).trans ?_
  · rw [if_neg (by simp), decide_eq_false c2]
  try dsimp only
  rw [if_neg (by decide), AHS ht0 hi (by omega), Option.bind_some, ht0]
  obtain ⟨q, k, x, e1, e2⟩ := ACI (N := N) (l := l) (p := i + (t0.takeWhile wsB).length) rfl (by omega) hb hN
  try dsimp only
  rw [e1, Option.bind_some]
  try dsimp only
  by_cases h : (GY N (i + (t0.takeWhile wsB).length) (l.drop (i + (t0.takeWhile wsB).length))).2.2 = 0
  · rw [if_neg (by simpa using h), e2 h]
  · rw [if_pos (by simpa using h)]
    have noT : ∀ (p : Nat) (t : List UInt8), (GY N p t).2.2 ≠ 0 → GY N p t = Jc (GY N p t).2.2 := by
      intro p t h
      unfold GY at h ⊢
      match t, h with
      | [], h => exact absurd rfl h
      | c :: r, h =>
        dsimp only at h ⊢
        by_cases k1 : H6.contains c = true
        · rw [if_pos k1] at h; exact absurd rfl h
        rw [if_neg k1] at h ⊢
        by_cases k2 : c.toNat = 34
        · rw [if_pos k2] at h ⊢
          by_cases k3 : (Bw N r (p + 1) []).2.2 = 0
          · rw [if_pos k3] at h; exact absurd rfl h
          · rw [if_neg k3]; rfl
        rw [if_neg k2] at h ⊢
        by_cases k3 : (([45] : List UInt8).contains c || Cm c) = true
        · rw [if_pos k3] at h ⊢
          by_cases k4 : Bi (c :: r) = 0
          · rw [if_pos k4]; rfl
          · rw [if_neg k4] at h; exact absurd rfl h
        rw [if_neg k3] at h ⊢
        by_cases k4 : isWord ((c :: r).takeWhile BX) = true
        · rw [if_pos k4] at h; exact absurd rfl h
        · rw [if_neg k4]; rfl
    rw [noT _ _ h]; rfl
end
end
end Go.VM
namespace Go.VM
section
variable {N : Nat}
def Dc : Nat → List UInt8 → Option Nat
  | 0, _ => none
  | _ + 1, [] => some 0
  | k + 1, c :: t =>
    match Hd (c :: t) with
    | some (_, n) => (Dc k ((c :: t).drop n)).map (· + 1)
    | none => none
def ABE (n : Nat) : Option Nat → Int
  | some m => ((n + m : Nat) : Int)
  | none => -1
section
variable {l : List UInt8}
theorem OO (hb : l.length ≤ 2 ^ 50) (hN : 5 ≤ N) : ∀ (k : Nat) (t : List UInt8) (i n : Nat), l.drop i = t → i ≤ l.length → t.length < k → n ≤ i → Da N l (fun j => some j) k (n : Int) (i : Int) = some (ABE n (Dc k t))
  | 0, t, i, n, ht, hi, hk, hn => by omega
  | k + 1, [], i, n, ht, hi, hk, hn => by
    have hl := CP ht hi
    simp only [List.length_nil] at hl
    have c : ¬ (i : Int) < (l.length : Int) := by omega
    rw [Da, if_neg (by simpa using c)]; rfl
  | k + 1, c :: t, i, n, ht, hi, hk, hn => by
    have hl := CP ht hi
    simp only [List.length_cons] at hl hk
    have c0 : (i : Int) < (l.length : Int) := by omega
    rw [Da, if_pos (decide_eq_true c0), AFO hN (by omega) (by omega), Option.bind_some, ht, Dc]
    cases hd : Hd (c :: t) with
    | none => rfl
    | some p =>
      obtain ⟨r, m⟩ := p
      obtain ⟨e1, e2, _⟩ := Kw hd
      simp only [List.length_cons] at e2
      rw [Pf, if_neg (by simp), Au (by omega), show (n : Int) + 1 = ((n + 1 : Nat) : Int) by simp]
      rw [OO hb hN k _ (i + m) (n + 1) (by rw [← List.drop_drop, ht]) (by omega) (by rw [List.length_drop, List.length_cons]; omega) (by omega)]
      simp only []
      cases Dc k ((c :: t).drop m) with
      | none => rfl
      | some q => simp only [ABE, Option.map_some]; congr 1; omega
theorem OC (hb : l.length ≤ 2 ^ 50) (hN : l.length + 5 ≤ N) : FY N l = some (Dc N l).isSome := by
  unfold FY JA
  rw [AO]
  have := OO (N := N) hb (by omega) N l 0 0 (by simp) (by omega) (by omega) (by omega)
  rw [show (0 : Int) = ((0 : Nat) : Int) from rfl, this, Option.bind_some]
  cases Dc N l with
  | none => rfl
  | some q => simp [ABE]
end
def MC : List UInt8 := [48, 49, 50, 51, 52, 53, 54, 55, 56, 57, 97, 98, 99, 100, 101, 102]
def qN (n : Nat) : List UInt8 :=
  if n = 34 then [92, 34] else if n = 92 then [92, 92] else if n = 8 then [92, 98] else if n = 12 then [92, 102] else if n = 10 then [92, 110] else if n = 13 then [92, 114] else if n = 9 then [92, 116]
  else if n < 32 then [92, 117, 48, 48, MC.getD (n / 16) 0, MC.getD (n % 16) 0] else [UInt8.ofNat n]
def qB (c : UInt8) : List UInt8 := qN c.toNat
theorem AEx (c : UInt8) : 1 ≤ (qB c).length ∧ (qB c).length ≤ 6 := by
  unfold qB qN
  repeat' split
  all_goals simp
def gR (n : Nat) : Option (List Int) :=
  if ((n : Int) == 34 || (n : Int) == 92) = true then some [92, (n : Int)] else if ((n : Int) == 8) = true then some [92, 98] else if ((n : Int) == 12) = true then some [92, 102] else if ((n : Int) == 10) = true then some [92, 110]
  else if ((n : Int) == 13) = true then some [92, 114] else if ((n : Int) == 9) = true then some [92, 116]
  else if decide ((n : Int) < 32) = true then (idx MC (wr .u8 ((n : Int).tdiv 16))).bind fun x => (idx MC ((n : Int).tmod 16)).map fun y => [92, 117, 48, 48, AP x, AP y]
  else some [(n : Int)]
theorem ALa (c : UInt8) : gR c.toNat = some ((qB c).map AP) := EA (f := gR) (g := fun n => some ((qN n).map AP)) (by kernel_rfl) c
theorem Wm (k4 : List Int → Option (List UInt8 × Int)) (c : UInt8) (xs : List UInt8) (s : List Int) (hs : s.length ≤ 2 ^ 40) : Br N k4 (c :: xs) s = Br N k4 xs (s ++ (qB c).map AP) := by
  have key := ALa c
  unfold gR at key
  rw [Br]
  refine (BO (a := s ++ (qB c).map AP) fun k => ?_).trans rfl
  refine (BO (a := (AP c == 34) || (AP c == 92)) fun k13 => ?_).trans ?_
  · cases AP c == 34 <;> rfl
  try dsimp only
  rw [Hy]
  have f : ∀ {w : List Int}, some w = some ((qB c).map AP) → ∀ m : Nat, m ≤ 10 → grd (Bz (s.length + m) 1) (k (s ++ w)) = k (s ++ (qB c).map AP) := by
    intro w hw m hm
    rw [AL (by unfold Bz; omega), Option.some.inj hw]
  by_cases h1 : ((c.toNat : Int) == 34 || (c.toNat : Int) == 92) = true
  · rw [if_pos h1] at key ⊢; exact f key 2 (by omega)
  rw [if_neg h1] at key ⊢
  by_cases h2 : ((c.toNat : Int) == 8) = true
  · rw [if_pos h2] at key ⊢; exact f key 2 (by omega)
  rw [if_neg h2] at key ⊢
  by_cases h3 : ((c.toNat : Int) == 12) = true
  · rw [if_pos h3] at key ⊢; exact f key 2 (by omega)
  rw [if_neg h3] at key ⊢
  by_cases h4 : ((c.toNat : Int) == 10) = true
  · rw [if_pos h4] at key ⊢; exact f key 2 (by omega)
  rw [if_neg h4] at key ⊢
  by_cases h5 : ((c.toNat : Int) == 13) = true
  · rw [if_pos h5] at key ⊢; exact f key 2 (by omega)
  rw [if_neg h5] at key ⊢
  by_cases h6 : ((c.toNat : Int) == 9) = true
  · rw [if_pos h6] at key ⊢; exact f key 2 (by omega)
  rw [if_neg h6] at key ⊢
  by_cases h7 : decide ((c.toNat : Int) < 32) = true
  · rw [if_pos h7] at key ⊢
    rw [Option.bind_eq_some_iff] at key
    obtain ⟨x, hx, key⟩ := key
    rw [Option.map_eq_some_iff] at key
    obtain ⟨y, hy, he⟩ := key
    rw [show ([48, 49, 50, 51, 52, 53, 54, 55, 56, 57, 97, 98, 99, 100, 101, 102] : List UInt8) = MC from rfl, hx, Option.bind_some, hy, Option.bind_some]
    exact f (congrArg some he) 6 (by omega)
  · rw [if_neg h7] at key ⊢; exact f key 1 (by omega)
theorem Od (k4 : List Int → Option (List UInt8 × Int)) : ∀ (l : List UInt8) (s : List Int), s.length + 6 * l.length ≤ 2 ^ 40 → Br N k4 l s = k4 (s ++ (l.flatMap qB).map AP)
  | [], s, h => by rw [Br]; simp
  | c :: l, s, h => by
    have hq := AEx c
    simp only [List.length_cons] at h
    rw [Wm k4 c l s (by omega), Od k4 l _ (by rw [List.length_append, List.length_map]; omega)]
    rw [List.flatMap_cons, List.map_append, List.append_assoc]
theorem Ff : ∀ l : List UInt8, List.map EW (List.map AP l) = l
  | [] => rfl
  | c :: l => by rw [List.map_cons, List.map_cons, Ia, Ff l]
theorem q_len : ∀ l : List UInt8, (l.flatMap qB).length ≤ 6 * l.length
  | [] => by simp
  | c :: l => by
    have := q_len l
    have := AEx c
    rw [List.flatMap_cons, List.length_append, List.length_cons]; omega
def CE (l : List UInt8) : List UInt8 := 34 :: (l.flatMap qB ++ [34])
def Um (N : Nat) (l : List UInt8) : List UInt8 × Int := if l.length > 1048576 then ([], 5) else if (Dc N l).isSome = true then (CE l, 0) else ([], 7)
theorem AD7 (l : List UInt8) (h : l.length ≤ 1048576) : (grd (Bz (([34] ++ (l.flatMap qB).map AP : List Int).length + 1) 1) (some ((List.map EW (([34] ++ (l.flatMap qB).map AP) ++ [34])), (0 : Int)))) = some (CE l, 0) := by
  have := q_len l
  rw [AL (by unfold Bz; simp only [List.length_append, List.length_map, List.length_cons, List.length_nil]; omega)]
  rw [List.map_append, List.map_append, Ff]; rfl
theorem SA (l : List UInt8) (hN : l.length + 5 ≤ N ∨ 1048576 < l.length) : FZ N l = some (Um N l) := by
  unfold FZ Um
  by_cases h : l.length > 1048576
  · have : (l.length : Int) > 1048576 := by omega
    rw [if_pos (decide_eq_true this), if_pos h]
  · have h' : ¬ (l.length : Int) > 1048576 := by omega
    rw [if_neg (by simpa using h'), if_neg h, OC (by omega) (by omega), Option.bind_some]
    by_cases hv : (Dc N l).isSome = true
    · rw [if_pos hv, if_pos hv, AO, AL (by unfold Ab; omega), Od _ l [34] (by simp; omega)]
      exact AD7 l (by omega)
    · rw [if_neg hv, if_neg hv]
end
end Go.VM
namespace Go.VM
theorem AJm (a b : UInt8) : a < b ∨ a = b ∨ b < a := by
  rcases Nat.lt_trichotomy a.toNat b.toNat with h | h | h
  · exact .inl (UInt8.lt_iff_toNat_lt.2 h)
  · exact .inr (.inl (UInt8.toNat_inj.1 h))
  · exact .inr (.inr (UInt8.lt_iff_toNat_lt.2 h))
theorem AJT (a : UInt8) : ¬ a < a := fun h => Nat.lt_irrefl _ (UInt8.lt_iff_toNat_lt.1 h)
theorem ALD {a b c : UInt8} (h : a < b) (k : b < c) : a < c := UInt8.lt_iff_toNat_lt.2 (Nat.lt_trans (UInt8.lt_iff_toNat_lt.1 h) (UInt8.lt_iff_toNat_lt.1 k))
theorem AFt : ∀ a b : List UInt8, Op.bytesLess a b = true ∨ a = b ∨ Op.bytesLess b a = true
  | [], [] => .inr (.inl rfl)
  | [], _ :: _ => .inl (by simp [Op.bytesLess])
  | _ :: _, [] => .inr (.inr (by simp [Op.bytesLess]))
  | a :: x, b :: y => by
    simp only [Op.bytesLess, Bool.or_eq_true, decide_eq_true_eq, Bool.and_eq_true, beq_iff_eq]
    rcases AJm a b with h | rfl | h
    · exact .inl (.inl h)
    · rcases AFt x y with h | rfl | h
      · exact .inl (.inr ⟨rfl, h⟩)
      · exact .inr (.inl rfl)
      · exact .inr (.inr (.inr ⟨rfl, h⟩))
    · exact .inr (.inr (.inl h))
theorem AFh : ∀ a : List UInt8, Op.bytesLess a a = false
  | [] => rfl
  | a :: x => by simp [Op.bytesLess, AJT, AFh x]
theorem AEz : ∀ {a b c : List UInt8}, Op.bytesLess a b = true → Op.bytesLess b c = true → Op.bytesLess a c = true
  | [], [], _, h, _ => by simp [Op.bytesLess] at h
  | [], _ :: _, [], _, k => by simp [Op.bytesLess] at k
  | [], _ :: _, _ :: _, _, _ => by simp [Op.bytesLess]
  | _ :: _, [], _, h, _ => by simp [Op.bytesLess] at h
  | _ :: _, _ :: _, [], _, k => by simp [Op.bytesLess] at k
  | a :: x, b :: y, c :: z, h, k => by
    simp only [Op.bytesLess, Bool.or_eq_true, decide_eq_true_eq, Bool.and_eq_true, beq_iff_eq] at h k ⊢
    rcases h with h | ⟨rfl, h⟩
    · rcases k with k | ⟨rfl, k⟩
      · exact .inl (ALD h k)
      · exact .inl h
    · rcases k with k | ⟨rfl, k⟩
      · exact .inl k
      · exact .inr ⟨rfl, AEz h k⟩
def leB (a b : List UInt8) : Bool := Op.bytesLess a b || a == b
theorem SX (a b : List UInt8) : (leB a b || leB b a) = true := by
  unfold leB
  rcases AFt a b with h | rfl | h <;> simp [*]
theorem Sj (a b c : List UInt8) (h : leB a b = true) (k : leB b c = true) : leB a c = true := by
  unfold leB at *
  simp only [Bool.or_eq_true, beq_iff_eq] at *
  rcases h with h | rfl
  · rcases k with k | rfl
    · exact .inl (AEz h k)
    · exact .inl h
  · exact k
theorem YC {a b : List UInt8} (h : leB a b = true) (k : leB b a = true) : a = b := by
  unfold leB at *
  simp only [Bool.or_eq_true, beq_iff_eq] at *
  rcases h with h | rfl
  · rcases k with k | rfl
    · have := AEz h k; rw [AFh] at this; cases this
    · rfl
  · rfl
def Asc (l : List (List UInt8)) : Prop := l.Pairwise fun a b => leB a b = true
theorem AAe {l m : List (List UInt8)} (hp : l.Perm m) (h1 : Asc l) (h2 : Asc m) : l = m :=
  List.Perm.eq_of_pairwise (le := fun a b => leB a b = true) (fun a b _ _ => YC) h1 h2 hp
def Iq (l : List (List UInt8)) : List (List UInt8) := l.mergeSort leB
theorem Iu (l : List (List UInt8)) : (Iq l).Perm l := List.mergeSort_perm l leB
theorem S9 (l : List (List UInt8)) : Asc (Iq l) := List.pairwise_mergeSort Sj SX l
section
variable {N : Nat}
theorem MK {n : Nat} (h : n ≤ 1000000000) : Bz n 16 := by unfold Bz; omega
theorem KR : ∀ (k : Nat) (a b o : List (List UInt8)), a.length + b.length < k → a.length + b.length + o.length ≤ 1000000 →
    CV N (fun j7 => grd (Bz (j7.2.2.length + j7.1.length) 16) (grd (Bz ((j7.2.2 ++ j7.1).length + j7.2.1.length) 16) (some ((j7.2.2 ++ j7.1) ++ j7.2.1)))) k a b o = some (o ++ List.merge a b leB)
  | 0, _, _, _, h, _ => by omega
  | k + 1, [], b, o, h, hb => by
    rw [CV]
    simp only [List.length_nil] at hb
    simp only [AO, List.length_nil, if_neg (show ¬ decide ((((0 : Nat) : Int)) > 0) = true by decide), Bool.false_eq_true, if_false]
    rw [AL (MK (by simp; omega)), AL (MK (by simp; omega))]
    simp
  | k + 1, x :: a, [], o, h, hb => by
    rw [CV]
    simp only [List.length_nil, List.length_cons] at hb
    have c1 : decide ((((x :: a).length : Nat) : Int) > 0) = true := by simp
    simp only [AO, c1, if_true, List.length_nil, show decide ((((0 : Nat) : Int)) > 0) = false from rfl, Bool.false_eq_true, if_false]
    rw [AL (MK (by simp; omega)), AL (MK (by simp; omega))]
    simp
  | k + 1, x :: a, y :: b, o, h, hb => by
    rw [CV]
    simp only [List.length_cons] at hb h
    have c1 : decide ((((x :: a).length : Nat) : Int) > 0) = true := by simp
    have c2 : decide ((((y :: b).length : Nat) : Int) > 0) = true := by simp
    have i1 : idx (x :: a) 0 = some x := rfl
    have i2 : idx (y :: b) 0 = some y := rfl
    have s1 : sub (x :: a) 1 (((x :: a).length : Nat) : Int) = some a := by
      have := DX (x :: a) 1 (x :: a).length (by simp) (by simp)
      simpa using this
    have s2 : sub (y :: b) 1 (((y :: b).length : Nat) : Int) = some b := by
      have := DX (y :: b) 1 (y :: b).length (by simp) (by simp)
      simpa using this
    simp only [AO, c1, c2, if_true, i1, i2, Option.bind_some, s1, s2]
    rw [AL (MK (by omega)), List.cons_merge_cons]
    show (if leB x y = true then _ else _) = _
    split
    · rw [KR k a (y :: b) (o ++ [x]) (by simp; omega) (by simp; omega)]; simp
    · rw [AL (MK (by omega)), KR k (x :: a) b (o ++ [y]) (by simp; omega) (by simp; omega)]; simp
theorem N7 : ∀ (D : Nat) (l : List (List UInt8)), l.length ≤ D → l.length ≤ 1000000 → l.length < N → ∃ s, Cy N (D + 1) l = some s ∧ s.Perm l ∧ Asc s
  | D, l, hD, hb, hN => by
    rw [Cy]
    by_cases h2 : l.length < 2
    · rw [if_pos (by simp; omega)]
      refine ⟨l, rfl, List.Perm.refl _, ?_⟩
      match l, h2 with
      | [], _ => exact .nil
      | [x], _ => exact List.pairwise_singleton _ _
      | _ :: _ :: _, h2 => simp only [List.length_cons] at h2; omega
    · rw [if_neg (by simp; omega)]
      obtain ⟨D, rfl⟩ : ∃ e, D = e + 1 := ⟨D - 1, by omega⟩
      have e0 : wr .i64 ((l.length : Int).tdiv 2) = ((l.length / 2 : Nat) : Int) := by
        rw [show (l.length : Int).tdiv 2 = ((l.length / 2 : Nat) : Int) from rfl]
        exact Fa (by omega)
      have l1 : (l.take (l.length / 2)).length = l.length / 2 := by rw [List.length_take]; omega
      have l2 : (l.drop (l.length / 2)).length = l.length - l.length / 2 := by rw [List.length_drop]
      obtain ⟨s1, a1, a2, a3⟩ := N7 D (l.take (l.length / 2)) (by omega) (by omega) (by omega)
      obtain ⟨s2, b1, b2, b3⟩ := N7 D (l.drop (l.length / 2)) (by omega) (by omega) (by omega)
      have n1 := a2.length_eq; have n2 := b2.length_eq
      rw [e0, show (0 : Int) = ((0 : Nat) : Int) from rfl, DX l 0 (l.length / 2) (by omega) (by omega), Option.bind_some]
      simp only [List.drop_zero, Nat.sub_zero]
      rw [a1, Option.bind_some, DX l (l.length / 2) l.length (by omega) (by omega), Option.bind_some, List.take_of_length_le (by rw [l2]; exact Nat.le_refl _), b1, Option.bind_some, AO]
      rw [KR N s1 s2 [] (by omega) (by simp; omega)]
      refine ⟨_, rfl, ?_, ?_⟩
      · have := (List.merge_perm_append (le := leB) (xs := s1) (ys := s2)).trans (a2.append b2)
        simpa using this
      · exact List.pairwise_merge Sj SX s1 s2 a3 b3
theorem JU (l : List (List UInt8)) (hb : l.length ≤ 1000000) (hN : l.length < N) : Cy N N l = some (Iq l) := by
  obtain ⟨M, rfl⟩ : ∃ M, N = M + 1 := ⟨N - 1, by omega⟩
  obtain ⟨s, h1, h2, h3⟩ := N7 (N := M + 1) M l (by omega) hb hN
  rw [h1, AAe (h2.trans (Iu l).symm) h3 (S9 l)]
def Jh (N : Nat) (l : List (List UInt8)) : Bool := decide l.Nodup && l.all fun k => (Dc N k).isSome
theorem ACq {a b : List UInt8} {l : List (List UInt8)} (h : Asc (a :: b :: l)) (hne : a ≠ b) : a ∉ b :: l := by
  intro hm
  rcases List.mem_cons.1 hm with e | hm
  · exact hne e
  · unfold Asc at h
    simp only [List.pairwise_cons, List.mem_cons] at h
    have h1 := h.1 b (.inl rfl)
    have h2 := h.2.1 a hm
    exact hne (YC h1 h2)
theorem R8 (k4 : Unit → Option Bool) (h4 : k4 () = some true) (s : List (List UInt8)) (hb : s.length ≤ 1000000) : ∀ (suf pre : List (List UInt8)), s = pre ++ suf → Asc s → (∀ k, k ∈ suf → k.length ≤ 2 ^ 50 ∧ k.length + 5 ≤ N) →
    Ba N s k4 suf (pre.length : Int) = some ((match pre.getLast? with | some x => decide (x ∉ suf) | none => true) && decide suf.Nodup && suf.all fun k => (Dc N k).isSome)
  | [], pre, hs, _, _ => by rw [Ba, h4]; cases pre.getLast? <;> simp
  | k :: suf, pre, hs, ha, hl => by
    have hk := hl k (by simp)
    have ih := R8 k4 h4 s hb suf (pre ++ [k]) (by rw [hs]; simp) ha (fun x hx => hl x (by simp [hx]))
    simp only [List.getLast?_append, List.getLast?_singleton, Option.some_or] at ih
    have hlen : pre.length < s.length := by rw [hs]; simp
    rw [Ba]
    simp only [AO]
    rw [OC (by omega) (by omega), Option.bind_some, NM pre k, ih]
    cases hv : (Dc N k).isSome
    · simp [hv]
    · simp only [if_true]
      rcases List.eq_nil_or_concat pre with rfl | ⟨p, x, rfl⟩
      · simp [hv, List.nodup_cons, Bool.and_comm, Bool.and_assoc]
      · have hx : idx s (wr .i64 (((p.concat x).length : Int) - 1)) = some x := by
          have e : (((p.concat x).length : Int) - 1) = ((p.length : Nat) : Int) := by simp
          rw [e, Fa (by simp at hlen; omega), NC, hs]
          simp
        rw [if_pos (by simp), hx, Option.bind_some]
        have ha2 : Asc (x :: k :: suf) := by
          have : s = p ++ (x :: k :: suf) := by rw [hs]; simp
          rw [this] at ha
          exact (List.pairwise_append.1 ha).2.1
        by_cases hxk : x = k
        · subst hxk; simp
        · have hnm := ACq ha2 hxk
          simp [hxk, hv, hnm, List.nodup_cons, Bool.and_comm, Bool.and_assoc]
theorem U5 (l : List (List UInt8)) (hb : l.length ≤ 1000000) (hN : l.length < N) (hl : ∀ k, k ∈ l → k.length ≤ 2 ^ 50 ∧ k.length + 5 ≤ N) : Ev N l = some (Jh N l) := by
  have hp := Iu l
  unfold Ev
  rw [JU l hb hN, Option.bind_some, AO, Jg (by rw [hp.length_eq]; omega)]
  have := R8 (N := N) (fun _ => some true) rfl (Iq l) (by rw [hp.length_eq]; exact hb) (Iq l) [] rfl (S9 l) (fun k hk => hl k (hp.mem_iff.1 hk))
  refine this.trans ?_
  unfold Jh
  congr 1
  have e1 : decide (Iq l).Nodup = decide l.Nodup := by rw [decide_eq_decide]; exact hp.nodup_iff
  have e2 : ((Iq l).all fun k => (Dc N k).isSome) = l.all fun k => (Dc N k).isSome := by
    rw [Bool.eq_iff_iff, List.all_eq_true, List.all_eq_true]
    exact ⟨fun h x hx => h x (hp.mem_iff.2 hx), fun h x hx => h x (hp.mem_iff.1 hx)⟩
  simp [e1, e2]
end
end Go.VM
namespace Go.VM
def zeroV : ApiValue := ApiValue.mk 0 [] [] []
def JM : List (List UInt8) → List ApiValue → List UInt8 → ApiValue × Bool
  | k :: ks, x :: xs, key => if k == key then (x, true) else JM ks xs key
  | _, _, _ => (zeroV, false)
def AIh (v : ApiValue) (key : List UInt8) : ApiValue × Bool := if v.kind == 7 then JM v.keys v.items key else (zeroV, false)
mutual
def Dk : ApiValue → Nat
  | ⟨_, _, _, items⟩ => 1 + Be items
def Be : List ApiValue → Nat
  | [] => 0
  | x :: xs => Dk x + Be xs
end
theorem Gp (v : ApiValue) : Dk v = 1 + Be v.items := by cases v; rw [Dk]
inductive okW : Nat → ApiValue → Prop
  | mk {d : Nat} (v : ApiValue) (ht : v.text.length ≤ 300) (hk : v.keys.length ≤ 910) (hl : ∀ k, k ∈ v.keys → k.length ≤ 300) (hi : v.items.length ≤ 900) (h : ∀ x, x ∈ v.items → okW d x) : okW (d + 1) v
section
variable {N : Nat}
theorem okW.text {d : Nat} {v : ApiValue} : okW d v → v.text.length ≤ 300 | .mk _ h _ _ _ _ => h
theorem okW.keys {d : Nat} {v : ApiValue} : okW d v → v.keys.length ≤ 910 | .mk _ _ h _ _ _ => h
theorem okW.klen {d : Nat} {v : ApiValue} : okW d v → ∀ k, k ∈ v.keys → k.length ≤ 300 | .mk _ _ _ h _ _ => h
theorem okW.items {d : Nat} {v : ApiValue} : okW d v → v.items.length ≤ 900 | .mk _ _ _ _ h _ => h
theorem okW.sub {d : Nat} {v : ApiValue} : okW (d + 1) v → ∀ x, x ∈ v.items → okW d x | .mk _ _ _ _ _ h => h
theorem okW.pos {d : Nat} {v : ApiValue} : okW d v → 0 < d | .mk _ _ _ _ _ _ => by omega
theorem okW.mono {d : Nat} {v : ApiValue} (h : okW d v) : ∀ e, d ≤ e → okW e v := by
  induction h with
  | mk v ht hk hl hi h ih =>
    intro e he
    obtain ⟨e', rfl⟩ : ∃ e', e = e' + 1 := ⟨e - 1, by omega⟩
    exact .mk v ht hk hl hi fun x hx => ih x hx e' (by omega)
theorem Q8 (k6 : Unit → Option Int) : ∀ (l : List (List UInt8)), (C9 N k6 l = k6 () ∧ ∀ k, k ∈ l → k.length ≤ 300) ∨ C9 N k6 l = some (-1)
  | [] => by rw [C9]; exact .inl ⟨rfl, by simp⟩
  | x :: l => by
    rw [C9]
    split
    · exact .inr rfl
    · rename_i hx
      rcases Q8 k6 l with h | h
      · refine .inl ⟨h.1, fun k hk => ?_⟩
        rcases List.mem_cons.1 hk with rfl | hk
        · simp only [decide_eq_true_eq] at hx; omega
        · exact h.2 k hk
      · exact .inr h
theorem QP (dn : Nat) (rc : ApiValue → Int → Int → Option Int) (hd : dn ≤ 900) : ∀ (l : List ApiValue) (ln : Nat), ln ≤ 900 →
    (∀ x, x ∈ l → ∀ n : Nat, n ≤ 900 → ∃ r : Int, rc x n dn = some r ∧ r ≤ n ∧ (0 ≤ r → okW dn x ∧ r + Dk x = n)) →
    ∃ r : Int, C8 N ((dn + 1 : Nat) : Int) rc (fun j => some j) l (ln : Int) = some r ∧ r ≤ ln ∧ (0 ≤ r → (∀ x, x ∈ l → okW dn x) ∧ r + Be l = ln)
  | [], ln, _, _ => by rw [C8]; exact ⟨ln, rfl, by omega, by simp [Be]⟩
  | x :: l, ln, hln, hr => by
    obtain ⟨r, e1, e2, e3⟩ := hr x (by simp) ln hln
    rw [C8, show wr .i64 (((dn + 1 : Nat) : Int) - 1) = (dn : Int) by rw [Au (by omega)]; omega, e1, Option.bind_some]
    split
    · exact ⟨-1, rfl, by omega, by omega⟩
    · rename_i hn
      have hn' : 0 ≤ r := by simpa using hn
      obtain ⟨rn, rfl⟩ := Int.eq_ofNat_of_zero_le hn'
      obtain ⟨r2, f1, f2, f3⟩ := QP dn rc hd l rn (by omega) (fun y hy => hr y (by simp [hy]))
      refine ⟨r2, f1, by omega, fun h => ⟨fun y hy => ?_, ?_⟩⟩
      · rcases List.mem_cons.1 hy with rfl | hy
        · exact (e3 hn').1
        · exact (f3 h).1 y hy
      · have := (e3 hn').2; have := (f3 h).2; rw [Be]; omega
theorem ABd : ∀ (D : Nat) (v : ApiValue) (ln dn : Nat), dn < D → dn ≤ 900 → ln ≤ 900 → ∃ r : Int, D5 N D v ln dn = some r ∧ r ≤ ln ∧ (0 ≤ r → okW dn v ∧ r + Dk v = ln)
  | 0, _, _, _, h, _, _ => by omega
  | D + 1, v, ln, dn, hd, hdn, hl => by
    rw [D5, AO]
    simp only [AO, if_true]
    have none : ∃ r : Int, some (-1 : Int) = some r ∧ r ≤ (ln : Int) ∧ (0 ≤ r → okW dn v ∧ r + Dk v = ln) := ⟨-1, rfl, by omega, by omega⟩
    split
    · exact none
    · split
      · exact none
      · split
        · exact none
        · split
          · exact none
          · rename_i h1 h2 h3 h4
            simp only [decide_eq_true_eq] at h1 h2 h3 h4
            by_cases h5 : decide ((v.items.length : Int) > (ln : Int)) = true
            · rw [if_pos h5]; exact none
            · rw [if_neg h5]
              simp only [decide_eq_true_eq] at h5
              rw [Au (by omega)] at h4
              obtain ⟨l1, rfl⟩ : ∃ l1, ln = l1 + 1 := ⟨ln - 1, by omega⟩
              obtain ⟨d1, rfl⟩ : ∃ d1, dn = d1 + 1 := ⟨dn - 1, by omega⟩
              rw [Jg (by omega), show wr .i64 (((l1 + 1 : Nat) : Int) - 1) = (l1 : Int) by rw [Au (by omega)]; omega]
              rcases Q8 (N := N) (fun _ => grd (Ab v.items.length) (C8 N ((d1 + 1 : Nat) : Int) (D5 N D) (fun j => some j) v.items (l1 : Int))) v.keys with e1 | e1
              · rw [e1.1, Jg (by omega)]
                obtain ⟨r, f1, f2, f3⟩ := QP (N := N) d1 (D5 N D) (by omega) v.items l1 (by omega) (fun x hx n hn => ABd D x n d1 (by omega) (by omega) hn)
                exact ⟨r, f1, by omega, fun h => ⟨.mk _ (by omega) (by omega) e1.2 (by omega) (f3 h).1, by have := (f3 h).2; rw [Gp]; omega⟩⟩
              · rw [e1]; exact none
theorem ZA (hN : 71 ≤ N) (v : ApiValue) (n : Nat) (hn : n ≤ 800) : ∃ b, Hq N v n = some b ∧ (b = true → okW 70 v ∧ Dk v ≤ n) := by
  obtain ⟨r, e1, e2, e3⟩ := ABd (N := N) N v n 70 (by omega) (by omega) (by omega)
  refine ⟨decide (r ≥ 0), ?_, fun h => ?_⟩
  · unfold Hq
    rw [show (70 : Int) = ((70 : Nat) : Int) from rfl, e1]; rfl
  · have h0 : 0 ≤ r := by simpa using h
    have := e3 h0
    exact ⟨this.1, by omega⟩
theorem Sd (v : ApiValue) (key : List UInt8) (k2 : Unit → Option (ApiValue × Bool)) : ∀ (ks : List (List UInt8)) (i : Int), (v.items.length : Int) ≤ i → CZ N v key k2 ks i = k2 ()
  | [], i, h => by rw [CZ]
  | x :: ks, i, h => by
    have h3 : decide (i < (v.items.length : Int)) = false := by simp; omega
    rw [CZ, AO, h3, Sd v key k2 ks (i + 1) (by omega)]
    simp
theorem SN (v : ApiValue) (key : List UInt8) (k2 : Unit → Option (ApiValue × Bool)) (h5 : k2 () = some (zeroV, false)) : ∀ (ks : List (List UInt8)) (xs xpre : List ApiValue), v.items = xpre ++ xs →
    CZ N v key k2 ks (xpre.length : Int) = some (JM ks xs key)
  | [], xs, xpre, hx => by
    rw [CZ]; simp [h5, JM]
  | x :: ks, [], xpre, hx => by
    have e : JM (x :: ks) [] key = (zeroV, false) := by simp [JM]
    rw [Sd v key k2 _ _ (by rw [hx]; simp), h5, e]
  | x :: ks, y :: ys, xpre, hx => by
    have ih := SN v key k2 h5 ks ys (xpre ++ [y]) (by rw [hx]; simp)
    rw [CZ, AO, ALG hx, AKI hx, Option.bind_some, NM xpre y, ih, JM]
    cases x == key <;> simp
theorem AHy (v : ApiValue) (key : List UInt8) (hb : v.keys.length ≤ 4611686018427387904) : JX N v key = some (AIh v key) := by
  unfold JX AIh
  cases h : (v.kind == 7)
  · have : (v.kind != 7) = true := by simp only [bne, h, Bool.not_false]
    rw [if_pos this]; rfl
  · have : (v.kind != 7) = false := by simp only [bne, h, Bool.not_true]
    rw [this, if_neg (by simp), AO, Jg (by omega)]
    exact SN (N := N) v key (fun _ => some (zeroV, false)) rfl v.keys v.items [] rfl
inductive okD : Nat → ApiValue → Prop
  | mk {d : Nat} (v : ApiValue) (hk : v.keys.length ≤ 4611686018427387904) (hi : v.items.length ≤ 4611686018427387904) (h : ∀ x, x ∈ v.items → okD d x) : okD (d + 1) v
theorem okW.d {d : Nat} {v : ApiValue} (h : okW d v) : okD d v := by
  induction h with
  | mk v ht hk hl hi h ih => exact .mk v (by omega) (by omega) ih
end
end Go.VM
namespace Go.VM
section
variable {N : Nat}
theorem Vq : ∀ (l : List UInt8) (c : UInt8), Go.Lib.indexByte l c = if l.contains c = true then (((l.takeWhile (· != c)).length : Nat) : Int) else -1
  | [], c => rfl
  | x :: l, c => by
    have ih := Vq l c
    rw [Go.Lib.indexByte, List.contains_cons]
    by_cases e : x = c
    · subst e; simp
    · have e1 : (c == x) = false := by simpa using fun h : c = x => e h.symm
      have e2 : (x == c) = false := by simpa using e
      have e3 : (x != c) = true := by simpa using e
      rw [e1, e2, Bool.false_or, List.takeWhile_cons, e3]
      simp only [Bool.false_eq_true, if_false, if_true, List.length_cons]
      by_cases k : l.contains c = true
      · rw [if_pos k] at ih
        rw [if_pos k, ih]
        have : (((((l.takeWhile (· != c)).length : Nat) : Int)) == -1) = false := by
          simp only [beq_eq_false_iff_ne, ne_eq]; omega
        rw [this]; simp
      · rw [if_neg k] at ih
        rw [if_neg k, ih]; rfl
theorem AAx {α : Type} (p : α → Bool) (l : List α) : l.drop (l.takeWhile p).length = l.dropWhile p := by
  have := List.takeWhile_append_dropWhile (p := p) (l := l)
  conv => lhs; rw [← this]
  rw [List.drop_append, List.drop_of_length_le (by rw [this]; exact Nat.le_refl _), this]
  simp
def RL (c : UInt8) (l : List UInt8) : List UInt8 × List UInt8 × Bool := if l.contains c = true then (l.takeWhile (· != c), (l.dropWhile (· != c)).drop 1, true) else (l, [], false)
theorem AGQ {c : UInt8} : ∀ {l : List UInt8}, l.contains c = true → (l.takeWhile (· != c)).length < l.length
  | [], h => by cases h
  | x :: l, h => by
    rw [List.takeWhile_cons]
    by_cases e : x = c
    · subst e; simp
    · have e3 : (x != c) = true := by simpa using e
      rw [List.contains_cons] at h
      have e1 : (c == x) = false := by simpa using fun h : c = x => e h.symm
      rw [e1, Bool.false_or] at h
      rw [e3]
      have := AGQ h
      simp only [if_true, List.length_cons]; omega
theorem AFf (c : UInt8) (l : List UInt8) (hb : l.length ≤ 2 ^ 60) : strings_Cut N l [c] = some (RL c l) := by
  unfold strings_Cut DZ Cz RL
  have hk : ∀ k : Bool → Option Int, (if ((([c] : List UInt8).length : Int) == 0) = true then k true else k ([c] == l)) = k ([c] == l) := fun k => rfl
  have hI : (AU (fun j1 : Bool => if j1 = true then some (0 : Int) else if ((([c] : List UInt8).length : Int) == 1) = true then Option.bind (idx [c] 0) fun x5 => Option.bind (Ad N l (AP x5)) fun y6 => some y6 else if decide ((([c] : List UInt8).length : Int) ≥ (l.length : Int)) = true then some (-1) else none) fun k2 => if ((([c] : List UInt8).length : Int) == 0) = true then k2 true else k2 ([c] == l)) = some (Go.Lib.indexByte l c) := by
    refine (BO (a := [c] == l) fun k => rfl).trans ?_
    by_cases h : ([c] == l) = true
    · have : l = [c] := by have := beq_iff_eq.1 h; exact this.symm
      subst this
      simp [Go.Lib.indexByte]
    · rw [if_neg h, if_pos (by rfl), show idx [c] 0 = some c from rfl, Option.bind_some]
      unfold Ad
      rw [Ia]; rfl
  rw [hI, Option.bind_some, Vq]
  by_cases h : l.contains c = true
  · have hlt := AGQ h
    simp only [h, if_true]
    generalize hn : (l.takeWhile (· != c)).length = n at *
    have w : wr .i64 ((n : Int) + (([c] : List UInt8).length : Int)) = ((n + 1 : Nat) : Int) := by rw [Au (by simp <;> omega)]; simp
    rw [if_pos (by simp), show (0 : Int) = ((0 : Nat) : Int) from rfl, DX l 0 n (by omega) (by omega), Option.bind_some, w, DX l (n + 1) l.length (by omega) (by omega), Option.bind_some, Option.bind_some]
    rw [List.drop_zero, Nat.sub_zero, ← hn, MJ, List.take_of_length_le (by simp), ← List.drop_drop, AAx]
  · rw [if_neg h, if_neg h, if_neg (by decide), Option.bind_some]
theorem Md (x c : UInt8) : (AP x == AP c) = (x == c) := by
  by_cases h : x = c
  · subst h; simp
  · have : ¬ x.toNat = c.toNat := fun e => h (UInt8.toNat_inj.1 e)
    have h2 : (x == c) = false := by simpa using h
    rw [h2]; simp only [AP, beq_eq_false_iff_ne, ne_eq]; omega
theorem Ir {α : Type} (x : α) (l : List α) : sub (x :: l) 1 (((x :: l).length : Nat) : Int) = some l := by
  have := DX (x :: l) 1 (x :: l).length (by simp) (Nat.le_refl _)
  rw [show (1 : Int) = ((1 : Nat) : Int) from rfl, this]
  simp
theorem Pp (c : UInt8) (k2 : List UInt8 → Option (List UInt8)) : ∀ (l : List UInt8) (k : Nat), l.length < k → BN N (AP c) k2 k l = k2 (l.dropWhile (· == c))
  | [], k + 1, _ => by rw [BN, AO]; rfl
  | x :: l, k + 1, h => by
    simp only [List.length_cons] at h
    rw [BN, AO, if_pos (by simp <;> omega), show idx (x :: l) 0 = some x from rfl, Option.bind_some, Md, List.dropWhile_cons]
    try dsimp only
    cases x == c
    · rfl
    · rw [if_pos rfl, Ir, Option.bind_some, Pp c k2 l k (by omega)]; rfl
theorem AEj (c : UInt8) (l : List UInt8) (hc : c.toNat < 128) (hN : l.length < N) : Cr N l [c] = some (l.dropWhile (· == c)) := by
  unfold Cr
  refine (BO (a := l == []) fun k => ?_).trans ?_
  · cases l == [] <;> rfl
  try dsimp only
  by_cases h : l = []
  · subst h; rfl
  · rw [if_neg (by simpa using h)]
    have : (AP c < 128) := by simp only [AP]; omega
    refine (BO (a := true) fun k => ?_).trans ?_
    · rw [if_pos (by rfl), show idx [c] 0 = some c from rfl, Option.bind_some, decide_eq_true this]
    try dsimp only
    rw [if_pos rfl, show idx [c] 0 = some c from rfl, Option.bind_some]
    unfold strings_trimLeftByte
    rw [AO, Pp c _ l N hN]; rfl
def G7 (p : UInt8 → Bool) (l : List UInt8) : List UInt8 := (l.reverse.dropWhile p).reverse
theorem MN (p : UInt8 → Bool) (l : List UInt8) (x : UInt8) : G7 p (l ++ [x]) = if p x = true then G7 p l else l ++ [x] := by
  unfold G7
  rw [List.reverse_append, List.reverse_cons, List.reverse_nil, List.nil_append, List.singleton_append, List.dropWhile_cons]
  split <;> simp
theorem QB (p : UInt8 → Bool) (l : List UInt8) : (G7 p l).length ≤ l.length := by
  unfold G7
  have := (List.dropWhile_sublist p (l := l.reverse)).length_le
  simpa using this
theorem Wu {α : Type} (l : List α) (x : α) (hb : l.length ≤ 2 ^ 60) : sub (l ++ [x]) 0 (wr .i64 ((((l ++ [x]).length : Nat) : Int) - 1)) = some l := by
  rw [Au (by simp <;> omega), show (((l ++ [x]).length : Nat) : Int) - 1 = (l.length : Int) by simp, show (0 : Int) = ((0 : Nat) : Int) from rfl, DX _ 0 l.length (by omega) (by simp)]
  simp
theorem Xw {α : Type} (l : List α) (x : α) (hb : l.length ≤ 2 ^ 60) : idx (l ++ [x]) (wr .i64 ((((l ++ [x]).length : Nat) : Int) - 1)) = some x := by
  rw [Au (by simp <;> omega), show (((l ++ [x]).length : Nat) : Int) - 1 = (l.length : Int) by simp, NC]
  simp
theorem Po (c : UInt8) (k2 : List UInt8 → Option (List UInt8)) : ∀ (n : Nat) (l : List UInt8), l.length = n → n ≤ 2 ^ 60 → ∀ k : Nat, n < k → BH N (AP c) k2 k l = k2 (G7 (· == c) l)
  | 0, l, hl, hb, k + 1, _ => by
    have : l = [] := List.length_eq_zero_iff.1 hl
    subst this
    rw [BH, AO]; rfl
  | n + 1, l, hl, hb, k + 1, h => by
    obtain ⟨l', x, rfl⟩ : ∃ l' x, l = l' ++ [x] := by
      have hne : l ≠ [] := fun e => by subst e; simp at hl
      exact ⟨l.dropLast, l.getLast hne, (List.dropLast_concat_getLast hne).symm⟩
    have hl' : l'.length = n := by simpa using hl
    rw [BH, AO, if_pos (by simp <;> omega), Xw l' x (by omega), Option.bind_some, Md, MN]
    try dsimp only
    cases x == c
    · rfl
    · rw [if_pos rfl, if_pos rfl, Wu l' x (by omega), Option.bind_some, Po c k2 n l' hl' (by omega) k (by omega)]
theorem AFj (c : UInt8) (l : List UInt8) (hc : c.toNat < 128) (hb : l.length ≤ 2 ^ 60) (hN : l.length < N) : EM N l [c] = some (G7 (· == c) l) := by
  unfold EM
  refine (BO (a := l == []) fun k => ?_).trans ?_
  · cases l == [] <;> rfl
  try dsimp only
  by_cases h : l = []
  · subst h; rfl
  · rw [if_neg (by simpa using h)]
    have : (AP c < 128) := by simp only [AP]; omega
    refine (BO (a := true) fun k => ?_).trans ?_
    · rw [if_pos (by rfl), show idx [c] 0 = some c from rfl, Option.bind_some, decide_eq_true this]
    try dsimp only
    rw [if_pos rfl, show idx [c] 0 = some c from rfl, Option.bind_some]
    unfold strings_trimRightByte
    rw [AO, Po c _ _ l rfl hb N hN]; rfl
def XW (as : List Bool) (set : List UInt8) : Prop := as.length = 256 ∧ ∀ c : UInt8, as[c.toNat]? = some (set.contains c)
theorem Yl (k2 : List Bool → Option (List Bool × Bool)) (done : List UInt8) : ∀ (l : List UInt8) (done : List UInt8) (bn : List Bool), (∀ c ∈ l, c.toNat < 128) → XW bn done → ∃ as, Ay N k2 l bn = k2 as ∧ XW as (done ++ l)
  | [], done, bn, hl, hs => ⟨bn, by rw [Ay], by simpa using hs⟩
  | x :: l, done, bn, hl, hs => by
    have hx := hl x (by simp)
    have c1 : ¬ AP x ≥ 128 := by simp only [AP]; omega
    obtain ⟨as, h1, h2⟩ := Yl k2 done l (done ++ [x]) (bn.set x.toNat true) (fun c hc => hl c (by simp [hc])) ⟨by simp [hs.1], fun c => by
      rw [List.getElem?_set]
      by_cases e : x.toNat = c.toNat
      · have : x = c := UInt8.toNat_inj.1 e
        subst this
        rw [if_pos rfl, if_pos (by rw [hs.1]; exact x.toNat_lt)]
        simp
      · rw [if_neg e, hs.2 c]
        have : ¬ c = x := fun h => e (by rw [h])
        simp [this]⟩
    refine ⟨as, ?_, by simpa using h2⟩
    rw [Ay, if_neg (by simpa using c1), AL (by simp only [AP]; omega), AL (by rw [hs.1]; simp only [AP, Int.toNat_natCast]; omega)]
    exact h1
theorem AES (set : List UInt8) (hl : ∀ c ∈ set, c.toNat < 128) (hb : set.length ≤ 1000) : ∃ as, strings_makeASCIISet N set = some (as, true) ∧ XW as set := by
  unfold strings_makeASCIISet
  rw [AO, AL (by unfold Ab; omega)]
  obtain ⟨as, h1, h2⟩ := Yl (N := N) (fun j1 => grd (j1.length = 256) (some (j1, true))) [] set [] (TT 256) hl ⟨QR, fun c => by
    have := c.toNat_lt
    rw [TT, List.getElem?_replicate, if_pos (by omega)]; rfl⟩
  exact ⟨as, by rw [h1, AL h2.1], h2⟩
theorem YM {as : List Bool} {set : List UInt8} (h : XW as set) (c : UInt8) : Bp N as (AP c) = some (set.contains c, as) := by
  have := c.toNat_lt
  unfold Bp
  rw [AL (by simp only [AP]; omega), Hy, NC, h.2 c]; rfl
theorem Qu (k2 : List UInt8 × List Bool → Option (List UInt8 × List Bool)) {as : List Bool} {set : List UInt8} (hs : XW as set) : ∀ (l : List UInt8) (k : Nat), l.length < k → BI N k2 k l as = k2 (l.dropWhile set.contains, as)
  | [], k + 1, _ => by rw [BI]; rfl
  | x :: l, k + 1, h => by
    simp only [List.length_cons] at h
    rw [BI, if_pos (by simp <;> omega), show idx (x :: l) 0 = some x from rfl, Option.bind_some, YM hs, Option.bind_some, List.dropWhile_cons]
    try dsimp only
    cases set.contains x
    · rfl
    · rw [if_pos rfl, Ir, Option.bind_some, Qu k2 hs l k (by omega)]; rfl
theorem AB1 (l set : List UInt8) (h2 : 2 ≤ set.length) (hs : set.length ≤ 1000) (hl : ∀ c ∈ set, c.toNat < 128) (hN : l.length < N) : Cr N l set = some (l.dropWhile set.contains) := by
  unfold Cr
  have hne : set ≠ [] := fun e => by subst e; simp at h2
  refine (BO (a := l == []) fun k => ?_).trans ?_
  · have : (set == []) = false := by simpa using hne
    rw [this]
    cases l == [] <;> rfl
  try dsimp only
  by_cases h : l = []
  · subst h; rfl
  · rw [if_neg (by simpa using h)]
    refine (BO (a := false) fun k => ?_).trans ?_
    · rw [if_neg (by simp <;> omega)]
    try dsimp only
    obtain ⟨as, e1, e2⟩ := AES (N := N) set hl hs
    rw [if_neg (by decide), e1, Option.bind_some, AL QR, AL e2.1, if_pos rfl]
    unfold strings_trimLeftASCII
    rw [AO, Qu _ e2 l N hN]; rfl
theorem AHQ (c : UInt8) (l : List UInt8) : strings_HasPrefix N l [c] = some (Bn [c] l) := by
  unfold strings_HasPrefix Ca
  cases l with
  | nil => rfl
  | cons x l =>
    rw [if_pos (by simp <;> omega), show sub (x :: l) 0 ((([c] : List UInt8).length : Nat) : Int) = some [x] by
      rw [show (0 : Int) = ((0 : Nat) : Int) from rfl, DX _ 0 _ (by omega) (by simp)]; rfl, Option.bind_some, Option.bind_some]
    unfold Bn
    by_cases h : x = c
    · subst h; simp
    · have h' : ¬ c = x := fun e => h e.symm
      simp [h]
def AIm (n : Nat) : Nat := if 65 ≤ n ∧ n ≤ 90 then n + 32 else n
def Jj (c : UInt8) : UInt8 := UInt8.ofNat (AIm c.toNat)
theorem WO (l : List UInt8) (hb : l.length ≤ 2 ^ 60) (k2 : List Int → Option (List UInt8)) : ∀ (t pre : List UInt8), l = pre ++ t → Cf N l k2 t (pre.length : Int) (List.map AP (pre.map Jj) ++ List.map AP t) = k2 (List.map AP (l.map Jj))
  | [], pre, h => by rw [Cf, h]; simp
  | c :: t, pre, h => by
    have hlen : pre.length < l.length := by rw [h]; simp
    have hc := c.toNat_lt
    rw [Cf]
    refine (BO (a := List.map AP (pre.map Jj) ++ (AP (Jj c) :: List.map AP t)) fun k7 => ?_).trans ?_
    · rw [AL (by omega), List.map_cons]
      have hi : idx (List.map AP (pre.map Jj) ++ AP c :: List.map AP t) (pre.length : Int) = some (AP c) := by
        have := TL (List.map AP (pre.map Jj)) (List.map AP t) (AP c)
        simpa using this
      rw [hi, Option.bind_some]
      refine (BO (a := decide (65 ≤ c.toNat ∧ c.toNat ≤ 90)) fun k12 => ?_).trans ?_
      · by_cases h1 : 65 ≤ c.toNat
        · have : (65 : Int) ≤ AP c := by simp only [AP]; omega
          rw [if_pos (decide_eq_true this)]
          congr 1
          simp only [AP, h1, true_and]
          congr 1; simp only [eq_iff_iff]; omega
        · have : ¬ (65 : Int) ≤ AP c := by simp only [AP]; omega
          rw [if_neg (by simpa using this), decide_eq_false (fun h => h1 h.1)]
      try dsimp only
      by_cases h1 : 65 ≤ c.toNat ∧ c.toNat ≤ 90
      · rw [if_pos (decide_eq_true h1), AL (by simp <;> omega)]
        have e : Jj c = UInt8.ofNat (c.toNat + 32) := by unfold Jj AIm; rw [if_pos h1]
        have e2 : AP (Jj c) = wr .u8 (AP c + 32) := by
          rw [e, AJE (by simp only [AP]; omega)]
          simp only [AP]
          rw [toNat_ofNat (by omega)]; simp
        rw [← e2]
        congr 1
        simp
      · rw [if_neg (by simpa using h1)]
        have e : Jj c = c := by unfold Jj AIm; rw [if_neg h1]; simp
        rw [e]
    · try dsimp only
      have := WO l hb k2 t (pre ++ [c]) (by rw [h]; simp)
      rw [← NM] at this
      rw [← this]
      simp
theorem lower_eq (l : List UInt8) (hb : l.length ≤ 2 ^ 60) : IB N l = some (l.map Jj) := by
  unfold IB
  rw [AO, AL (by unfold Ab; omega)]
  have := WO (N := N) l hb (fun j1 => grd (l.length ≤ j1.length ∧ Ab l.length) (some (List.map EW (List.take l.length j1)))) l [] rfl
  simp only [List.map_nil, List.nil_append, List.length_nil] at this
  rw [show (0 : Int) = ((0 : Nat) : Int) from rfl, this, AL (by unfold Ab; simp; omega), List.take_of_length_le (by simp)]
  congr 1
  induction l with
  | nil => rfl
  | cons c l ih => simp [Ia]
end
end Go.VM
namespace Go.VM
section
variable {N : Nat}
theorem OV : ∀ l : List UInt8, List.map EW (List.map AP l) = l
  | [] => rfl
  | c :: l => by rw [List.map_cons, List.map_cons, Ia, OV l]
def Ul : Nat → Nat → List UInt8 → List UInt8
  | 0, _, acc => acc
  | k + 1, n, acc => if n / 10 = 0 then UInt8.ofNat (48 + n % 10) :: acc else Ul k (n / 10) (UInt8.ofNat (48 + n % 10) :: acc)
def fmtS (n : Nat) : List UInt8 := Ul 20 n []
theorem Vh : ∀ (k n : Nat) (acc : List UInt8), (Ul k n acc).length ≤ acc.length + k
  | 0, n, acc => by simp [Ul]
  | k + 1, n, acc => by
    rw [Ul]
    split
    · simp <;> omega
    · have := Vh k (n / 10) (UInt8.ofNat (48 + n % 10) :: acc)
      simp only [List.length_cons] at this; omega
theorem XK (n : Nat) : (fmtS n).length ≤ 20 := by have := Vh 20 n []; simpa [fmtS] using this
theorem AKH (n : Nat) : wr .u64 ((n : Int).tdiv 10) = if n < 2 ^ 64 then ((n / 10 : Nat) : Int) else wr .u64 ((n : Int).tdiv 10) := by
  split
  · rw [Int.tdiv_eq_ediv_of_nonneg (by omega), IK (by omega)]; simp
  · rfl
theorem AJF {n : Nat} (h : n < 2 ^ 64) : wr .u64 ((n : Int).tdiv 10) = ((n / 10 : Nat) : Int) := by rw [AKH, if_pos h]
theorem AJG {n : Nat} : wr .u64 (48 + (n : Int).tmod 10) = ((48 + n % 10 : Nat) : Int) := by
  rw [Int.tmod_eq_emod_of_nonneg (by omega), IK (by omega)]; simp
theorem Mi : ∀ (k n : Nat) (acc : List UInt8), n < 10 ^ k → n < 2 ^ 64 → acc.length + k ≤ 1000 → ∀ m, k ≤ m → 0 < k → Di N m (n : Int) acc = some (Ul k n acc)
  | 0, n, acc, h, h2, ha, m, hm, hk => by omega
  | k + 1, n, acc, h, h2, ha, m + 1, hm, hk => by
    rw [Di, AJF h2, AJG, Ul]
    rw [AL (by unfold Ab; simp <;> omega)]
    have e : (List.map EW [wr .u8 ((48 + n % 10 : Nat) : Int)] ++ acc) = UInt8.ofNat (48 + n % 10) :: acc := by
      rw [IJ, Nat.mod_eq_of_lt (show 48 + n % 10 < 256 by omega)]; rfl
    rw [e]
    by_cases c : n / 10 = 0
    · rw [if_pos (by rw [c]; rfl), if_pos c]
    · have c' : ¬ ((((n / 10 : Nat) : Int)) == 0) = true := by simp <;> omega
      rw [if_neg c', if_neg c]
      have hk2 : 0 < k := by
        cases k with
        | zero => simp at h; omega
        | succ => omega
      exact Mi k (n / 10) _ (by rw [Nat.pow_succ] at h; omega) (by omega) (by simp <;> omega) m (by omega) hk2
theorem Qq (n : Nat) (h : n < 2 ^ 64) (hN : 20 ≤ N) : Fj N (n : Int) = some (fmtS n) := by
  unfold Fj fmtS
  exact Mi 20 n [] (by omega) h (by simp) N hN (by omega)
theorem XC (a : Nat) (x : Int) (acc : List Int) : (List.replicate (a + 1) 0 ++ acc).set a x = List.replicate a 0 ++ x :: acc := by
  rw [List.replicate_succ', List.append_assoc]
  simp
theorem M9 (k2 : Int × Int × List Int → Option (List UInt8)) (R : List UInt8 → Option (List UInt8)) (hk : ∀ (n a : Nat) (acc : List UInt8), n < 10 → a ≤ 19 → acc.length + a = 19 → k2 ((n : Int), (a : Int), List.replicate (a + 1) 0 ++ acc.map AP) = R (UInt8.ofNat (48 + n) :: acc)) :
    ∀ (j n a : Nat) (acc : List UInt8), n < 10 ^ (j + 1) → n < 2 ^ 64 → j ≤ a → a ≤ 19 → acc.length + a = 19 → ∀ m, j < m → DU N k2 m (n : Int) (a : Int) (List.replicate (a + 1) 0 ++ acc.map AP) = R (Ul (j + 1) n acc)
  | j, n, a, acc, h, h2, hj, ha, hl, 0, hm => by omega
  | j, n, a, acc, h, h2, hj, ha, hl, m + 1, hm => by
    rw [DU, Ul]
    by_cases c : n / 10 = 0
    · have c' : ¬ (n : Int) ≥ 10 := by omega
      rw [if_neg (by simpa using c'), if_pos c, Nat.mod_eq_of_lt (by omega)]
      exact hk n a acc (by omega) ha hl
    · have c' : (n : Int) ≥ 10 := by omega
      rw [if_pos (decide_eq_true c'), if_neg c]
      obtain ⟨j, rfl⟩ : ∃ i, j = i + 1 := ⟨j - 1, by
        cases j with
        | zero => simp at h; omega
        | succ => omega⟩
      obtain ⟨a, rfl⟩ : ∃ i, a = i + 1 := ⟨a - 1, by omega⟩
      rw [AL (by omega), AL (by simp <;> omega), AJF h2, AJG, IJ, Nat.mod_eq_of_lt (show 48 + n % 10 < 256 by omega), Au (by omega)]
      rw [show ((a + 1 : Nat) : Int) - 1 = (a : Int) by simp, Int.toNat_natCast, XC]
      have e : List.replicate (a + 1) 0 ++ ((48 + n % 10 : Nat) : Int) :: List.map AP acc = List.replicate (a + 1) 0 ++ List.map AP (UInt8.ofNat (48 + n % 10) :: acc) := by
        rw [List.map_cons, Hy, toNat_ofNat (by omega)]
      rw [e]
      exact M9 k2 R hk j (n / 10) a _ (by rw [Nat.pow_succ] at h; omega) (by omega) (by omega) (by omega) (by simp <;> omega) m (by omega)
theorem QV (n : Nat) (h : n < 2 ^ 64) (hN : 20 ≤ N) : FE N (n : Int) = some (fmtS n) := by
  unfold FE fmtS
  rw [AO]
  refine M9 (N := N) _ some (fun n a acc hn ha hl => ?_) 19 n 19 [] (by omega) h (by omega) (by omega) rfl N (by omega)
  have w : wr .u8 (wr .u64 (48 + (n : Int))) = ((48 + n : Nat) : Int) := by
    rw [IK (by omega), show (48 : Int) + (n : Int) = ((48 + n : Nat) : Int) by simp, IJ, Nat.mod_eq_of_lt (by omega)]
  simp only [Int.toNat_natCast, w]
  rw [XC]
  rw [AL (by omega), AL (by simp <;> omega), AL (by omega), AL (by unfold Ab; simp <;> omega)]
  congr 1
  rw [List.drop_append, List.drop_of_length_le (by simp), List.length_replicate, Nat.sub_self, List.drop_zero, List.nil_append, List.take_of_length_le (by simp <;> omega), List.map_cons, OV]
  rfl
end
end Go.VM
