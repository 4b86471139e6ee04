import Derived.Test.YtbmilkoebhmnnaaDoorL2
import Derived.Test.YtbmilkoebhmnnaaDoorDefs
set_option linter.unusedVariables false
set_option linter.unusedSimpArgs false
namespace Go.VM
section
variable {N : Nat}
def Cf : Nat → List UInt8 → Option Nat
  | 0, _ => none
  | _ + 1, [] => some 0
  | k + 1, c :: t =>
    match IC (c :: t) with
    | some (_, n) => (Cf k ((c :: t).drop n)).map (· + 1)
    | none => none
def Z5 (n : Nat) : Option Nat → Int
  | some m => ((n + m : Nat) : Int)
  | none => -1
section
variable {l : List UInt8}
theorem OG (hb : l.length ≤ 2 ^ 50) (hN : 5 ≤ N) : ∀ (k : Nat) (t : List UInt8) (i n : Nat), l.drop i = t → i ≤ l.length → t.length < k → n ≤ i → DZ N l (fun j => some j) k (n : Int) (i : Int) = some (Z5 n (Cf k t))
  | 0, t, i, n, ht, hi, hk, hn => by omega
  | k + 1, [], i, n, ht, hi, hk, hn => by
    have hl := CL ht hi
    simp only [List.length_nil] at hl
    have c : ¬ (i : Int) < (l.length : Int) := by omega
    rw [DZ, if_neg (by simpa using c)]; rfl
  | k + 1, c :: t, i, n, ht, hi, hk, hn => by
    have hl := CL ht hi
    simp only [List.length_cons] at hl hk
    have c0 : (i : Int) < (l.length : Int) := by omega
    rw [DZ, if_pos (decide_eq_true c0), ADp hN (by omega) (by omega), Option.bind_some, ht, Cf]
    cases hd : IC (c :: t) with
    | none => rfl
    | some p =>
      obtain ⟨r, m⟩ := p
      obtain ⟨e1, e2, _⟩ := Qd hd
      simp only [List.length_cons] at e2
      rw [QO, if_neg (by simp), A8 (by omega), show (n : Int) + 1 = ((n + 1 : Nat) : Int) by simp]
      rw [OG hb hN k _ (i + m) (n + 1) (by rw [← List.drop_drop, ht]) (by omega) (by rw [List.length_drop, List.length_cons]; omega) (by omega)]
      simp only []
      cases Cf k ((c :: t).drop m) with
      | none => rfl
      | some q => simp only [Z5, Option.map_some]; congr 1; omega
theorem NW (hb : l.length ≤ 2 ^ 50) (hN : l.length + 5 ≤ N) : Fa N l = some (Cf N l).isSome := by
  unfold Fa Iy
  rw [AO]
  have := OG (N := N) hb (by omega) N l 0 0 (by simp) (by omega) (by omega) (by omega)
  rw [show (0 : Int) = ((0 : Nat) : Int) from rfl, this, Option.bind_some]
  cases Cf N l with
  | none => rfl
  | some q => simp [Z5]
end
def Ll : List UInt8 := [48, 49, 50, 51, 52, 53, 54, 55, 56, 57, 97, 98, 99, 100, 101, 102]
def qN (n : Nat) : List UInt8 :=
  if n = 34 then [92, 34] else if n = 92 then [92, 92] else if n = 8 then [92, 98] else if n = 12 then [92, 102] else if n = 10 then [92, 110] else if n = 13 then [92, 114] else if n = 9 then [92, 116]
  else if n < 32 then [92, 117, 48, 48, Ll.getD (n / 16) 0, Ll.getD (n % 16) 0] else [UInt8.ofNat n]
def qB (c : UInt8) : List UInt8 := qN c.toNat
theorem AFp (c : UInt8) : 1 ≤ (qB c).length ∧ (qB c).length ≤ 6 := by
  unfold qB qN
  repeat' split
  all_goals simp
def gR (n : Nat) : Option (List Int) :=
  if ((n : Int) == 34 || (n : Int) == 92) = true then some [92, (n : Int)] else if ((n : Int) == 8) = true then some [92, 98] else if ((n : Int) == 12) = true then some [92, 102] else if ((n : Int) == 10) = true then some [92, 110]
  else if ((n : Int) == 13) = true then some [92, 114] else if ((n : Int) == 9) = true then some [92, 116]
  else if decide ((n : Int) < 32) = true then (idx Ll (wr .u8 ((n : Int).tdiv 16))).bind fun x => (idx Ll ((n : Int).tmod 16)).map fun y => [92, 117, 48, 48, AP x, AP y]
  else some [(n : Int)]
theorem AKN (c : UInt8) : gR c.toNat = some ((qB c).map AP) := EA (f := gR) (g := fun n => some ((qN n).map AP)) (by kernel_rfl) c
theorem VC (k4 : List Int → Option (List UInt8 × Int)) (c : UInt8) (xs : List UInt8) (s : List Int) (hs : s.length ≤ 2 ^ 40) : Bq N k4 (c :: xs) s = Bq N k4 xs (s ++ (qB c).map AP) := by
  have key := AKN c
  unfold gR at key
  rw [Bq]
  refine (BQ (a := s ++ (qB c).map AP) fun k => ?_).trans rfl
  refine (BQ (a := (AP c == 34) || (AP c == 92)) fun k13 => ?_).trans ?_
  · cases AP c == 34 <;> rfl
  try dsimp only
  rw [H7]
  have f : ∀ {w : List Int}, some w = some ((qB c).map AP) → ∀ m : Nat, m ≤ 10 → grd (Bn (s.length + m) 1) (k (s ++ w)) = k (s ++ (qB c).map AP) := by
    intro w hw m hm
    rw [AL (by unfold Bn; omega), Option.some.inj hw]
  by_cases h1 : ((c.toNat : Int) == 34 || (c.toNat : Int) == 92) = true
  · rw [if_pos h1] at key ⊢; exact f key 2 (by omega)
  rw [if_neg h1] at key ⊢
  by_cases h2 : ((c.toNat : Int) == 8) = true
  · rw [if_pos h2] at key ⊢; exact f key 2 (by omega)
  rw [if_neg h2] at key ⊢
  by_cases h3 : ((c.toNat : Int) == 12) = true
  · rw [if_pos h3] at key ⊢; exact f key 2 (by omega)
  rw [if_neg h3] at key ⊢
  by_cases h4 : ((c.toNat : Int) == 10) = true
  · rw [if_pos h4] at key ⊢; exact f key 2 (by omega)
  rw [if_neg h4] at key ⊢
  by_cases h5 : ((c.toNat : Int) == 13) = true
  · rw [if_pos h5] at key ⊢; exact f key 2 (by omega)
  rw [if_neg h5] at key ⊢
  by_cases h6 : ((c.toNat : Int) == 9) = true
  · rw [if_pos h6] at key ⊢; exact f key 2 (by omega)
  rw [if_neg h6] at key ⊢
  by_cases h7 : decide ((c.toNat : Int) < 32) = true
  · rw [if_pos h7] at key ⊢
    rw [Option.bind_eq_some_iff] at key
    obtain ⟨x, hx, key⟩ := key
    rw [Option.map_eq_some_iff] at key
    obtain ⟨y, hy, he⟩ := key
    rw [show ([48, 49, 50, 51, 52, 53, 54, 55, 56, 57, 97, 98, 99, 100, 101, 102] : List UInt8) = Ll from rfl, hx, Option.bind_some, hy, Option.bind_some]
    exact f (congrArg some he) 6 (by omega)
  · rw [if_neg h7] at key ⊢; exact f key 1 (by omega)
theorem OH (k4 : List Int → Option (List UInt8 × Int)) : ∀ (l : List UInt8) (s : List Int), s.length + 6 * l.length ≤ 2 ^ 40 → Bq N k4 l s = k4 (s ++ (l.flatMap qB).map AP)
  | [], s, h => by rw [Bq]; simp
  | c :: l, s, h => by
    have hq := AFp c
    simp only [List.length_cons] at h
    rw [VC k4 c l s (by omega), OH k4 l _ (by rw [List.length_append, List.length_map]; omega)]
    rw [List.flatMap_cons, List.map_append, List.append_assoc]
theorem Fb : ∀ l : List UInt8, List.map EY (List.map AP l) = l
  | [] => rfl
  | c :: l => by rw [List.map_cons, List.map_cons, IV, Fb l]
theorem q_len : ∀ l : List UInt8, (l.flatMap qB).length ≤ 6 * l.length
  | [] => by simp
  | c :: l => by
    have := q_len l
    have := AFp c
    rw [List.flatMap_cons, List.length_append, List.length_cons]; omega
def BP (l : List UInt8) : List UInt8 := 34 :: (l.flatMap qB ++ [34])
def Uh (N : Nat) (l : List UInt8) : List UInt8 × Int := if l.length > 1048576 then ([], 5) else if (Cf N l).isSome = true then (BP l, 0) else ([], 7)
theorem ABF (l : List UInt8) (h : l.length ≤ 1048576) : (grd (Bn (([34] ++ (l.flatMap qB).map AP : List Int).length + 1) 1) (some ((List.map EY (([34] ++ (l.flatMap qB).map AP) ++ [34])), (0 : Int)))) = some (BP l, 0) := by
  have := q_len l
  rw [AL (by unfold Bn; simp only [List.length_append, List.length_map, List.length_cons, List.length_nil]; omega)]
  rw [List.map_append, List.map_append, Fb]; rfl
theorem Sc (l : List UInt8) (hN : l.length + 5 ≤ N ∨ 1048576 < l.length) : FZ N l = some (Uh N l) := by
  unfold FZ Uh
  by_cases h : l.length > 1048576
  · have : (l.length : Int) > 1048576 := by omega
    rw [if_pos (decide_eq_true this), if_pos h]
  · have h' : ¬ (l.length : Int) > 1048576 := by omega
    rw [if_neg (by simpa using h'), if_neg h, NW (by omega) (by omega), Option.bind_some]
    by_cases hv : (Cf N l).isSome = true
    · rw [if_pos hv, if_pos hv, AO, AL (by unfold Ac; omega), OH _ l [34] (by simp; omega)]
      exact ABF l (by omega)
    · rw [if_neg hv, if_neg hv]
end
end Go.VM
namespace Go.VM
theorem AIc (a b : UInt8) : a < b ∨ a = b ∨ b < a := by
  rcases Nat.lt_trichotomy a.toNat b.toNat with h | h | h
  · exact .inl (UInt8.lt_iff_toNat_lt.2 h)
  · exact .inr (.inl (UInt8.toNat_inj.1 h))
  · exact .inr (.inr (UInt8.lt_iff_toNat_lt.2 h))
theorem AIU (a : UInt8) : ¬ a < a := fun h => Nat.lt_irrefl _ (UInt8.lt_iff_toNat_lt.1 h)
theorem AKH {a b c : UInt8} (h : a < b) (k : b < c) : a < c := UInt8.lt_iff_toNat_lt.2 (Nat.lt_trans (UInt8.lt_iff_toNat_lt.1 h) (UInt8.lt_iff_toNat_lt.1 k))
theorem ADi : ∀ a b : List UInt8, Op.bytesLess a b = true ∨ a = b ∨ Op.bytesLess b a = true
  | [], [] => .inr (.inl rfl)
  | [], _ :: _ => .inl (by simp [Op.bytesLess])
  | _ :: _, [] => .inr (.inr (by simp [Op.bytesLess]))
  | a :: x, b :: y => by
    simp only [Op.bytesLess, Bool.or_eq_true, decide_eq_true_eq, Bool.and_eq_true, beq_iff_eq]
    rcases AIc a b with h | rfl | h
    · exact .inl (.inl h)
    · rcases ADi x y with h | rfl | h
      · exact .inl (.inr ⟨rfl, h⟩)
      · exact .inr (.inl rfl)
      · exact .inr (.inr (.inr ⟨rfl, h⟩))
    · exact .inr (.inr (.inl h))
theorem ADM : ∀ a : List UInt8, Op.bytesLess a a = false
  | [] => rfl
  | a :: x => by simp [Op.bytesLess, AIU, ADM x]
theorem AEe : ∀ {a b c : List UInt8}, Op.bytesLess a b = true → Op.bytesLess b c = true → Op.bytesLess a c = true
  | [], [], _, h, _ => by simp [Op.bytesLess] at h
  | [], _ :: _, [], _, k => by simp [Op.bytesLess] at k
  | [], _ :: _, _ :: _, _, _ => by simp [Op.bytesLess]
  | _ :: _, [], _, h, _ => by simp [Op.bytesLess] at h
  | _ :: _, _ :: _, [], _, k => by simp [Op.bytesLess] at k
  | a :: x, b :: y, c :: z, h, k => by
    simp only [Op.bytesLess, Bool.or_eq_true, decide_eq_true_eq, Bool.and_eq_true, beq_iff_eq] at h k ⊢
    rcases h with h | ⟨rfl, h⟩
    · rcases k with k | ⟨rfl, k⟩
      · exact .inl (AKH h k)
      · exact .inl h
    · rcases k with k | ⟨rfl, k⟩
      · exact .inl k
      · exact .inr ⟨rfl, AEe h k⟩
def leB (a b : List UInt8) : Bool := Op.bytesLess a b || a == b
theorem SL (a b : List UInt8) : (leB a b || leB b a) = true := by
  unfold leB
  rcases ADi a b with h | rfl | h <;> simp [*]
theorem SG (a b c : List UInt8) (h : leB a b = true) (k : leB b c = true) : leB a c = true := by
  unfold leB at *
  simp only [Bool.or_eq_true, beq_iff_eq] at *
  rcases h with h | rfl
  · rcases k with k | rfl
    · exact .inl (AEe h k)
    · exact .inl h
  · exact k
theorem Vv {a b : List UInt8} (h : leB a b = true) (k : leB b a = true) : a = b := by
  unfold leB at *
  simp only [Bool.or_eq_true, beq_iff_eq] at *
  rcases h with h | rfl
  · rcases k with k | rfl
    · have := AEe h k; rw [ADM] at this; cases this
    · rfl
  · rfl
def Asc (l : List (List UInt8)) : Prop := l.Pairwise fun a b => leB a b = true
theorem ZP {l m : List (List UInt8)} (hp : l.Perm m) (h1 : Asc l) (h2 : Asc m) : l = m :=
  List.Perm.eq_of_pairwise (le := fun a b => leB a b = true) (fun a b _ _ => Vv) h1 h2 hp
def Ia (l : List (List UInt8)) : List (List UInt8) := l.mergeSort leB
theorem HV (l : List (List UInt8)) : (Ia l).Perm l := List.mergeSort_perm l leB
theorem R3 (l : List (List UInt8)) : Asc (Ia l) := List.pairwise_mergeSort SG SL l
section
variable {N : Nat}
theorem Kj {n : Nat} (h : n ≤ 1000000000) : Bn n 16 := by unfold Bn; omega
theorem KV : ∀ (k : Nat) (a b o : List (List UInt8)), a.length + b.length < k → a.length + b.length + o.length ≤ 1000000 →
    CP N (fun j7 => grd (Bn (j7.2.2.length + j7.1.length) 16) (grd (Bn ((j7.2.2 ++ j7.1).length + j7.2.1.length) 16) (some ((j7.2.2 ++ j7.1) ++ j7.2.1)))) k a b o = some (o ++ List.merge a b leB)
  | 0, _, _, _, h, _ => by omega
  | k + 1, [], b, o, h, hb => by
    rw [CP]
    simp only [List.length_nil] at hb
    simp only [AO, List.length_nil, if_neg (show ¬ decide ((((0 : Nat) : Int)) > 0) = true by decide), Bool.false_eq_true, if_false]
    rw [AL (Kj (by simp; omega)), AL (Kj (by simp; omega))]
    simp
  | k + 1, x :: a, [], o, h, hb => by
    rw [CP]
    simp only [List.length_nil, List.length_cons] at hb
    have c1 : decide ((((x :: a).length : Nat) : Int) > 0) = true := by simp
    simp only [AO, c1, if_true, List.length_nil, show decide ((((0 : Nat) : Int)) > 0) = false from rfl, Bool.false_eq_true, if_false]
    rw [AL (Kj (by simp; omega)), AL (Kj (by simp; omega))]
    simp
  | k + 1, x :: a, y :: b, o, h, hb => by
    rw [CP]
    simp only [List.length_cons] at hb h
    have c1 : decide ((((x :: a).length : Nat) : Int) > 0) = true := by simp
    have c2 : decide ((((y :: b).length : Nat) : Int) > 0) = true := by simp
    have i1 : idx (x :: a) 0 = some x := rfl
    have i2 : idx (y :: b) 0 = some y := rfl
    have s1 : sub (x :: a) 1 (((x :: a).length : Nat) : Int) = some a := by
      have := Df (x :: a) 1 (x :: a).length (by simp) (by simp)
      simpa using this
    have s2 : sub (y :: b) 1 (((y :: b).length : Nat) : Int) = some b := by
      have := Df (y :: b) 1 (y :: b).length (by simp) (by simp)
      simpa using this
    simp only [AO, c1, c2, if_true, i1, i2, Option.bind_some, s1, s2]
    rw [AL (Kj (by omega)), List.cons_merge_cons]
    show (if leB x y = true then _ else _) = _
    split
    · rw [KV k a (y :: b) (o ++ [x]) (by simp; omega) (by simp; omega)]; simp
    · rw [AL (Kj (by omega)), KV k (x :: a) b (o ++ [y]) (by simp; omega) (by simp; omega)]; simp
theorem NK : ∀ (D : Nat) (l : List (List UInt8)), l.length ≤ D → l.length ≤ 1000000 → l.length < N → ∃ s, Cw N (D + 1) l = some s ∧ s.Perm l ∧ Asc s
  | D, l, hD, hb, hN => by
    rw [Cw]
    by_cases h2 : l.length < 2
    · rw [if_pos (by simp; omega)]
      refine ⟨l, rfl, List.Perm.refl _, ?_⟩
      match l, h2 with
      | [], _ => exact .nil
      | [x], _ => exact List.pairwise_singleton _ _
      | _ :: _ :: _, h2 => simp only [List.length_cons] at h2; omega
    · rw [if_neg (by simp; omega)]
      obtain ⟨D, rfl⟩ : ∃ e, D = e + 1 := ⟨D - 1, by omega⟩
      have e0 : wr .i64 ((l.length : Int).tdiv 2) = ((l.length / 2 : Nat) : Int) := by
        rw [show (l.length : Int).tdiv 2 = ((l.length / 2 : Nat) : Int) from rfl]
        exact FN (by omega)
      have l1 : (l.take (l.length / 2)).length = l.length / 2 := by rw [List.length_take]; omega
      have l2 : (l.drop (l.length / 2)).length = l.length - l.length / 2 := by rw [List.length_drop]
      obtain ⟨s1, a1, a2, a3⟩ := NK D (l.take (l.length / 2)) (by omega) (by omega) (by omega)
      obtain ⟨s2, b1, b2, b3⟩ := NK D (l.drop (l.length / 2)) (by omega) (by omega) (by omega)
      have n1 := a2.length_eq; have n2 := b2.length_eq
      rw [e0, show (0 : Int) = ((0 : Nat) : Int) from rfl, Df l 0 (l.length / 2) (by omega) (by omega), Option.bind_some]
      simp only [List.drop_zero, Nat.sub_zero]
      rw [a1, Option.bind_some, Df l (l.length / 2) l.length (by omega) (by omega), Option.bind_some, List.take_of_length_le (by rw [l2]; exact Nat.le_refl _), b1, Option.bind_some, AO]
      rw [KV N s1 s2 [] (by omega) (by simp; omega)]
      refine ⟨_, rfl, ?_, ?_⟩
      · have := (List.merge_perm_append (le := leB) (xs := s1) (ys := s2)).trans (a2.append b2)
        simpa using this
      · exact List.pairwise_merge SG SL s1 s2 a3 b3
theorem JY (l : List (List UInt8)) (hb : l.length ≤ 1000000) (hN : l.length < N) : Cw N N l = some (Ia l) := by
  obtain ⟨M, rfl⟩ : ∃ M, N = M + 1 := ⟨N - 1, by omega⟩
  obtain ⟨s, h1, h2, h3⟩ := NK (N := M + 1) M l (by omega) hb hN
  rw [h1, ZP (h2.trans (HV l).symm) h3 (R3 l)]
def Iz (N : Nat) (l : List (List UInt8)) : Bool := decide l.Nodup && l.all fun k => (Cf N k).isSome
theorem AC9 {a b : List UInt8} {l : List (List UInt8)} (h : Asc (a :: b :: l)) (hne : a ≠ b) : a ∉ b :: l := by
  intro hm
  rcases List.mem_cons.1 hm with e | hm
  · exact hne e
  · unfold Asc at h
    simp only [List.pairwise_cons, List.mem_cons] at h
    have h1 := h.1 b (.inl rfl)
    have h2 := h.2.1 a hm
    exact hne (Vv h1 h2)
theorem Rm (k4 : Unit → Option Bool) (h4 : k4 () = some true) (s : List (List UInt8)) (hb : s.length ≤ 1000000) : ∀ (suf pre : List (List UInt8)), s = pre ++ suf → Asc s → (∀ k, k ∈ suf → k.length ≤ 2 ^ 50 ∧ k.length + 5 ≤ N) →
    BX N s k4 suf (pre.length : Int) = some ((match pre.getLast? with | some x => decide (x ∉ suf) | none => true) && decide suf.Nodup && suf.all fun k => (Cf N k).isSome)
  | [], pre, hs, _, _ => by rw [BX, h4]; cases pre.getLast? <;> simp
  | k :: suf, pre, hs, ha, hl => by
    have hk := hl k (by simp)
    have ih := Rm k4 h4 s hb suf (pre ++ [k]) (by rw [hs]; simp) ha (fun x hx => hl x (by simp [hx]))
    simp only [List.getLast?_append, List.getLast?_singleton, Option.some_or] at ih
    have hlen : pre.length < s.length := by rw [hs]; simp
    rw [BX]
    simp only [AO]
    rw [NW (by omega) (by omega), Option.bind_some, Ms pre k, ih]
    cases hv : (Cf N k).isSome
    · simp [hv]
    · simp only [if_true]
      rcases List.eq_nil_or_concat pre with rfl | ⟨p, x, rfl⟩
      · simp [hv, List.nodup_cons, Bool.and_comm, Bool.and_assoc]
      · have hx : idx s (wr .i64 (((p.concat x).length : Int) - 1)) = some x := by
          have e : (((p.concat x).length : Int) - 1) = ((p.length : Nat) : Int) := by simp
          rw [e, FN (by simp at hlen; omega), K3, hs]
          simp
        rw [if_pos (by simp), hx, Option.bind_some]
        have ha2 : Asc (x :: k :: suf) := by
          have : s = p ++ (x :: k :: suf) := by rw [hs]; simp
          rw [this] at ha
          exact (List.pairwise_append.1 ha).2.1
        by_cases hxk : x = k
        · subst hxk; simp
        · have hnm := AC9 ha2 hxk
          simp [hxk, hv, hnm, List.nodup_cons, Bool.and_comm, Bool.and_assoc]
theorem TG (l : List (List UInt8)) (hb : l.length ≤ 1000000) (hN : l.length < N) (hl : ∀ k, k ∈ l → k.length ≤ 2 ^ 50 ∧ k.length + 5 ≤ N) : E8 N l = some (Iz N l) := by
  have hp := HV l
  unfold E8
  rw [JY l hb hN, Option.bind_some, AO, JC (by rw [hp.length_eq]; omega)]
  have := Rm (N := N) (fun _ => some true) rfl (Ia l) (by rw [hp.length_eq]; exact hb) (Ia l) [] rfl (R3 l) (fun k hk => hl k (hp.mem_iff.1 hk))
  refine this.trans ?_
  unfold Iz
  congr 1
  have e1 : decide (Ia l).Nodup = decide l.Nodup := by rw [decide_eq_decide]; exact hp.nodup_iff
  have e2 : ((Ia l).all fun k => (Cf N k).isSome) = l.all fun k => (Cf N k).isSome := by
    rw [Bool.eq_iff_iff, List.all_eq_true, List.all_eq_true]
    exact ⟨fun h x hx => h x (hp.mem_iff.2 hx), fun h x hx => h x (hp.mem_iff.1 hx)⟩
  simp [e1, e2]
end
end Go.VM
namespace Go.VM
def zeroV : ApiValue := ApiValue.mk 0 [] [] []
def JM : List (List UInt8) → List ApiValue → List UInt8 → ApiValue × Bool
  | k :: ks, x :: xs, key => if k == key then (x, true) else JM ks xs key
  | _, _, _ => (zeroV, false)
def AHD (v : ApiValue) (key : List UInt8) : ApiValue × Bool := if v.kind == 7 then JM v.keys v.items key else (zeroV, false)
mutual
def ED : ApiValue → Nat
  | ⟨_, _, _, items⟩ => 1 + Ba items
def Ba : List ApiValue → Nat
  | [] => 0
  | x :: xs => ED x + Ba xs
end
theorem GA (v : ApiValue) : ED v = 1 + Ba v.items := by cases v; rw [ED]
inductive okW : Nat → ApiValue → Prop
  | mk {d : Nat} (v : ApiValue) (ht : v.text.length ≤ 300) (hk : v.keys.length ≤ 910) (hl : ∀ k, k ∈ v.keys → k.length ≤ 300) (hi : v.items.length ≤ 900) (h : ∀ x, x ∈ v.items → okW d x) : okW (d + 1) v
section
variable {N : Nat}
theorem okW.text {d : Nat} {v : ApiValue} : okW d v → v.text.length ≤ 300 | .mk _ h _ _ _ _ => h
theorem okW.keys {d : Nat} {v : ApiValue} : okW d v → v.keys.length ≤ 910 | .mk _ _ h _ _ _ => h
theorem okW.klen {d : Nat} {v : ApiValue} : okW d v → ∀ k, k ∈ v.keys → k.length ≤ 300 | .mk _ _ _ h _ _ => h
theorem okW.items {d : Nat} {v : ApiValue} : okW d v → v.items.length ≤ 900 | .mk _ _ _ _ h _ => h
theorem okW.sub {d : Nat} {v : ApiValue} : okW (d + 1) v → ∀ x, x ∈ v.items → okW d x | .mk _ _ _ _ _ h => h
theorem okW.pos {d : Nat} {v : ApiValue} : okW d v → 0 < d | .mk _ _ _ _ _ _ => by omega
theorem okW.mono {d : Nat} {v : ApiValue} (h : okW d v) : ∀ e, d ≤ e → okW e v := by
  induction h with
  | mk v ht hk hl hi h ih =>
    intro e he
    obtain ⟨e', rfl⟩ : ∃ e', e = e' + 1 := ⟨e - 1, by omega⟩
    exact .mk v ht hk hl hi fun x hx => ih x hx e' (by omega)
theorem SE (v : ApiValue) (key : List UInt8) (k2 : Unit → Option (ApiValue × Bool)) : ∀ (ks : List (List UInt8)) (i : Int), (v.items.length : Int) ≤ i → CS N v key k2 ks i = k2 ()
  | [], i, h => by rw [CS]
  | x :: ks, i, h => by
    have h3 : decide (i < (v.items.length : Int)) = false := by simp; omega
    rw [CS, AO, h3, SE v key k2 ks (i + 1) (by omega)]
    simp
theorem SY (v : ApiValue) (key : List UInt8) (k2 : Unit → Option (ApiValue × Bool)) (h5 : k2 () = some (zeroV, false)) : ∀ (ks : List (List UInt8)) (xs xpre : List ApiValue), v.items = xpre ++ xs →
    CS N v key k2 ks (xpre.length : Int) = some (JM ks xs key)
  | [], xs, xpre, hx => by
    rw [CS]; simp [h5, JM]
  | x :: ks, [], xpre, hx => by
    have e : JM (x :: ks) [] key = (zeroV, false) := by simp [JM]
    rw [SE v key k2 _ _ (by rw [hx]; simp), h5, e]
  | x :: ks, y :: ys, xpre, hx => by
    have ih := SY v key k2 h5 ks ys (xpre ++ [y]) (by rw [hx]; simp)
    rw [CS, AO, AKX hx, AJp hx, Option.bind_some, Ms xpre y, ih, JM]
    cases x == key <;> simp
theorem AHX (v : ApiValue) (key : List UInt8) (hb : v.keys.length ≤ 4611686018427387904) : Jc N v key = some (AHD v key) := by
  unfold Jc AHD
  cases h : (v.kind == 7)
  · have : (v.kind != 7) = true := by simp only [bne, h, Bool.not_false]
    rw [if_pos this]; rfl
  · have : (v.kind != 7) = false := by simp only [bne, h, Bool.not_true]
    rw [this, if_neg (by simp), AO, JC (by omega)]
    exact SY (N := N) v key (fun _ => some (zeroV, false)) rfl v.keys v.items [] rfl
inductive okD : Nat → ApiValue → Prop
  | mk {d : Nat} (v : ApiValue) (hk : v.keys.length ≤ 4611686018427387904) (hi : v.items.length ≤ 4611686018427387904) (h : ∀ x, x ∈ v.items → okD d x) : okD (d + 1) v
theorem okW.d {d : Nat} {v : ApiValue} (h : okW d v) : okD d v := by
  induction h with
  | mk v ht hk hl hi h ih => exact .mk v (by omega) (by omega) ih
end
end Go.VM
namespace Go.VM
section
variable {N : Nat}
theorem WM : ∀ (l : List UInt8) (c : UInt8), Go.Lib.indexByte l c = if l.contains c = true then (((l.takeWhile (· != c)).length : Nat) : Int) else -1
  | [], c => rfl
  | x :: l, c => by
    have ih := WM l c
    rw [Go.Lib.indexByte, List.contains_cons]
    by_cases e : x = c
    · subst e; simp
    · have e1 : (c == x) = false := by simpa using fun h : c = x => e h.symm
      have e2 : (x == c) = false := by simpa using e
      have e3 : (x != c) = true := by simpa using e
      rw [e1, e2, Bool.false_or, List.takeWhile_cons, e3]
      simp only [Bool.false_eq_true, if_false, if_true, List.length_cons]
      by_cases k : l.contains c = true
      · rw [if_pos k] at ih
        rw [if_pos k, ih]
        have : (((((l.takeWhile (· != c)).length : Nat) : Int)) == -1) = false := by
          simp only [beq_eq_false_iff_ne, ne_eq]; omega
        rw [this]; simp
      · rw [if_neg k] at ih
        rw [if_neg k, ih]; rfl
theorem Zm {α : Type} (p : α → Bool) (l : List α) : l.drop (l.takeWhile p).length = l.dropWhile p := by
  have := List.takeWhile_append_dropWhile (p := p) (l := l)
  conv => lhs; rw [← this]
  rw [List.drop_append, List.drop_of_length_le (by rw [this]; exact Nat.le_refl _), this]
  simp
def Q7 (c : UInt8) (l : List UInt8) : List UInt8 × List UInt8 × Bool := if l.contains c = true then (l.takeWhile (· != c), (l.dropWhile (· != c)).drop 1, true) else (l, [], false)
theorem AFa {c : UInt8} : ∀ {l : List UInt8}, l.contains c = true → (l.takeWhile (· != c)).length < l.length
  | [], h => by cases h
  | x :: l, h => by
    rw [List.takeWhile_cons]
    by_cases e : x = c
    · subst e; simp
    · have e3 : (x != c) = true := by simpa using e
      rw [List.contains_cons] at h
      have e1 : (c == x) = false := by simpa using fun h : c = x => e h.symm
      rw [e1, Bool.false_or] at h
      rw [e3]
      have := AFa h
      simp only [if_true, List.length_cons]; omega
theorem AEu (c : UInt8) (l : List UInt8) (hb : l.length ≤ 2 ^ 60) : strings_Cut N l [c] = some (Q7 c l) := by
  unfold strings_Cut DT Cx Q7
  have hk : ∀ k : Bool → Option Int, (if ((([c] : List UInt8).length : Int) == 0) = true then k true else k ([c] == l)) = k ([c] == l) := fun k => rfl
  have hI : (AR (fun j1 : Bool => if j1 = true then some (0 : Int) else if ((([c] : List UInt8).length : Int) == 1) = true then Option.bind (idx [c] 0) fun x5 => Option.bind (Ae N l (AP x5)) fun y6 => some y6 else if decide ((([c] : List UInt8).length : Int) ≥ (l.length : Int)) = true then some (-1) else none) fun k2 => if ((([c] : List UInt8).length : Int) == 0) = true then k2 true else k2 ([c] == l)) = some (Go.Lib.indexByte l c) := by
    refine (BQ (a := [c] == l) fun k => rfl).trans ?_
    by_cases h : ([c] == l) = true
    · have : l = [c] := by have := beq_iff_eq.1 h; exact this.symm
      subst this
      simp [Go.Lib.indexByte]
    · rw [if_neg h, if_pos (by rfl), show idx [c] 0 = some c from rfl, Option.bind_some]
      unfold Ae
      rw [IV]; rfl
  rw [hI, Option.bind_some, WM]
  by_cases h : l.contains c = true
  · have hlt := AFa h
    simp only [h, if_true]
    generalize hn : (l.takeWhile (· != c)).length = n at *
    have w : wr .i64 ((n : Int) + (([c] : List UInt8).length : Int)) = ((n + 1 : Nat) : Int) := by rw [A8 (by simp <;> omega)]; simp
    rw [if_pos (by simp), show (0 : Int) = ((0 : Nat) : Int) from rfl, Df l 0 n (by omega) (by omega), Option.bind_some, w, Df l (n + 1) l.length (by omega) (by omega), Option.bind_some, Option.bind_some]
    rw [List.drop_zero, Nat.sub_zero, ← hn, Lu, List.take_of_length_le (by simp), ← List.drop_drop, Zm]
  · rw [if_neg h, if_neg h, if_neg (by decide), Option.bind_some]
theorem MK (x c : UInt8) : (AP x == AP c) = (x == c) := by
  by_cases h : x = c
  · subst h; simp
  · have : ¬ x.toNat = c.toNat := fun e => h (UInt8.toNat_inj.1 e)
    have h2 : (x == c) = false := by simpa using h
    rw [h2]; simp only [AP, beq_eq_false_iff_ne, ne_eq]; omega
theorem Ib {α : Type} (x : α) (l : List α) : sub (x :: l) 1 (((x :: l).length : Nat) : Int) = some l := by
  have := Df (x :: l) 1 (x :: l).length (by simp) (Nat.le_refl _)
  rw [show (1 : Int) = ((1 : Nat) : Int) from rfl, this]
  simp
theorem QG (c : UInt8) (k2 : List UInt8 → Option (List UInt8)) : ∀ (l : List UInt8) (k : Nat), l.length < k → BO N (AP c) k2 k l = k2 (l.dropWhile (· == c))
  | [], k + 1, _ => by rw [BO, AO]; rfl
  | x :: l, k + 1, h => by
    simp only [List.length_cons] at h
    rw [BO, AO, if_pos (by simp <;> omega), show idx (x :: l) 0 = some x from rfl, Option.bind_some, MK, List.dropWhile_cons]
    try dsimp only
    cases x == c
    · rfl
    · rw [if_pos rfl, Ib, Option.bind_some, QG c k2 l k (by omega)]; rfl
theorem AEO (c : UInt8) (l : List UInt8) (hc : c.toNat < 128) (hN : l.length < N) : Cm N l [c] = some (l.dropWhile (· == c)) := by
  unfold Cm
  refine (BQ (a := l == []) fun k => ?_).trans ?_
  · cases l == [] <;> rfl
  try dsimp only
  by_cases h : l = []
  · subst h; rfl
  · rw [if_neg (by simpa using h)]
    have : (AP c < 128) := by simp only [AP]; omega
    refine (BQ (a := true) fun k => ?_).trans ?_
    · rw [if_pos (by rfl), show idx [c] 0 = some c from rfl, Option.bind_some, decide_eq_true this]
    try dsimp only
    rw [if_pos rfl, show idx [c] 0 = some c from rfl, Option.bind_some]
    unfold strings_trimLeftByte
    rw [AO, QG c _ l N hN]; rfl
def Gy (p : UInt8 → Bool) (l : List UInt8) : List UInt8 := (l.reverse.dropWhile p).reverse
theorem Ls (p : UInt8 → Bool) (l : List UInt8) (x : UInt8) : Gy p (l ++ [x]) = if p x = true then Gy p l else l ++ [x] := by
  unfold Gy
  rw [List.reverse_append, List.reverse_cons, List.reverse_nil, List.nil_append, List.singleton_append, List.dropWhile_cons]
  split <;> simp
theorem Qn (p : UInt8 → Bool) (l : List UInt8) : (Gy p l).length ≤ l.length := by
  unfold Gy
  have := (List.dropWhile_sublist p (l := l.reverse)).length_le
  simpa using this
theorem YD {α : Type} (l : List α) (x : α) (hb : l.length ≤ 2 ^ 60) : sub (l ++ [x]) 0 (wr .i64 ((((l ++ [x]).length : Nat) : Int) - 1)) = some l := by
  rw [A8 (by simp <;> omega), show (((l ++ [x]).length : Nat) : Int) - 1 = (l.length : Int) by simp, show (0 : Int) = ((0 : Nat) : Int) from rfl, Df _ 0 l.length (by omega) (by simp)]
  simp
theorem YX {α : Type} (l : List α) (x : α) (hb : l.length ≤ 2 ^ 60) : idx (l ++ [x]) (wr .i64 ((((l ++ [x]).length : Nat) : Int) - 1)) = some x := by
  rw [A8 (by simp <;> omega), show (((l ++ [x]).length : Nat) : Int) - 1 = (l.length : Int) by simp, K3]
  simp
theorem Pz (c : UInt8) (k2 : List UInt8 → Option (List UInt8)) : ∀ (n : Nat) (l : List UInt8), l.length = n → n ≤ 2 ^ 60 → ∀ k : Nat, n < k → BJ N (AP c) k2 k l = k2 (Gy (· == c) l)
  | 0, l, hl, hb, k + 1, _ => by
    have : l = [] := List.length_eq_zero_iff.1 hl
    subst this
    rw [BJ, AO]; rfl
  | n + 1, l, hl, hb, k + 1, h => by
    obtain ⟨l', x, rfl⟩ : ∃ l' x, l = l' ++ [x] := by
      have hne : l ≠ [] := fun e => by subst e; simp at hl
      exact ⟨l.dropLast, l.getLast hne, (List.dropLast_concat_getLast hne).symm⟩
    have hl' : l'.length = n := by simpa using hl
    rw [BJ, AO, if_pos (by simp <;> omega), YX l' x (by omega), Option.bind_some, MK, Ls]
    try dsimp only
    cases x == c
    · rfl
    · rw [if_pos rfl, if_pos rfl, YD l' x (by omega), Option.bind_some, Pz c k2 n l' hl' (by omega) k (by omega)]
theorem AFn (c : UInt8) (l : List UInt8) (hc : c.toNat < 128) (hb : l.length ≤ 2 ^ 60) (hN : l.length < N) : EP N l [c] = some (Gy (· == c) l) := by
  unfold EP
  refine (BQ (a := l == []) fun k => ?_).trans ?_
  · cases l == [] <;> rfl
  try dsimp only
  by_cases h : l = []
  · subst h; rfl
  · rw [if_neg (by simpa using h)]
    have : (AP c < 128) := by simp only [AP]; omega
    refine (BQ (a := true) fun k => ?_).trans ?_
    · rw [if_pos (by rfl), show idx [c] 0 = some c from rfl, Option.bind_some, decide_eq_true this]
    try dsimp only
    rw [if_pos rfl, show idx [c] 0 = some c from rfl, Option.bind_some]
    unfold strings_trimRightByte
    rw [AO, Pz c _ _ l rfl hb N hN]; rfl
def X0 (as : List Bool) (set : List UInt8) : Prop := as.length = 256 ∧ ∀ c : UInt8, as[c.toNat]? = some (set.contains c)
theorem Vk (k2 : List Bool → Option (List Bool × Bool)) (done : List UInt8) : ∀ (l : List UInt8) (done : List UInt8) (bn : List Bool), (∀ c ∈ l, c.toNat < 128) → X0 bn done → ∃ as, Ay N k2 l bn = k2 as ∧ X0 as (done ++ l)
  | [], done, bn, hl, hs => ⟨bn, by rw [Ay], by simpa using hs⟩
  | x :: l, done, bn, hl, hs => by
    have hx := hl x (by simp)
    have c1 : ¬ AP x ≥ 128 := by simp only [AP]; omega
    obtain ⟨as, h1, h2⟩ := Vk k2 done l (done ++ [x]) (bn.set x.toNat true) (fun c hc => hl c (by simp [hc])) ⟨by simp [hs.1], fun c => by
      rw [List.getElem?_set]
      by_cases e : x.toNat = c.toNat
      · have : x = c := UInt8.toNat_inj.1 e
        subst this
        rw [if_pos rfl, if_pos (by rw [hs.1]; exact x.toNat_lt)]
        simp
      · rw [if_neg e, hs.2 c]
        have : ¬ c = x := fun h => e (by rw [h])
        simp [this]⟩
    refine ⟨as, ?_, by simpa using h2⟩
    rw [Ay, if_neg (by simpa using c1), AL (by simp only [AP]; omega), AL (by rw [hs.1]; simp only [AP, Int.toNat_natCast]; omega)]
    exact h1
theorem AFH (set : List UInt8) (hl : ∀ c ∈ set, c.toNat < 128) (hb : set.length ≤ 1000) : ∃ as, strings_makeASCIISet N set = some (as, true) ∧ X0 as set := by
  unfold strings_makeASCIISet
  rw [AO, AL (by unfold Ac; omega)]
  obtain ⟨as, h1, h2⟩ := Vk (N := N) (fun j1 => grd (j1.length = 256) (some (j1, true))) [] set [] (Sd 256) hl ⟨Ql, fun c => by
    have := c.toNat_lt
    rw [Sd, List.getElem?_replicate, if_pos (by omega)]; rfl⟩
  exact ⟨as, by rw [h1, AL h2.1], h2⟩
theorem Xw {as : List Bool} {set : List UInt8} (h : X0 as set) (c : UInt8) : Bo N as (AP c) = some (set.contains c, as) := by
  have := c.toNat_lt
  unfold Bo
  rw [AL (by simp only [AP]; omega), H7, K3, h.2 c]; rfl
theorem QR (k2 : List UInt8 × List Bool → Option (List UInt8 × List Bool)) {as : List Bool} {set : List UInt8} (hs : X0 as set) : ∀ (l : List UInt8) (k : Nat), l.length < k → BI N k2 k l as = k2 (l.dropWhile set.contains, as)
  | [], k + 1, _ => by rw [BI]; rfl
  | x :: l, k + 1, h => by
    simp only [List.length_cons] at h
    rw [BI, if_pos (by simp <;> omega), show idx (x :: l) 0 = some x from rfl, Option.bind_some, Xw hs, Option.bind_some, List.dropWhile_cons]
    try dsimp only
    cases set.contains x
    · rfl
    · rw [if_pos rfl, Ib, Option.bind_some, QR k2 hs l k (by omega)]; rfl
theorem ACl (l set : List UInt8) (h2 : 2 ≤ set.length) (hs : set.length ≤ 1000) (hl : ∀ c ∈ set, c.toNat < 128) (hN : l.length < N) : Cm N l set = some (l.dropWhile set.contains) := by
  unfold Cm
  have hne : set ≠ [] := fun e => by subst e; simp at h2
  refine (BQ (a := l == []) fun k => ?_).trans ?_
  · have : (set == []) = false := by simpa using hne
    rw [this]
    cases l == [] <;> rfl
  try dsimp only
  by_cases h : l = []
  · subst h; rfl
  · rw [if_neg (by simpa using h)]
    refine (BQ (a := false) fun k => ?_).trans ?_
    · rw [if_neg (by simp <;> omega)]
    try dsimp only
    obtain ⟨as, e1, e2⟩ := AFH (N := N) set hl hs
    rw [if_neg (by decide), e1, Option.bind_some, AL Ql, AL e2.1, if_pos rfl]
    unfold strings_trimLeftASCII
    rw [AO, QR _ e2 l N hN]; rfl
theorem AHo (c : UInt8) (l : List UInt8) : strings_HasPrefix N l [c] = some (Bz [c] l) := by
  unfold strings_HasPrefix CU
  cases l with
  | nil => rfl
  | cons x l =>
    rw [if_pos (by simp <;> omega), show sub (x :: l) 0 ((([c] : List UInt8).length : Nat) : Int) = some [x] by
      rw [show (0 : Int) = ((0 : Nat) : Int) from rfl, Df _ 0 _ (by omega) (by simp)]; rfl, Option.bind_some, Option.bind_some]
    unfold Bz
    by_cases h : x = c
    · subst h; simp
    · have h' : ¬ c = x := fun e => h e.symm
      simp [h]
def AGX (n : Nat) : Nat := if 65 ≤ n ∧ n ≤ 90 then n + 32 else n
def Ja (c : UInt8) : UInt8 := UInt8.ofNat (AGX c.toNat)
theorem Wl (l : List UInt8) (hb : l.length ≤ 2 ^ 60) (k2 : List Int → Option (List UInt8)) : ∀ (t pre : List UInt8), l = pre ++ t → Cc N l k2 t (pre.length : Int) (List.map AP (pre.map Ja) ++ List.map AP t) = k2 (List.map AP (l.map Ja))
  | [], pre, h => by rw [Cc, h]; simp
  | c :: t, pre, h => by
    have hlen : pre.length < l.length := by rw [h]; simp
    have hc := c.toNat_lt
    rw [Cc]
    refine (BQ (a := List.map AP (pre.map Ja) ++ (AP (Ja c) :: List.map AP t)) fun k7 => ?_).trans ?_
    · rw [AL (by omega), List.map_cons]
      have hi : idx (List.map AP (pre.map Ja) ++ AP c :: List.map AP t) (pre.length : Int) = some (AP c) := by
        have := TK (List.map AP (pre.map Ja)) (List.map AP t) (AP c)
        simpa using this
      rw [hi, Option.bind_some]
      refine (BQ (a := decide (65 ≤ c.toNat ∧ c.toNat ≤ 90)) fun k12 => ?_).trans ?_
      · by_cases h1 : 65 ≤ c.toNat
        · have : (65 : Int) ≤ AP c := by simp only [AP]; omega
          rw [if_pos (decide_eq_true this)]
          congr 1
          simp only [AP, h1, true_and]
          congr 1; simp only [eq_iff_iff]; omega
        · have : ¬ (65 : Int) ≤ AP c := by simp only [AP]; omega
          rw [if_neg (by simpa using this), decide_eq_false (fun h => h1 h.1)]
      try dsimp only
      by_cases h1 : 65 ≤ c.toNat ∧ c.toNat ≤ 90
      · rw [if_pos (decide_eq_true h1), AL (by simp <;> omega)]
        have e : Ja c = UInt8.ofNat (c.toNat + 32) := by unfold Ja AGX; rw [if_pos h1]
        have e2 : AP (Ja c) = wr .u8 (AP c + 32) := by
          rw [e, AIC (by simp only [AP]; omega)]
          simp only [AP]
          rw [toNat_ofNat (by omega)]; simp
        rw [← e2]
        congr 1
        simp
      · rw [if_neg (by simpa using h1)]
        have e : Ja c = c := by unfold Ja AGX; rw [if_neg h1]; simp
        rw [e]
    · try dsimp only
      have := Wl l hb k2 t (pre ++ [c]) (by rw [h]; simp)
      rw [← Ms] at this
      rw [← this]
      simp
theorem lower_eq (l : List UInt8) (hb : l.length ≤ 2 ^ 60) : Hr N l = some (l.map Ja) := by
  unfold Hr
  rw [AO, AL (by unfold Ac; omega)]
  have := Wl (N := N) l hb (fun j1 => grd (l.length ≤ j1.length ∧ Ac l.length) (some (List.map EY (List.take l.length j1)))) l [] rfl
  simp only [List.map_nil, List.nil_append, List.length_nil] at this
  rw [show (0 : Int) = ((0 : Nat) : Int) from rfl, this, AL (by unfold Ac; simp; omega), List.take_of_length_le (by simp)]
  congr 1
  induction l with
  | nil => rfl
  | cons c l ih => simp [IV]
end
end Go.VM
namespace Go.VM
section
variable {N : Nat}
theorem OQ : ∀ l : List UInt8, List.map EY (List.map AP l) = l
  | [] => rfl
  | c :: l => by rw [List.map_cons, List.map_cons, IV, OQ l]
def TR : Nat → Nat → List UInt8 → List UInt8
  | 0, _, acc => acc
  | k + 1, n, acc => if n / 10 = 0 then UInt8.ofNat (48 + n % 10) :: acc else TR k (n / 10) (UInt8.ofNat (48 + n % 10) :: acc)
def fmtS (n : Nat) : List UInt8 := TR 20 n []
theorem Ux : ∀ (k n : Nat) (acc : List UInt8), (TR k n acc).length ≤ acc.length + k
  | 0, n, acc => by simp [TR]
  | k + 1, n, acc => by
    rw [TR]
    split
    · simp <;> omega
    · have := Ux k (n / 10) (UInt8.ofNat (48 + n % 10) :: acc)
      simp only [List.length_cons] at this; omega
theorem V5 (n : Nat) : (fmtS n).length ≤ 20 := by have := Ux 20 n []; simpa [fmtS] using this
theorem AJW (n : Nat) : wr .u64 ((n : Int).tdiv 10) = if n < 2 ^ 64 then ((n / 10 : Nat) : Int) else wr .u64 ((n : Int).tdiv 10) := by
  split
  · rw [Int.tdiv_eq_ediv_of_nonneg (by omega), H9 (by omega)]; simp
  · rfl
theorem AIJ {n : Nat} (h : n < 2 ^ 64) : wr .u64 ((n : Int).tdiv 10) = ((n / 10 : Nat) : Int) := by rw [AJW, if_pos h]
theorem AIK {n : Nat} : wr .u64 (48 + (n : Int).tmod 10) = ((48 + n % 10 : Nat) : Int) := by
  rw [Int.tmod_eq_emod_of_nonneg (by omega), H9 (by omega)]; simp
theorem MN : ∀ (k n : Nat) (acc : List UInt8), n < 10 ^ k → n < 2 ^ 64 → acc.length + k ≤ 1000 → ∀ m, k ≤ m → 0 < k → Di N m (n : Int) acc = some (TR k n acc)
  | 0, n, acc, h, h2, ha, m, hm, hk => by omega
  | k + 1, n, acc, h, h2, ha, m + 1, hm, hk => by
    rw [Di, AIJ h2, AIK, TR]
    rw [AL (by unfold Ac; simp <;> omega)]
    have e : (List.map EY [wr .u8 ((48 + n % 10 : Nat) : Int)] ++ acc) = UInt8.ofNat (48 + n % 10) :: acc := by
      rw [IB, Nat.mod_eq_of_lt (show 48 + n % 10 < 256 by omega)]; rfl
    rw [e]
    by_cases c : n / 10 = 0
    · rw [if_pos (by rw [c]; rfl), if_pos c]
    · have c' : ¬ ((((n / 10 : Nat) : Int)) == 0) = true := by simp <;> omega
      rw [if_neg c', if_neg c]
      have hk2 : 0 < k := by
        cases k with
        | zero => simp at h; omega
        | succ => omega
      exact MN k (n / 10) _ (by rw [Nat.pow_succ] at h; omega) (by omega) (by simp <;> omega) m (by omega) hk2
theorem Ph (n : Nat) (h : n < 2 ^ 64) (hN : 20 ≤ N) : Fq N (n : Int) = some (fmtS n) := by
  unfold Fq fmtS
  exact MN 20 n [] (by omega) h (by simp) N hN (by omega)
theorem V4 (a : Nat) (x : Int) (acc : List Int) : (List.replicate (a + 1) 0 ++ acc).set a x = List.replicate a 0 ++ x :: acc := by
  rw [List.replicate_succ', List.append_assoc]
  simp
theorem M5 (k2 : Int × Int × List Int → Option (List UInt8)) (R : List UInt8 → Option (List UInt8)) (hk : ∀ (n a : Nat) (acc : List UInt8), n < 10 → a ≤ 19 → acc.length + a = 19 → k2 ((n : Int), (a : Int), List.replicate (a + 1) 0 ++ acc.map AP) = R (UInt8.ofNat (48 + n) :: acc)) :
    ∀ (j n a : Nat) (acc : List UInt8), n < 10 ^ (j + 1) → n < 2 ^ 64 → j ≤ a → a ≤ 19 → acc.length + a = 19 → ∀ m, j < m → DJ N k2 m (n : Int) (a : Int) (List.replicate (a + 1) 0 ++ acc.map AP) = R (TR (j + 1) n acc)
  | j, n, a, acc, h, h2, hj, ha, hl, 0, hm => by omega
  | j, n, a, acc, h, h2, hj, ha, hl, m + 1, hm => by
    rw [DJ, TR]
    by_cases c : n / 10 = 0
    · have c' : ¬ (n : Int) ≥ 10 := by omega
      rw [if_neg (by simpa using c'), if_pos c, Nat.mod_eq_of_lt (by omega)]
      exact hk n a acc (by omega) ha hl
    · have c' : (n : Int) ≥ 10 := by omega
      rw [if_pos (decide_eq_true c'), if_neg c]
      obtain ⟨j, rfl⟩ : ∃ i, j = i + 1 := ⟨j - 1, by
        cases j with
        | zero => simp at h; omega
        | succ => omega⟩
      obtain ⟨a, rfl⟩ : ∃ i, a = i + 1 := ⟨a - 1, by omega⟩
      rw [AL (by omega), AL (by simp <;> omega), AIJ h2, AIK, IB, Nat.mod_eq_of_lt (show 48 + n % 10 < 256 by omega), A8 (by omega)]
      rw [show ((a + 1 : Nat) : Int) - 1 = (a : Int) by simp, Int.toNat_natCast, V4]
      have e : List.replicate (a + 1) 0 ++ ((48 + n % 10 : Nat) : Int) :: List.map AP acc = List.replicate (a + 1) 0 ++ List.map AP (UInt8.ofNat (48 + n % 10) :: acc) := by
        rw [List.map_cons, H7, toNat_ofNat (by omega)]
      rw [e]
      exact M5 k2 R hk j (n / 10) a _ (by rw [Nat.pow_succ] at h; omega) (by omega) (by omega) (by omega) (by simp <;> omega) m (by omega)
theorem PZ (n : Nat) (h : n < 2 ^ 64) (hN : 20 ≤ N) : FJ N (n : Int) = some (fmtS n) := by
  unfold FJ fmtS
  rw [AO]
  refine M5 (N := N) _ some (fun n a acc hn ha hl => ?_) 19 n 19 [] (by omega) h (by omega) (by omega) rfl N (by omega)
  have w : wr .u8 (wr .u64 (48 + (n : Int))) = ((48 + n : Nat) : Int) := by
    rw [H9 (by omega), show (48 : Int) + (n : Int) = ((48 + n : Nat) : Int) by simp, IB, Nat.mod_eq_of_lt (by omega)]
  simp only [Int.toNat_natCast, w]
  rw [V4]
  rw [AL (by omega), AL (by simp <;> omega), AL (by omega), AL (by unfold Ac; simp <;> omega)]
  congr 1
  rw [List.drop_append, List.drop_of_length_le (by simp), List.length_replicate, Nat.sub_self, List.drop_zero, List.nil_append, List.take_of_length_le (by simp <;> omega), List.map_cons, OQ]
  rfl
end
end Go.VM
namespace Go.VM
structure NumP (s sg W F FR P EX : List UInt8) : Prop where
  eq : s = sg ++ (W ++ (FR ++ EX))
  sg : sg = [] ∨ sg = [45]
  Wd : W.all Cq = true
  Wn : W ≠ []
  fr : (FR = [] ∧ F = []) ∨ FR = 46 :: F
  Fd : F.all Cq = true
  ex : (EX = [] ∧ P = []) ∨ EX = 101 :: P ∨ EX = 69 :: P
  pw : P = [] ∨ ∃ sn D, P = sn ++ D ∧ (sn = [] ∨ sn = [43] ∨ sn = [45]) ∧ D ≠ [] ∧ D.all Cq = true
theorem PH (t : List UInt8) : (t.take (DU t)).all Cq = true := by
  unfold DU
  rw [Lu]
  induction t with
  | nil => rfl
  | cons c t ih =>
    rw [List.takeWhile_cons]
    cases h : Cq c
    · rfl
    · simp only [if_true, List.all_cons, h, Bool.true_and]; exact ih
theorem Qe {k : UInt8} {t : List UInt8} (h : Bz [k] t = true) : ∃ r, t = k :: r := by
  cases t with
  | nil => cases h
  | cons c r =>
    have : c = k := by simpa [Bz] using h
    exact ⟨r, by rw [this]⟩
theorem XV {a b : UInt8} {t : List UInt8} (h : Bz [a, b] t = true) : ∃ r, t = a :: r ∨ t = b :: r := by
  cases t with
  | nil => cases h
  | cons c r =>
    have : c = a ∨ c = b := by simpa [Bz] using h
    rcases this with rfl | rfl
    · exact ⟨r, .inl rfl⟩
    · exact ⟨r, .inr rfl⟩
theorem ACh (t : List UInt8) : t.take (AY t) = [] ∨ t.take (AY t) = [45] := by
  unfold AY
  by_cases h : Bz [45] t = true
  · rw [if_pos h]
    obtain ⟨r, rfl⟩ := Qe h
    exact .inr rfl
  · rw [if_neg h]; exact .inl (by simp)
theorem ADx (t : List UInt8) (h : CY t ≠ 0) : (t.take (CY t)).all Cq = true ∧ t.take (CY t) ≠ [] := by
  have hle := Mm t
  refine ⟨?_, fun e => ?_⟩
  · unfold CY
    by_cases h : Bz [48] t = true
    · rw [if_pos h]
      obtain ⟨r, rfl⟩ := Qe h
      rfl
    · rw [if_neg h]; exact PH t
  · have := congrArg List.length e
    rw [List.length_take, List.length_nil] at this
    omega
theorem ACG (t : List UInt8) : ∃ F, ((t.take (Dk t) = [] ∧ F = []) ∨ t.take (Dk t) = 46 :: F) ∧ F.all Cq = true := by
  unfold Dk
  by_cases h : Bz [46] t = true ∧ 0 < DU (t.drop 1)
  · rw [if_pos h]
    obtain ⟨r, rfl⟩ := Qe h.1
    refine ⟨r.take (DU r), .inr ?_, PH r⟩
    rw [Nat.add_comm]; rfl
  · rw [if_neg h]; exact ⟨[], .inl ⟨by simp, rfl⟩, rfl⟩
theorem AD7 (t : List UInt8) : ∃ P, ((t.take (IJ t) = [] ∧ P = []) ∨ t.take (IJ t) = 101 :: P ∨ t.take (IJ t) = 69 :: P) ∧ (P = [] ∨ ∃ sn D, P = sn ++ D ∧ (sn = [] ∨ sn = [43] ∨ sn = [45]) ∧ D ≠ [] ∧ D.all Cq = true) := by
  unfold IJ
  by_cases h : Bz [101, 69] t = true ∧ 0 < DU (t.drop (1 + F3 t))
  · rw [if_pos h]
    have key : ∀ (c : UInt8) (r : List UInt8), t = c :: r → ∃ P, t.take (1 + F3 t + DU (t.drop (1 + F3 t))) = c :: P ∧ (P = [] ∨ ∃ sn D, P = sn ++ D ∧ (sn = [] ∨ sn = [43] ∨ sn = [45]) ∧ D ≠ [] ∧ D.all Cq = true) := by
      rintro c r rfl
      have hr := h.2
      have hes : F3 (c :: r) = if Bz [43, 45] r = true then 1 else 0 := rfl
      by_cases k : Bz [43, 45] r = true
      · rw [if_pos k] at hes
        rw [hes] at hr ⊢
        obtain ⟨d, q, rfl, hd⟩ : ∃ d q, r = d :: q ∧ (d = 43 ∨ d = 45) := by
          obtain ⟨q, e | e⟩ := XV k
          · exact ⟨_, q, e, .inl rfl⟩
          · exact ⟨_, q, e, .inr rfl⟩
        have e : (c :: d :: q).drop (1 + 1) = q := rfl
        rw [e] at hr ⊢
        refine ⟨d :: q.take (DU q), ?_, .inr ⟨[d], q.take (DU q), rfl, ?_, fun e => ?_, PH q⟩⟩
        · rw [show 1 + 1 + DU q = DU q + 1 + 1 by omega]; rfl
        · rcases hd with rfl | rfl
          · exact .inr (.inl rfl)
          · exact .inr (.inr rfl)
        · have := congrArg List.length e
          have h2 := Jp q
          rw [List.length_take, List.length_nil] at this; omega
      · rw [if_neg k] at hes
        rw [hes] at hr ⊢
        have e : (c :: r).drop (1 + 0) = r := rfl
        rw [e] at hr ⊢
        refine ⟨r.take (DU r), ?_, .inr ⟨[], r.take (DU r), rfl, .inl rfl, fun e => ?_, PH r⟩⟩
        · rw [show 1 + 0 + DU r = DU r + 1 by omega]; rfl
        · have := congrArg List.length e
          have h2 := Jp r
          rw [List.length_take, List.length_nil] at this; omega
    obtain ⟨r, e | e⟩ := XV h.1
    · obtain ⟨P, h1, h2⟩ := key _ _ e
      exact ⟨P, .inr (.inl h1), h2⟩
    · obtain ⟨P, h1, h2⟩ := key _ _ e
      exact ⟨P, .inr (.inr h1), h2⟩
  · rw [if_neg h]; exact ⟨[], .inl ⟨by simp, rfl⟩, .inl rfl⟩
theorem AJX (s : List UInt8) (a b c : Nat) : s = s.take a ++ ((s.drop a).take b ++ ((s.drop (a + b)).take c ++ s.drop (a + b + c))) := by
  rw [show s.drop (a + b + c) = (s.drop (a + b)).drop c by rw [List.drop_drop], List.take_append_drop, show s.drop (a + b) = (s.drop a).drop b by rw [List.drop_drop], List.take_append_drop, List.take_append_drop]
theorem SI {s : List UInt8} (h0 : s ≠ []) (h : Ck s = s.length) : ∃ sg W F FR P EX, NumP s sg W F FR P EX := by
  have hpos : s.length ≠ 0 := fun e => h0 (List.length_eq_zero_iff.1 e)
  have hz : CY (s.drop (AY s)) ≠ 0 := by
    intro hz
    unfold Ck at h; rw [if_pos hz] at h; omega
  have hnum : Ck s = AY s + CY (s.drop (AY s)) + Dk (s.drop (AY s + CY (s.drop (AY s)))) + IJ (s.drop (AY s + CY (s.drop (AY s)) + Dk (s.drop (AY s + CY (s.drop (AY s)))))) := by
    unfold Ck; rw [if_neg hz]
  obtain ⟨w1, w2⟩ := ADx _ hz
  obtain ⟨F, f1, f2⟩ := ACG (s.drop (AY s + CY (s.drop (AY s))))
  obtain ⟨P, e1, e2⟩ := AD7 (s.drop (AY s + CY (s.drop (AY s)) + Dk (s.drop (AY s + CY (s.drop (AY s))))))
  refine ⟨_, _, F, _, P, _, ⟨?_, ACh s, w1, w2, f1, f2, e1, e2⟩⟩
  rw [List.take_of_length_le (l := s.drop (AY s + CY (s.drop (AY s)) + Dk (s.drop (AY s + CY (s.drop (AY s)))))) (by rw [List.length_drop]; omega)]
  exact AJX _ _ _ _
theorem AJO {c k : UInt8} (h : Cq c = true) (hk : Cq k = false) : c ≠ k := fun e => by subst e; rw [h] at hk; cases hk
theorem PE {k : UInt8} (hk : Cq k = false) : ∀ {l : List UInt8}, l.all Cq = true → l.contains k = false
  | [], _ => rfl
  | c :: l, h => by
    simp only [List.all_cons, Bool.and_eq_true] at h
    rw [List.contains_cons, PE hk h.2, Bool.or_false]
    have := AJO h.1 hk
    simpa using fun e : k = c => this e.symm
end Go.VM
