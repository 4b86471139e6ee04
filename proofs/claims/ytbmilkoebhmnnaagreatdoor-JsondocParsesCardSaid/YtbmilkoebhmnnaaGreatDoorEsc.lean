/- Escape sequences: the program's and the reference's readers are the same. -/
import Derived.Test.YtbmilkoebhmnnaaGreatDoorHex
set_option linter.unusedVariables false
set_option linter.unusedSimpArgs false
namespace Go.VM
section
variable {N : Nat}
/-- the number of a sequence of a unit at the head of a text -/
def unitB : List UInt8 → Option Nat
  | x :: y :: a :: b :: c :: d :: _ => if x = 92 ∧ y = 117 ∧ [a, b, c, d].all hexB = true then some (hexV 0 [a, b, c, d]) else none
  | _ => none
theorem unitB_short {t : List UInt8} (h : t.length < 6) : unitB t = none := by
  match t, h with
  | [], _ => rfl
  | [_], _ => rfl
  | [_, _], _ => rfl
  | [_, _, _], _ => rfl
  | [_, _, _, _], _ => rfl
  | [_, _, _, _, _], _ => rfl
  | _ :: _ :: _ :: _ :: _ :: _ :: _, h => simp at h; omega
theorem six {t : List UInt8} (h : ¬ t.length < 6) : ∃ x y a b c d r, t = x :: y :: a :: b :: c :: d :: r := by
  match t, h with
  | x :: y :: a :: b :: c :: d :: r, _ => exact ⟨x, y, a, b, c, d, r, rfl⟩
  | [], h => simp at h
  | [_], h => simp at h
  | [_, _], h => simp at h
  | [_, _, _], h => simp at h
  | [_, _, _, _], h => simp at h
  | [_, _, _, _, _], h => simp at h
theorem hexR_snd (l : List UInt8) : (hexR l).2 = if l.all hexB = true then 0 else 1 := by unfold hexR; split <;> rfl
theorem hexR_fst (l : List UInt8) : (hexR l).1 = if l.all hexB = true then ((hexV 0 l : Nat) : Int) else 0 := by unfold hexR; split <;> rfl
theorem runit_eq {l t : List UInt8} {i : Nat} (ht : l.drop i = t) (hi : i ≤ l.length) (hb : l.length ≤ 2 ^ 50) :
    ref13_unit N l (i : Int) = some (match unitB t with | some n => ((n : Int), true) | none => (0, false)) := by
  have hl := len_drop ht hi
  unfold ref13_unit
  have w6 : wr .i64 ((i : Int) + 6) = ((i + 6 : Nat) : Int) := by rw [wr_i64 (by omega)]; simp
  have w2 : wr .i64 ((i : Int) + 2) = ((i + 2 : Nat) : Int) := by rw [wr_i64 (by omega)]; simp
  have w1 : wr .i64 ((i : Int) + 1) = ((i + 1 : Nat) : Int) := by rw [wr_i64 (by omega)]; simp
  simp only [joinK_eq, w6, w2, w1]
  by_cases h6 : t.length < 6
  · have : ((i + 6 : Nat) : Int) > (l.length : Int) := by omega
    simp only [this, decide_true, if_true, unitB_short h6]
  · have c0 : ¬ ((i + 6 : Nat) : Int) > (l.length : Int) := by omega
    simp only [c0, decide_false, Bool.false_eq_true, if_false]
    obtain ⟨x, y, a, b, c, d, r, rfl⟩ := six h6
    have hx := idx_drop (j := 0) ht rfl
    simp only [Nat.add_zero] at hx
    have hy := idx_drop (j := 1) ht rfl
    rw [hx, Option.bind_some, hy, Option.bind_some, sub_nat l (i + 2) (i + 6) (by omega) (by omega), Option.bind_some]
    have e : (l.drop (i + 2)).take (i + 6 - (i + 2)) = [a, b, c, d] := by
      rw [← List.drop_drop, ht, show i + 6 - (i + 2) = 4 by omega]; rfl
    rw [e, rhexs_eq _ (by simp) (by simp), Option.bind_some]
    unfold unitB
    by_cases k1 : x = 92
    · have k1' : ((bord x) != 92) = false := by subst k1; rfl
      simp only [k1', Bool.false_eq_true, if_false]
      by_cases k2 : y = 117
      · have k2' : ((bord y) != 117) = false := by subst k2; rfl
        simp only [k2', Bool.false_eq_true, if_false, k1, k2, true_and]
        rw [hexR_snd, hexR_fst]
        by_cases k3 : [a, b, c, d].all hexB = true
        · have := hexV_lt [a, b, c, d] 0 k3
          simp only [k3, if_true]
          rw [wr_nat (by simp at this; omega)]; rfl
        · simp only [k3, if_false, Bool.false_eq_true]; rfl
      · have k2' : ((bord y) != 117) = true := by
          have : ¬ y.toNat = 117 := fun e => k2 (UInt8.toNat_inj.1 e)
          simp only [bne_iff_ne, ne_eq, bord]; omega
        simp only [k2', if_true, k2, false_and, and_false, if_false]
    · have k1' : ((bord x) != 92) = true := by
        have : ¬ x.toNat = 92 := fun e => k1 (UInt8.toNat_inj.1 e)
        simp only [bne_iff_ne, ne_eq, bord]; omega
      simp only [k1', if_true, k1, false_and, if_false]
theorem runit_some {l t : List UInt8} {i n : Nat} (hu : unitB t = some n) (ht : l.drop i = t) (hi : i ≤ l.length) (hb : l.length ≤ 2 ^ 50) : ref13_unit N l (i : Int) = some ((n : Int), true) := by
  rw [runit_eq ht hi hb, hu]
theorem runit_none {l t : List UInt8} {i : Nat} (hu : unitB t = none) (ht : l.drop i = t) (hi : i ≤ l.length) (hb : l.length ≤ 2 ^ 50) : ref13_unit N l (i : Int) = some (0, false) := by
  rw [runit_eq ht hi hb, hu]
theorem punit_eq {l t : List UInt8} {i : Nat} (ht : l.drop i = t) (hi : i ≤ l.length) (hb : l.length ≤ 2 ^ 50) :
    token_reader_unit N ⟨l, (i : Int)⟩ = some (match unitB t with | some n => ((n : Int), true, ⟨l, ((i + 6 : Nat) : Int)⟩) | none => (0, false, ⟨l, (i : Int)⟩)) := by
  have hl := len_drop ht hi
  unfold token_reader_unit
  have w6 : wr .i64 ((i : Int) + 6) = ((i + 6 : Nat) : Int) := by rw [wr_i64 (by omega)]; simp
  have w2 : wr .i64 ((i : Int) + 2) = ((i + 2 : Nat) : Int) := by rw [wr_i64 (by omega)]; simp
  have w0 : wr .i64 ((l.length : Int) - (i : Int)) = ((t.length : Nat) : Int) := by rw [wr_i64 (by omega)]; omega
  simp only [joinK_eq, w6, w2, w0]
  by_cases h6 : t.length < 6
  · have : ((t.length : Nat) : Int) < 6 := by omega
    simp only [this, decide_true, if_true, unitB_short h6]
  · have c0 : ¬ ((t.length : Nat) : Int) < 6 := by omega
    simp only [c0, decide_false, Bool.false_eq_true, if_false]
    obtain ⟨x, y, a, b, c, d, r, rfl⟩ := six h6
    have hl' : l.length = i + 6 + r.length := by rw [hl]; simp only [List.length_cons]; omega
    rw [sub_nat l i (i + 2) (by omega) (by omega), Option.bind_some, sub_nat l (i + 2) (i + 6) (by omega) (by omega), Option.bind_some]
    have e : (l.drop (i + 2)).take (i + 6 - (i + 2)) = [a, b, c, d] := by
      rw [← List.drop_drop, ht, show i + 6 - (i + 2) = 4 by omega]; rfl
    have e2 : (l.drop i).take (i + 2 - i) = [x, y] := by
      rw [ht, show i + 2 - i = 2 by omega]; rfl
    rw [e, e2, phexs_eq _ (by simp) (by simp), Option.bind_some]
    unfold unitB
    by_cases k1 : x = 92 ∧ y = 117
    · obtain ⟨rfl, rfl⟩ := k1
      rw [show (!(([92, 117] : List UInt8) == [92, 117])) = false from rfl]
      simp only [Bool.false_eq_true, if_false, true_and]
      rw [hexR_snd, hexR_fst]
      by_cases k3 : [a, b, c, d].all hexB = true
      · have := hexV_lt [a, b, c, d] 0 k3
        simp only [k3, if_true]
        rw [wr_nat (by simp at this; omega)]; rfl
      · simp only [k3, if_false, Bool.false_eq_true]; rfl
    · have k1' : (!(([x, y] : List UInt8) == [92, 117])) = true := by
        have : ([x, y] : List UInt8) ≠ [92, 117] := fun e => k1 (by simpa using e)
        simp only [Bool.not_eq_true', beq_eq_false_iff_ne]; exact this
      have k4 : ¬ (x = 92 ∧ y = 117 ∧ [a, b, c, d].all hexB = true) := fun h => k1 ⟨h.1, h.2.1⟩
      simp only [k1', if_true, k4, if_false]
theorem unitB_lt {t : List UInt8} {n : Nat} (h : unitB t = some n) : n < 65536 ∧ 6 ≤ t.length ∧ ∃ r, t = 92 :: 117 :: r := by
  by_cases h6 : t.length < 6
  · rw [unitB_short h6] at h; cases h
  · obtain ⟨x, y, a, b, c, d, r, rfl⟩ := six h6
    simp only [unitB] at h
    by_cases hc : x = 92 ∧ y = 117 ∧ [a, b, c, d].all hexB = true
    · rw [if_pos hc] at h
      simp only [Option.some.injEq] at h; subst h
      have := hexV_lt [a, b, c, d] 0 hc.2.2
      obtain ⟨rfl, rfl, _⟩ := hc
      exact ⟨by simpa using this, by simp, _, rfl⟩
    · rw [if_neg hc] at h; cases h
/-- the byte that a letter behind a backslash stands for -/
def simpN (n : Nat) : Option UInt8 :=
  if n = 34 then some 34 else if n = 92 then some 92 else if n = 47 then some 47 else if n = 98 then some 8 else if n = 102 then some 12 else if n = 110 then some 10 else if n = 114 then some 13 else if n = 116 then some 9 else none
def surB (hi lo : Nat) : Nat := 65536 + (hi - 55296) * 1024 + lo - 56320
/-- an escape sequence at the head of a text: what it stands for, its length, or the error -/
def escB (t : List UInt8) : List UInt8 × Nat × Int :=
  match unitB t with
  | some hi =>
    if 55296 ≤ hi ∧ hi ≤ 56319 then
      match unitB (t.drop 6) with
      | some lo => if 56320 ≤ lo ∧ lo ≤ 57343 then (encB (surB hi lo), 12, 0) else ([], 0, 7)
      | none => ([], 0, 7)
    else if 56320 ≤ hi ∧ hi ≤ 57343 then ([], 0, 7) else (encB hi, 6, 0)
  | none =>
    match t with
    | _ :: c :: _ => match simpN c.toNat with | some b => ([b], 2, 0) | none => ([], 0, 130)
    | _ => ([], 0, 130)
def outR (i : Nat) (r : List UInt8 × Nat × Int) : List UInt8 × Int × Int := if r.2.2 = 0 then (r.1, ((i + r.2.1 : Nat) : Int), 0) else ([], 0, r.2.2)
theorem outR_ok {i n : Nat} {x : List UInt8} : outR i (x, n, 0) = (x, ((i + n : Nat) : Int), 0) := rfl
theorem outR_7 {i : Nat} : outR i ([], 0, 7) = ([], 0, 7) := rfl
theorem outR_130 {i : Nat} : outR i ([], 0, 130) = ([], 0, 130) := rfl
theorem code_len' : ∀ j : Nat, j < 8 → (decodeAt [34, 92, 47, 98, 102, 110, 114, 116] j).2 = 1 := by
  intro j h
  match j, h with
  | 0, _ => rfl
  | 1, _ => rfl
  | 2, _ => rfl
  | 3, _ => rfl
  | 4, _ => rfl
  | 5, _ => rfl
  | 6, _ => rfl
  | 7, _ => rfl
/-- the loop over the letters -/
def codeAt (n : Nat) : Nat → Nat → Option UInt8
  | 0, _ => none
  | k + 1, j => if ([34, 92, 47, 98, 102, 110, 114, 116] : List Nat)[j]? = some n then ([34, 92, 47, 8, 12, 10, 13, 9] : List UInt8)[j]? else codeAt n k (j + 1)
theorem codes_loop {l : List UInt8} {i : Nat} {c : UInt8} (hc : idx l ((i + 1 : Nat) : Int) = some c) (hb : i + 10 ≤ 2 ^ 60) (k2 : Unit → Option (List UInt8 × Int × Int)) :
    ∀ (m k j : Nat), j + m = 8 → m < k → ref13_escape_L1 N l (i : Int) k2 k j = match codeAt c.toNat m j with | some b => some ([b], ((i + 2 : Nat) : Int), 0) | none => k2 ()
  | 0, k + 1, j, h, _ => by
    rw [ref13_escape_L1]
    have : ¬ j < 8 := by omega
    simp [this, codeAt]
  | m + 1, k + 1, j, h, hk => by
    rw [ref13_escape_L1]
    have hj : j < 8 := by omega
    have w1 : wr .i64 ((i : Int) + 1) = ((i + 1 : Nat) : Int) := by rw [wr_i64 (by omega)]; simp
    have w2 : wr .i64 ((i : Int) + 2) = ((i + 2 : Nat) : Int) := by rw [wr_i64 (by omega)]; simp
    have w3 : wr .i64 ((j : Int) + 1) = ((j + 1 : Nat) : Int) := by rw [wr_i64 (by omega)]; simp
    simp only [hj, decide_true, if_true, w1, w2, w3, hc, Option.bind_some, code_len' j hj]
    rw [codes_loop hc hb k2 m k (j + 1) (by omega) (by omega), codeAt]
    have hcn := c.toNat_lt
    obtain ⟨x, y, e1, e2, e3, e4⟩ : ∃ x y : UInt8, idx ([34, 92, 47, 98, 102, 110, 114, 116] : List UInt8) (j : Int) = some x ∧ ([34, 92, 47, 98, 102, 110, 114, 116] : List Nat)[j]? = some x.toNat ∧ ([34, 92, 47, 8, 12, 10, 13, 9] : List UInt8)[j]? = some y ∧ sub ([34, 92, 47, 8, 12, 10, 13, 9] : List UInt8) (j : Int) ((j + 1 : Nat) : Int) = some [y] := by
      match j, hj with
      | 0, _ => exact ⟨_, _, rfl, rfl, rfl, rfl⟩
      | 1, _ => exact ⟨_, _, rfl, rfl, rfl, rfl⟩
      | 2, _ => exact ⟨_, _, rfl, rfl, rfl, rfl⟩
      | 3, _ => exact ⟨_, _, rfl, rfl, rfl, rfl⟩
      | 4, _ => exact ⟨_, _, rfl, rfl, rfl, rfl⟩
      | 5, _ => exact ⟨_, _, rfl, rfl, rfl, rfl⟩
      | 6, _ => exact ⟨_, _, rfl, rfl, rfl, rfl⟩
      | 7, _ => exact ⟨_, _, rfl, rfl, rfl, rfl⟩
    rw [e1, Option.bind_some, e2, e3, e4, Option.bind_some]
    by_cases h : x.toNat = c.toNat
    · have : (bord x == bord c) = true := by simp [bord, h]
      simp [this, h]
    · have : (bord x == bord c) = false := by simp only [bord, beq_eq_false_iff_ne, ne_eq]; omega
      simp [this, h]
theorem codeAt_eq (c : UInt8) : codeAt c.toNat 8 0 = simpN c.toNat := bytes_eq (f := fun n => codeAt n 8 0) (g := simpN) (by kernel_rfl) c
theorem pointB_sur {hi lo : Nat} (h1 : 55296 ≤ hi ∧ hi ≤ 56319) (h2 : 56320 ≤ lo ∧ lo ≤ 57343) : pointB ((surB hi lo : Nat) : Int) = true := by
  have h : 65536 ≤ surB hi lo ∧ surB hi lo ≤ 1114111 := by unfold surB; omega
  generalize surB hi lo = n at h
  simp only [pointB, Bool.and_eq_true, Bool.or_eq_true, decide_eq_true_eq]; omega
theorem sur_wr {hi lo : Nat} (h1 : 55296 ≤ hi ∧ hi ≤ 56319) (h2 : 56320 ≤ lo ∧ lo ≤ 57343) : wr .i64 (wr .i64 (wr .i64 (65536 + wr .i64 (wr .i64 ((hi : Int) - 55296) * 1024)) + (lo : Int)) - 56320) = ((surB hi lo : Nat) : Int) := by
  rw [wr_i64 (n := (hi : Int) - 55296) (by omega), wr_i64 (n := ((hi : Int) - 55296) * 1024) (by omega), wr_i64 (n := 65536 + ((hi : Int) - 55296) * 1024) (by omega), wr_i64 (n := 65536 + ((hi : Int) - 55296) * 1024 + (lo : Int)) (by omega), wr_i64 (by omega)]
  unfold surB; omega
theorem codes_eq {l t : List UInt8} {i : Nat} (ht : l.drop i = t) (hi : i ≤ l.length) (hb : l.length ≤ 2 ^ 50) (hN : 9 ≤ N) (k2 : Unit → Option (List UInt8 × Int × Int)) :
    (if decide (((i + 1 : Nat) : Int) < (l.length : Int)) = true then ref13_escape_L1 N l (i : Int) k2 N 0 else k2 ()) = match t with
      | _ :: c :: _ => (match simpN c.toNat with | some b => some ([b], ((i + 2 : Nat) : Int), 0) | none => k2 ())
      | _ => k2 () := by
  have hl := len_drop ht hi
  match t, ht, hl with
  | [], ht, hl =>
    simp only [List.length_nil] at hl
    have : ¬ ((i + 1 : Nat) : Int) < (l.length : Int) := by omega
    simp only [this, decide_false, Bool.false_eq_true, if_false]
  | [_], ht, hl =>
    simp only [List.length_cons, List.length_nil] at hl
    have : ¬ ((i + 1 : Nat) : Int) < (l.length : Int) := by omega
    simp only [this, decide_false, Bool.false_eq_true, if_false]
  | _ :: c :: r, ht, hl =>
    simp only [List.length_cons] at hl
    have : ((i + 1 : Nat) : Int) < (l.length : Int) := by omega
    simp only [this, decide_true, if_true]
    rw [codes_loop (c := c) (idx_drop ht rfl) (by omega) k2 8 N 0 (by omega) (by omega), codeAt_eq]
def letterB (t : List UInt8) : List UInt8 × Nat × Int :=
  match t with
  | _ :: c :: _ => (match simpN c.toNat with | some b => ([b], 2, 0) | none => ([], 0, 130))
  | _ => ([], 0, 130)
theorem escB_none {t : List UInt8} (h : unitB t = none) : escB t = letterB t := by
  unfold escB letterB; rw [h]
theorem escB_some {t : List UInt8} {hi : Nat} (h : unitB t = some hi) : escB t = ((
    if 55296 ≤ hi ∧ hi ≤ 56319 then
      match unitB (t.drop 6) with
      | some lo => if 56320 ≤ lo ∧ lo ≤ 57343 then (encB (surB hi lo), 12, 0) else ([], 0, 7)
      | none => ([], 0, 7)
    else if 56320 ≤ hi ∧ hi ≤ 57343 then ([], 0, 7) else (encB hi, 6, 0)) : List UInt8 × Nat × Int) := by
  unfold escB; rw [h]
theorem encR_ok {n : Nat} (h : pointB (n : Int) = true) : encR (n : Int) = (encB n, 0) := by unfold encR; rw [if_pos h]; rfl
theorem encR_no {n : Nat} (h : pointB (n : Int) = false) : encR (n : Int) = ([], 4) := by unfold encR; rw [if_neg (by rw [h]; decide)]
theorem simp117 : simpN (117 : UInt8).toNat = none := by rw [show (117 : UInt8).toNat = 117 from rfl]; rfl
theorem codes_u {l r : List UInt8} {i : Nat} (ht : l.drop i = 92 :: 117 :: r) (hi : i ≤ l.length) (hb : l.length ≤ 2 ^ 50) (hN : 9 ≤ N) (k2 : Unit → Option (List UInt8 × Int × Int)) :
    (if decide (((i + 1 : Nat) : Int) < (l.length : Int)) = true then ref13_escape_L1 N l (i : Int) k2 N 0 else k2 ()) = k2 () := by
  rw [codes_eq ht hi hb hN k2]
  show (match simpN (117 : UInt8).toNat with | some b => some ([b], ((i + 2 : Nat) : Int), (0 : Int)) | none => k2 ()) = k2 ()
  rw [simp117]
theorem rescape_eq {l t : List UInt8} {i : Nat} (ht : l.drop i = t) (hi : i ≤ l.length) (hb : l.length ≤ 2 ^ 50) (hN : 9 ≤ N) :
    ref13_escape N l (i : Int) = some (outR i (escB t)) := by
  have hl := len_drop ht hi
  unfold ref13_escape
  have w1 : wr .i64 ((i : Int) + 1) = ((i + 1 : Nat) : Int) := by rw [wr_i64 (by omega)]; simp
  have w6 : wr .i64 ((i : Int) + 6) = ((i + 6 : Nat) : Int) := by rw [wr_i64 (by omega)]; simp
  have w12 : wr .i64 ((i : Int) + 12) = ((i + 12 : Nat) : Int) := by rw [wr_i64 (by omega)]; simp
  simp only [joinK_eq, w1, w6, w12]
  cases hu : unitB t with
  | none =>
    refine (codes_eq ht hi hb hN _).trans ?_
    simp only [runit_eq ht hi hb, hu]
    rw [escB_none hu]
    simp only [Option.bind_some, Bool.false_eq_true, if_false]
    match t with
    | [] => rfl
    | [_] => rfl
    | _ :: c :: r =>
      simp only [letterB]
      cases simpN c.toNat <;> rfl
  | some hi' =>
    obtain ⟨h1, h2, r, rfl⟩ := unitB_lt hu
    refine (codes_u ht hi hb hN _).trans ?_
    rw [escB_some hu]
    rw [runit_some hu ht hi hb, Option.bind_some]
    rw [if_pos rfl]
    by_cases c1 : 55296 ≤ hi' ∧ hi' ≤ 56319
    · have d1 : ¬ (hi' : Int) < 55296 := by omega
      have d2 : ¬ (hi' : Int) > 57343 := by omega
      have d3 : ¬ (hi' : Int) > 56319 := by omega
      simp only [c1, d1, d2, d3, and_self, if_true, decide_false, Bool.false_eq_true, if_false]
      have ht6 : l.drop (i + 6) = (92 :: 117 :: r).drop 6 := by rw [← List.drop_drop, ht]
      cases hu2 : unitB ((92 :: 117 :: r).drop 6) with
      | none => rw [runit_none hu2 ht6 (by omega) hb, Option.bind_some, if_neg (by decide)]; simp only [outR_7]
      | some lo =>
        rw [runit_some hu2 ht6 (by omega) hb, Option.bind_some, if_pos rfl]
        simp only []
        by_cases c2 : 56320 ≤ lo ∧ lo ≤ 57343
        · have e1 : ¬ (lo : Int) < 56320 := by omega
          have e2 : ¬ (lo : Int) > 57343 := by omega
          have key := ruenc_eq (N := N) ((surB hi' lo : Nat) : Int)
          rw [encR_ok (pointB_sur c1 c2)] at key
          rw [if_pos c2, outR_ok]
          simp only [e1, e2, decide_false, Bool.false_eq_true, if_false]
          rw [sur_wr c1 c2, key, Option.bind_some]
        · by_cases c3 : (lo : Int) < 56320
          · simp only [c3, decide_true, if_true, c2, if_false, outR_7]
          · have e2 : (lo : Int) > 57343 := by omega
            simp only [c3, e2, decide_true, decide_false, Bool.false_eq_true, if_false, if_true, c2, outR_7]
    · by_cases c2 : 56320 ≤ hi' ∧ hi' ≤ 57343
      · have d1 : ¬ (hi' : Int) < 55296 := by omega
        have d2 : ¬ (hi' : Int) > 57343 := by omega
        have d3 : (hi' : Int) > 56319 := by omega
        simp only [c1, c2, d1, d2, d3, and_self, if_true, decide_false, decide_true, Bool.false_eq_true, if_false]
        rw [runit_eq (t := (92 :: 117 :: r).drop 6) (by rw [← List.drop_drop, ht]) (by omega) hb]
        simp only [Option.bind_some, outR_ok, outR_7, outR_130]
      · have hp : pointB (hi' : Int) = true := by
          simp only [pointB, Bool.and_eq_true, Bool.or_eq_true, decide_eq_true_eq]; omega
        rw [if_neg c1, if_neg c2]
        by_cases c3 : (hi' : Int) < 55296
        · simp only [c3, decide_true, if_true]
          rw [ruenc_eq, encR_ok hp]; simp only [Option.bind_some, outR_ok, outR_7, outR_130]
        · have d2 : (hi' : Int) > 57343 := by omega
          simp only [c3, d2, decide_true, decide_false, Bool.false_eq_true, if_false, if_true]
          rw [ruenc_eq, encR_ok hp]; simp only [Option.bind_some, outR_ok, outR_7, outR_130]
/-- the program's reader: the text, the error, and where it stands if there is none -/
theorem pescape_eq {l t : List UInt8} {i : Nat} (ht : l.drop i = t) (hi : i ≤ l.length) (hb : l.length ≤ 2 ^ 50) (hN : 9 ≤ N) :
    ∃ q : TokenReader, token_reader_escape N ⟨l, (i : Int)⟩ = some ((escB t).1, (escB t).2.2, q) ∧ ((escB t).2.2 = 0 → q = ⟨l, ((i + (escB t).2.1 : Nat) : Int)⟩) := by
  have hl := len_drop ht hi
  unfold token_reader_escape
  rw [punit_eq ht hi hb, Option.bind_some]
  cases hu : unitB t with
  | none =>
    have w1 : wr .i64 ((i : Int) + 1) = ((i + 1 : Nat) : Int) := by rw [wr_i64 (by omega)]; simp
    rw [escB_none hu]
    simp only [Bool.false_eq_true, if_false, w1, joinK_eq]
    unfold token_reader_peek
    match t, ht, hl with
    | [], ht, hl =>
      simp only [List.length_nil] at hl
      have c : ¬ ((i + 1 : Nat) : Int) < (l.length : Int) := by omega
      have c' : ((i + 1 : Nat) : Int) ≥ (l.length : Int) := by omega
      simp only [c, decide_false, Bool.false_eq_true, if_false, Option.bind_some]
      simp only [strings_IndexByte, internal_stringslite_IndexByte, Option.bind_some, c', decide_true, if_true]
      exact ⟨_, rfl, fun h => by cases h⟩
    | [_], ht, hl =>
      simp only [List.length_nil, List.length_cons] at hl
      have c : ¬ ((i + 1 : Nat) : Int) < (l.length : Int) := by omega
      have c' : ((i + 1 : Nat) : Int) ≥ (l.length : Int) := by omega
      simp only [c, decide_false, Bool.false_eq_true, if_false, Option.bind_some]
      simp only [strings_IndexByte, internal_stringslite_IndexByte, Option.bind_some, c', decide_true, if_true]
      exact ⟨_, rfl, fun h => by cases h⟩
    | x :: c :: r, ht, hl =>
      simp only [List.length_cons] at hl
      have d : ((i + 1 : Nat) : Int) < (l.length : Int) := by omega
      have d' : ¬ ((i + 1 : Nat) : Int) ≥ (l.length : Int) := by omega
      have hc := idx_drop (j := 1) ht rfl
      have w2 : wr .i64 (((i + 1 : Nat) : Int) + 1) = ((i + 2 : Nat) : Int) := by rw [wr_i64 (by omega)]; omega
      simp only [d, decide_true, if_true]
      rw [hc, Option.bind_some, Option.bind_some]
      simp only [strings_IndexByte, internal_stringslite_IndexByte, Option.bind_some, d', decide_false, Bool.false_eq_true, if_false, bchr_bord, w2]
      have key := bytes_eq (f := fun n => if decide (Go.Lib.indexByte ([34, 92, 47, 98, 102, 110, 114, 116] : List UInt8) (UInt8.ofNat n) < 0) = true then none else sub ([34, 92, 47, 8, 12, 10, 13, 9] : List UInt8) (Go.Lib.indexByte [34, 92, 47, 98, 102, 110, 114, 116] (UInt8.ofNat n)) (wr .i64 (Go.Lib.indexByte [34, 92, 47, 98, 102, 110, 114, 116] (UInt8.ofNat n) + 1))) (g := fun n => (simpN n).map fun b => [b]) (by kernel_rfl) c
      simp only [UInt8.ofNat_toNat] at key
      by_cases hneg : Go.Lib.indexByte ([34, 92, 47, 98, 102, 110, 114, 116] : List UInt8) c < 0
      · simp only [hneg, decide_true, if_true] at key ⊢
        have : simpN c.toNat = none := by
          cases hs : simpN c.toNat with
          | none => rfl
          | some b => rw [hs] at key; cases key
        simp only [letterB, this]
        exact ⟨_, rfl, fun h => by cases h⟩
      · simp only [hneg, decide_false, Bool.false_eq_true, if_false] at key ⊢
        cases hs : simpN c.toNat with
        | none =>
          exfalso
          rw [hs] at key
          have f : ∀ c : UInt8, (if decide (Go.Lib.indexByte ([34, 92, 47, 98, 102, 110, 114, 116] : List UInt8) c < 0) = true then true else (simpN c.toNat).isSome) = true := by
            intro c
            have := bytes_eq (f := fun n => if decide (Go.Lib.indexByte ([34, 92, 47, 98, 102, 110, 114, 116] : List UInt8) (UInt8.ofNat n) < 0) = true then true else (simpN n).isSome) (g := fun n => true) (by kernel_rfl) c
            simpa only [UInt8.ofNat_toNat] using this
          have := f c
          simp only [hneg, decide_false, Bool.false_eq_true, if_false, hs] at this
          cases this
        | some b =>
          rw [hs] at key
          rw [key]
          simp only [letterB, hs, Option.map_some, Option.bind_some]
          exact ⟨_, rfl, fun _ => rfl⟩
  | some hi' =>
    obtain ⟨h1, h2, r, rfl⟩ := unitB_lt hu
    rw [escB_some hu]
    simp only [if_true, joinK_eq]
    by_cases c1 : 55296 ≤ hi' ∧ hi' ≤ 56319
    · have d1 : (hi' : Int) ≥ 55296 := by omega
      have d2 : (hi' : Int) ≤ 56319 := by omega
      have hp : pointB (hi' : Int) = false := by
        have : ¬ pointB (hi' : Int) = true := by
          simp only [pointB, Bool.and_eq_true, Bool.or_eq_true, decide_eq_true_eq]; omega
        simpa using this
      simp only [c1, d1, d2, and_self, if_true, decide_true]
      rw [punit_eq (t := (92 :: 117 :: r).drop 6) (by rw [← List.drop_drop, ht]) (by omega) hb, Option.bind_some]
      cases hu2 : unitB ((92 :: 117 :: r).drop 6) with
      | none =>
        simp only [Bool.false_eq_true, if_false]
        rw [puenc_eq (by omega), encR_no hp]
        exact ⟨_, rfl, fun h => by cases h⟩
      | some lo =>
        simp only [if_true]
        by_cases c2 : 56320 ≤ lo ∧ lo ≤ 57343
        · have e1 : (lo : Int) ≥ 56320 := by omega
          have e2 : (lo : Int) ≤ 57343 := by omega
          simp only [e1, e2, c2, and_self, if_true, decide_true]
          rw [sur_wr c1 c2, puenc_eq (by omega), encR_ok (pointB_sur c1 c2)]
          simp only [Option.bind_some, bne_self_eq_false, Bool.false_eq_true, if_false, show i + 6 + 6 = i + 12 by omega]
          exact ⟨_, rfl, fun _ => rfl⟩
        · by_cases c3 : (lo : Int) ≥ 56320
          · have e2 : ¬ (lo : Int) ≤ 57343 := by omega
            simp only [c3, e2, decide_true, decide_false, Bool.false_eq_true, if_false, if_true, c2]
            rw [puenc_eq (by omega), encR_no hp]
            exact ⟨_, rfl, fun h => by cases h⟩
          · simp only [c3, decide_false, Bool.false_eq_true, if_false, c2]
            rw [puenc_eq (by omega), encR_no hp]
            exact ⟨_, rfl, fun h => by cases h⟩
    · rw [if_neg c1]
      have hk : (if decide ((hi' : Int) ≥ 55296) = true then decide ((hi' : Int) ≤ 56319) else false) = false := by
        by_cases c : (hi' : Int) ≥ 55296
        · have : ¬ (hi' : Int) ≤ 56319 := by omega
          simp [c, this]
        · simp [c]
      by_cases c2 : 56320 ≤ hi' ∧ hi' ≤ 57343
      · rw [if_pos c2]
        have hp : pointB (hi' : Int) = false := by
          have : ¬ pointB (hi' : Int) = true := by
            simp only [pointB, Bool.and_eq_true, Bool.or_eq_true, decide_eq_true_eq]; omega
          simpa using this
        have d1 : (hi' : Int) ≥ 55296 := by omega
        have d2 : ¬ (hi' : Int) ≤ 56319 := by omega
        simp only [d1, d2, decide_true, decide_false, Bool.false_eq_true, if_true, if_false]
        rw [puenc_eq (by omega), encR_no hp]
        exact ⟨_, rfl, fun h => by cases h⟩
      · rw [if_neg c2]
        have hp : pointB (hi' : Int) = true := by
          simp only [pointB, Bool.and_eq_true, Bool.or_eq_true, decide_eq_true_eq]; omega
        by_cases c3 : (hi' : Int) ≥ 55296
        · have d2 : ¬ (hi' : Int) ≤ 56319 := by omega
          simp only [c3, d2, decide_true, decide_false, Bool.false_eq_true, if_true, if_false]
          rw [puenc_eq (by omega), encR_ok hp]
          exact ⟨_, rfl, fun _ => rfl⟩
        · simp only [c3, decide_false, Bool.false_eq_true, if_false]
          rw [puenc_eq (by omega), encR_ok hp]
          exact ⟨_, rfl, fun _ => rfl⟩
end
end Go.VM
