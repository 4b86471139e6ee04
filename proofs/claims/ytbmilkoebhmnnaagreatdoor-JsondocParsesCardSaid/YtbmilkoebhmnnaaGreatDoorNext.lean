/- Tokens: the program's and the reference's readers are the same. -/
import Derived.Test.YtbmilkoebhmnnaaGreatDoorNum2
set_option linter.unusedVariables false
set_option linter.unusedSimpArgs false
namespace Go.VM
section
variable {N : Nat}
def punct : List UInt8 := [123, 125, 91, 93, 58, 44]
def isWord (w : List UInt8) : Bool := w == [116, 114, 117, 101] || (w == [102, 97, 108, 115, 101] || w == [110, 117, 108, 108])
def noTok (e : Int) : ApiToken × Int × Int := (ApiToken.mk 0 [] 0, 0, e)
/-- the token at the head of a text that begins with no white space; p: its offset -/
def tokS (N : Nat) (p : Nat) (t : List UInt8) : ApiToken × Int × Int :=
  match t with
  | [] => (ApiToken.mk 1 [] p, p, 0)
  | c :: r =>
    if punct.contains c = true then (ApiToken.mk 2 [c] p, ((p + 1 : Nat) : Int), 0)
    else if c.toNat = 34 then
      if (textS N r (p + 1) []).2.2 = 0 then (ApiToken.mk 3 (textS N r (p + 1) []).1 p, ((textS N r (p + 1) []).2.1 : Int), 0) else noTok (textS N r (p + 1) []).2.2
    else if (([45] : List UInt8).contains c || digC c) = true then
      if numN (c :: r) = 0 then noTok 130 else (ApiToken.mk 4 ((c :: r).take (numN (c :: r))) p, ((p + numN (c :: r) : Nat) : Int), 0)
    else if isWord ((c :: r).takeWhile alphaB) = true then (ApiToken.mk 5 ((c :: r).takeWhile alphaB) p, ((p + ((c :: r).takeWhile alphaB).length : Nat) : Int), 0)
    else noTok 130
theorem tokS_cons (N p : Nat) (c : UInt8) (r : List UInt8) : tokS N p (c :: r) = (
  if punct.contains c = true then (ApiToken.mk 2 [c] p, ((p + 1 : Nat) : Int), 0)
  else if c.toNat = 34 then
    if (textS N r (p + 1) []).2.2 = 0 then (ApiToken.mk 3 (textS N r (p + 1) []).1 p, ((textS N r (p + 1) []).2.1 : Int), 0) else noTok (textS N r (p + 1) []).2.2
  else if (([45] : List UInt8).contains c || digC c) = true then
    if numN (c :: r) = 0 then noTok 130 else (ApiToken.mk 4 ((c :: r).take (numN (c :: r))) p, ((p + numN (c :: r) : Nat) : Int), 0)
  else if isWord ((c :: r).takeWhile alphaB) = true then (ApiToken.mk 5 ((c :: r).takeWhile alphaB) p, ((p + ((c :: r).takeWhile alphaB).length : Nat) : Int), 0)
  else noTok 130) := rfl
def nextS (N : Nat) (l : List UInt8) (i : Nat) : ApiToken × Int × Int :=
  tokS N (i + ((l.drop i).takeWhile wsB).length) (l.drop (i + ((l.drop i).takeWhile wsB).length))
theorem punct_utf8 (c : UInt8) (h : punct.contains c = true) : utf8Of (bord c) = [c] := by
  have := bytes_eq (f := fun n => if punct.contains (UInt8.ofNat n) = true then utf8Of (n : Int) else []) (g := fun n => if punct.contains (UInt8.ofNat n) = true then [UInt8.ofNat n] else []) (by kernel_rfl) c
  simp only [UInt8.ofNat_toNat, h, if_true] at this
  exact this
section
variable {l t : List UInt8} {i p : Nat}
theorem isWord_or (w : List UInt8) (k : Bool → Option (ApiToken × Int × Int)) : (if (w == ([116, 114, 117, 101] : List UInt8)) = true then k true else if (w == ([102, 97, 108, 115, 101] : List UInt8)) = true then k true else k (w == ([110, 117, 108, 108] : List UInt8))) = k (isWord w) := by
  unfold isWord
  cases w == ([116, 114, 117, 101] : List UInt8) <;> cases w == ([102, 97, 108, 115, 101] : List UInt8) <;> rfl
theorem rspace_loop (hb : l.length ≤ 2 ^ 50) (k6 : Int → Option (ApiToken × Int × Int)) : ∀ (t : List UInt8) (i k : Nat), l.drop i = t → i ≤ l.length → t.length < k → ref13_Next_L1 N l k6 k (i : Int) = k6 ((i + (t.takeWhile wsB).length : Nat) : Int)
  | [], i, k + 1, ht, hi, _ => by
    have hl := len_drop ht hi
    simp only [List.length_nil] at hl
    have c : ¬ (i : Int) < (l.length : Int) := by omega
    rw [ref13_Next_L1, joinK_eq, if_neg (by simpa using c)]
    try dsimp only
    rw [if_neg (by decide)]; rfl
  | c :: t, i, k + 1, ht, hi, hk => by
    have hl := len_drop ht hi
    simp only [List.length_cons] at hl hk
    have c0 : (i : Int) < (l.length : Int) := by omega
    rw [ref13_Next_L1, joinK_eq, if_pos (decide_eq_true c0), head_drop ht, Option.bind_some, rws_eq, Option.bind_some, List.takeWhile_cons]
    cases wsB c
    · simp
    · dsimp only
      rw [if_pos rfl, if_pos rfl, wr_i64 (by omega), show (i : Int) + 1 = ((i + 1 : Nat) : Int) by simp, rspace_loop hb k6 t (i + 1) k (by rw [← List.drop_drop, ht]; rfl) (by omega) (by omega)]
      rw [List.length_cons]; congr 2; omega
theorem rword_loop (hb : l.length ≤ 2 ^ 50) (p : Nat) (k34 : Int → Option (ApiToken × Int × Int)) : ∀ (t : List UInt8) (n k : Nat), l.drop (p + n) = t → p + n ≤ l.length → t.length < k → ref13_Next_L2 N l (p : Int) k34 k (n : Int) = k34 ((n + (t.takeWhile alphaB).length : Nat) : Int)
  | [], n, k + 1, ht, hi, _ => by
    have hl := len_drop ht hi
    simp only [List.length_nil] at hl
    have c : ¬ ((p + n : Nat) : Int) < (l.length : Int) := by omega
    rw [ref13_Next_L2, joinK_eq, wr_i64 (n := (p : Int) + (n : Int)) (by omega), show (p : Int) + (n : Int) = ((p + n : Nat) : Int) by simp, if_neg (by simpa using c)]
    try dsimp only
    rw [if_neg (by decide)]; rfl
  | c :: t, n, k + 1, ht, hi, hk => by
    have hl := len_drop ht hi
    simp only [List.length_cons] at hl hk
    have c0 : ((p + n : Nat) : Int) < (l.length : Int) := by omega
    rw [ref13_Next_L2, joinK_eq, wr_i64 (n := (p : Int) + (n : Int)) (by omega), show (p : Int) + (n : Int) = ((p + n : Nat) : Int) by simp, if_pos (decide_eq_true c0), head_drop ht, Option.bind_some, ralpha_eq, Option.bind_some, List.takeWhile_cons]
    cases alphaB c
    · simp
    · dsimp only
      rw [if_pos rfl, if_pos rfl, wr_i64 (by omega), show (n : Int) + 1 = ((n + 1 : Nat) : Int) by simp, rword_loop hb p k34 t (n + 1) k (by rw [← Nat.add_assoc, ← List.drop_drop, ht]; rfl) (by omega) (by omega)]
      rw [List.length_cons]; congr 2; omega
theorem rnext_eq (hb : l.length ≤ 2 ^ 40) (hN : l.length + 10 ≤ N) (hi : i ≤ l.length) : ref13_Next N l (i : Int) = some (nextS N l i) := by
  obtain ⟨t0, ht0⟩ : ∃ t0, l.drop i = t0 := ⟨_, rfl⟩
  have hl0 := len_drop ht0 hi
  have hw := while_le wsB t0
  unfold ref13_Next nextS
  have c1 : ¬ ((i : Int) < 0) := by omega
  have c2 : ¬ ((i : Int) > (l.length : Int)) := by omega
  refine (join_to (a := false) fun k => ?_).trans ?_
  · rw [if_neg (by simp), decide_eq_false c2]
  try dsimp only
  rw [if_neg (by decide)]
  refine (join_to (a := ((i + (t0.takeWhile wsB).length : Nat) : Int)) fun k => rspace_loop (by omega) k t0 i N ht0 hi (by omega)).trans ?_
  rw [ht0]
  generalize hp : i + (t0.takeWhile wsB).length = p at *
  have hpl : p ≤ l.length := by omega
  obtain ⟨t, ht⟩ : ∃ t, l.drop p = t := ⟨_, rfl⟩
  have hl := len_drop ht hpl
  rw [ht]
  try dsimp only
  cases t with
  | nil =>
    simp only [List.length_nil] at hl
    rw [if_pos (by simp; omega)]
    have : (p : Int) = (l.length : Int) := by omega
    unfold tokS; rfl
  | cons c r =>
    simp only [List.length_cons] at hl
    rw [tokS_cons, if_neg (by simp; omega), head_drop ht, Option.bind_some, inC_eq _ _ (by decide), Option.bind_some]
    have w1 : wr .i64 ((p : Int) + 1) = ((p + 1 : Nat) : Int) := by rw [wr_i64 (by omega)]; simp
    have hsub1 : sub l (p : Int) ((p + 1 : Nat) : Int) = some [c] := by
      rw [sub_nat l p (p + 1) (by omega) (by omega), Nat.add_sub_cancel_left, ht]; rfl
    rw [show ([123, 125, 91, 93, 58, 44] : List UInt8) = punct from rfl]
    by_cases c3 : punct.contains c = true
    · rw [if_pos c3, if_pos c3, w1, hsub1, Option.bind_some]
    · rw [if_neg c3, if_neg c3, bq34]
      by_cases c4 : c.toNat = 34
      · rw [if_pos (decide_eq_true c4), if_pos c4, rtxt_eq (by omega) (by omega) (by omega), Option.bind_some]
        have hr : l.drop (p + 1) = r := by rw [← List.drop_drop, ht]; rfl
        rw [hr]
        unfold outT
        by_cases c5 : (textS N r (p + 1) []).2.2 = 0
        · rw [if_pos c5, if_neg (by simp), if_pos c5]
        · rw [if_neg c5, if_pos (by simpa using c5), if_neg c5]; rfl
      · rw [if_neg (by simpa using c4), if_neg c4]
        refine (join_to (a := (([45] : List UInt8).contains c || digC c)) fun k => ?_).trans ?_
        · rw [bq45, rdig_eq, Option.bind_some]
          cases ([45] : List UInt8).contains c <;> rfl
        try dsimp only
        have hsubl : sub l (p : Int) (l.length : Int) = some (c :: r) := by
          rw [sub_nat l p l.length (by omega) (by omega), ht, List.take_of_length_le (by simp only [List.length_cons]; omega)]
        by_cases c5 : (([45] : List UInt8).contains c || digC c) = true
        · rw [if_pos c5, if_pos c5, hsubl, Option.bind_some, rnumeral_eq _ (by simp only [List.length_cons]; omega) (by simp only [List.length_cons]; omega), Option.bind_some]
          have hn := numN_le (c :: r)
          simp only [List.length_cons] at hn
          by_cases c6 : numN (c :: r) = 0
          · rw [if_pos (by rw [c6]; rfl), if_pos c6]; rfl
          · rw [if_neg (by simp; omega), if_neg c6, wr_i64 (by omega), show (p : Int) + ((numN (c :: r) : Nat) : Int) = ((p + numN (c :: r) : Nat) : Int) by simp]
            rw [sub_nat l p _ (by omega) (by omega), Option.bind_some, Nat.add_sub_cancel_left, ht]
        · rw [if_neg c5, if_neg c5]
          have hwl := while_le alphaB (c :: r)
          simp only [List.length_cons] at hwl
          refine (join_to (a := ((((c :: r).takeWhile alphaB).length : Nat) : Int)) fun k => ?_).trans ?_
          · have := rword_loop (N := N) (l := l) (by omega) p k (c :: r) 0 N (by rw [Nat.add_zero]; exact ht) (by omega) (by simp only [List.length_cons]; omega)
            rw [Nat.zero_add] at this
            exact this
          try dsimp only
          rw [wr_i64 (by omega), show (p : Int) + ((((c :: r).takeWhile alphaB).length : Nat) : Int) = ((p + ((c :: r).takeWhile alphaB).length : Nat) : Int) by simp]
          rw [sub_while alphaB ht hpl, Option.bind_some]
          refine (join_to (a := isWord ((c :: r).takeWhile alphaB)) fun k => isWord_or _ k).trans ?_
          try dsimp only
          by_cases c6 : isWord ((c :: r).takeWhile alphaB) = true
          · rw [if_pos c6, if_pos c6]
          · rw [if_neg c6, if_neg c6]; rfl
theorem isWord_or' {β : Type} (w : List UInt8) (k : Bool → Option β) : (if (w == ([116, 114, 117, 101] : List UInt8)) = true then k true else if (w == ([102, 97, 108, 115, 101] : List UInt8)) = true then k true else k (w == ([110, 117, 108, 108] : List UInt8))) = k (isWord w) := by
  unfold isWord
  cases w == ([116, 114, 117, 101] : List UInt8) <;> cases w == ([102, 97, 108, 115, 101] : List UInt8) <;> rfl
theorem word_alpha {c : UInt8} {r : List UInt8} (h : isWord ((c :: r).takeWhile alphaB) = true) : alphaB c = true := by
  cases ha : alphaB c
  · rw [List.takeWhile_cons, ha] at h
    rw [if_neg (by decide)] at h; exact absurd h (by decide)
  · rfl
/-- the program's reader of a token -/
theorem ptoken_eq (ht : l.drop p = t) (hp : p ≤ l.length) (hb : l.length ≤ 2 ^ 40) (hN : l.length + 10 ≤ N) :
    ∃ q k x, token_reader_token N ⟨l, (p : Int)⟩ = some (k, x, (tokS N p t).2.2, q) ∧ ((tokS N p t).2.2 = 0 → (tokS N p t) = (ApiToken.mk k x p, q.at_, 0)) := by
  have hl := len_drop ht hp
  unfold token_reader_token
  match t, ht, hl with
  | [], ht, hl =>
    simp only [List.length_nil] at hl
    rw [if_pos (by simp; omega)]
    exact ⟨_, _, _, rfl, fun _ => rfl⟩
  | c :: r, ht, hl =>
    simp only [List.length_cons] at hl
    have w1 : wr .i64 ((p : Int) + 1) = ((p + 1 : Nat) : Int) := by rw [wr_i64 (by omega)]; simp
    rw [tokS_cons, if_neg (by simp; omega)]
    simp only [joinK_eq]
    rw [head_drop ht, Option.bind_some, sindex_eq, Option.bind_some, index_ge, w1]
    by_cases c3 : punct.contains c = true
    · rw [show (([123, 125, 91, 93, 58, 44] : List UInt8).contains c) = true from c3, if_pos rfl, punct_utf8 c c3]
      simp only [c3, if_true]
      exact ⟨_, _, _, rfl, fun _ => rfl⟩
    · rw [Bool.not_eq_true] at c3
      rw [show (([123, 125, 91, 93, 58, 44] : List UInt8).contains c) = false from c3, if_neg (by decide), bq34]
      simp only [c3, Bool.false_eq_true, if_false]
      by_cases c4 : c.toNat = 34
      · rw [if_pos (decide_eq_true c4)]
        simp only [c4, if_true]
        obtain ⟨q, hq, hq0⟩ := ptxt_eq (N := N) (l := l) hb (by omega) (i := p) (by omega)
        have hr : l.drop (p + 1) = r := by rw [← List.drop_drop, ht]; rfl
        rw [hr] at hq hq0
        rw [hq, Option.bind_some]
        unfold outT
        by_cases c5 : (textS N r (p + 1) []).2.2 = 0
        · rw [if_pos c5, if_pos c5]
          exact ⟨q, _, _, rfl, fun _ => by rw [hq0 c5]⟩
        · rw [if_neg c5, if_neg c5]
          exact ⟨q, _, _, rfl, fun h => absurd h c5⟩
      · rw [if_neg (by simpa using c4)]
        simp only [c4, if_false]
        rw [bq45, pdig_eq, Option.bind_some, palpha_eq, Option.bind_some]
        have num : ∃ q k x, (Option.bind (token_reader_number N ⟨l, (p : Int)⟩) fun y16 => if y16.2.1 = true then some ((4 : Int), y16.1, (0 : Int), y16.2.2) else some (0, [], 130, y16.2.2)) = some (k, x, (if numN (c :: r) = 0 then noTok 130 else (ApiToken.mk 4 ((c :: r).take (numN (c :: r))) p, ((p + numN (c :: r) : Nat) : Int), 0)).2.2, q) ∧ ((if numN (c :: r) = 0 then noTok 130 else (ApiToken.mk 4 ((c :: r).take (numN (c :: r))) p, ((p + numN (c :: r) : Nat) : Int), 0)).2.2 = 0 → (if numN (c :: r) = 0 then noTok 130 else (ApiToken.mk 4 ((c :: r).take (numN (c :: r))) p, ((p + numN (c :: r) : Nat) : Int), 0)) = (ApiToken.mk k x p, q.at_, 0)) := by
          have hn := pnumber_eq (N := N) ht hp (by omega)
          by_cases c6 : numN (c :: r) = 0
          · rw [if_pos c6] at hn
            obtain ⟨q, hq⟩ := hn
            rw [hq, Option.bind_some, if_pos c6]
            exact ⟨_, _, _, rfl, fun h => by cases h⟩
          · rw [if_neg c6] at hn
            rw [hn, Option.bind_some, if_neg c6]
            exact ⟨_, _, _, rfl, fun _ => rfl⟩
        have word : (([45] : List UInt8).contains c || digC c) = false → ∃ q k x, (if alphaB c = true then Option.bind (token_reader_while__ascii_IsAlpha N ⟨l, (p : Int)⟩) fun y20 => (if (y20.1 == ([116, 114, 117, 101] : List UInt8)) = true then (if true = true then some ((5 : Int), y20.1, (0 : Int), y20.2) else some (0, [], 130, y20.2)) else if (y20.1 == ([102, 97, 108, 115, 101] : List UInt8)) = true then (if true = true then some ((5 : Int), y20.1, (0 : Int), y20.2) else some (0, [], 130, y20.2)) else (if (y20.1 == ([110, 117, 108, 108] : List UInt8)) = true then some ((5 : Int), y20.1, (0 : Int), y20.2) else some (0, [], 130, y20.2))) else some (0, [], 130, ⟨l, (p : Int)⟩)) = some (k, x, (if isWord ((c :: r).takeWhile alphaB) = true then (ApiToken.mk 5 ((c :: r).takeWhile alphaB) p, ((p + ((c :: r).takeWhile alphaB).length : Nat) : Int), 0) else noTok 130).2.2, q) ∧ ((if isWord ((c :: r).takeWhile alphaB) = true then (ApiToken.mk 5 ((c :: r).takeWhile alphaB) p, ((p + ((c :: r).takeWhile alphaB).length : Nat) : Int), 0) else noTok 130).2.2 = 0 → (if isWord ((c :: r).takeWhile alphaB) = true then (ApiToken.mk 5 ((c :: r).takeWhile alphaB) p, ((p + ((c :: r).takeWhile alphaB).length : Nat) : Int), 0) else noTok 130) = (ApiToken.mk k x p, q.at_, 0)) := by
          intro _
          by_cases c6 : alphaB c = true
          · rw [if_pos c6, pwa_eq ht hp (by omega), Option.bind_some]
            rw [isWord_or' ((c :: r).takeWhile alphaB) (fun b => if b = true then some ((5 : Int), (c :: r).takeWhile alphaB, (0 : Int), (⟨l, ((p + ((c :: r).takeWhile alphaB).length : Nat) : Int)⟩ : TokenReader)) else some (0, [], 130, ⟨l, ((p + ((c :: r).takeWhile alphaB).length : Nat) : Int)⟩))]
            try dsimp only
            by_cases c7 : isWord ((c :: r).takeWhile alphaB) = true
            · rw [if_pos c7, if_pos c7]
              exact ⟨_, _, _, rfl, fun _ => rfl⟩
            · rw [if_neg c7, if_neg c7]
              exact ⟨_, _, _, rfl, fun h => by cases h⟩
          · rw [if_neg c6, if_neg (fun h => c6 (word_alpha h))]
            exact ⟨_, _, _, rfl, fun h => by cases h⟩
        by_cases k1 : ([45] : List UInt8).contains c = true
        · simp only [k1, Bool.true_or, if_true]
          exact num
        · rw [Bool.not_eq_true] at k1
          simp only [k1, Bool.false_or, Bool.false_eq_true, if_false]
          by_cases k2 : digC c = true
          · simp only [k2, if_true]
            exact num
          · rw [Bool.not_eq_true] at k2
            simp only [k2, Bool.false_eq_true, if_false]
            exact word (by rw [k1, k2]; rfl)
theorem pnext_eq (hb : l.length ≤ 2 ^ 40) (hN : l.length + 10 ≤ N) (hi : i ≤ l.length) : token_Next N l (i : Int) = some (nextS N l i) := by
  obtain ⟨t0, ht0⟩ : ∃ t0, l.drop i = t0 := ⟨_, rfl⟩
  have hl0 := len_drop ht0 hi
  have hw := while_le wsB t0
  unfold token_Next nextS
  have c1 : ¬ ((i : Int) < 0) := by omega
  have c2 : ¬ ((i : Int) > (l.length : Int)) := by omega
  refine (join_to (a := false) fun k => ?_).trans ?_
  · rw [if_neg (by simp), decide_eq_false c2]
  try dsimp only
  rw [if_neg (by decide), pwss_eq ht0 hi (by omega), Option.bind_some, ht0]
  obtain ⟨q, k, x, e1, e2⟩ := ptoken_eq (N := N) (l := l) (p := i + (t0.takeWhile wsB).length) rfl (by omega) hb hN
  try dsimp only
  rw [e1, Option.bind_some]
  try dsimp only
  by_cases h : (tokS N (i + (t0.takeWhile wsB).length) (l.drop (i + (t0.takeWhile wsB).length))).2.2 = 0
  · rw [if_neg (by simpa using h), e2 h]
  · rw [if_pos (by simpa using h)]
    have noT : ∀ (p : Nat) (t : List UInt8), (tokS N p t).2.2 ≠ 0 → tokS N p t = noTok (tokS N p t).2.2 := by
      intro p t h
      unfold tokS at h ⊢
      match t, h with
      | [], h => exact absurd rfl h
      | c :: r, h =>
        dsimp only at h ⊢
        by_cases k1 : punct.contains c = true
        · rw [if_pos k1] at h; exact absurd rfl h
        rw [if_neg k1] at h ⊢
        by_cases k2 : c.toNat = 34
        · rw [if_pos k2] at h ⊢
          by_cases k3 : (textS N r (p + 1) []).2.2 = 0
          · rw [if_pos k3] at h; exact absurd rfl h
          · rw [if_neg k3]; rfl
        rw [if_neg k2] at h ⊢
        by_cases k3 : (([45] : List UInt8).contains c || digC c) = true
        · rw [if_pos k3] at h ⊢
          by_cases k4 : numN (c :: r) = 0
          · rw [if_pos k4]; rfl
          · rw [if_neg k4] at h; exact absurd rfl h
        rw [if_neg k3] at h ⊢
        by_cases k4 : isWord ((c :: r).takeWhile alphaB) = true
        · rw [if_pos k4] at h; exact absurd rfl h
        · rw [if_neg k4]; rfl
    rw [noT _ _ h]; rfl
end
end
end Go.VM
