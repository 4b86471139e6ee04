/- The program's parser of JSON texts and the reference's are the same. -/
import Derived.Test.YtbmilkoebhmnnaaGreatDoorTok
import Derived.Test.YtbmilkoebhmnnaaGreatDoorVal
set_option linter.unusedVariables false
set_option linter.unusedSimpArgs false
namespace Go.VM
section
variable {N : Nat} {l : List UInt8}
def stopQ (p : Ref14Parser) (i e : Int) : Ref14Parser := if p.fail == 0 then Ref14Parser.mk p.s p.at_ p.nodes e i else p
theorem pstopQ (p : Ref14Parser) (i e : Int) : ref14_parser_stop N p i e = some (stopQ p i e) := by
  unfold ref14_parser_stop stopQ; split <;> rfl
theorem isQ (t : ApiToken) (c : List UInt8) : ref14_is N t c = some (t.kind == 2 && t.text == c) := by
  unfold ref14_is; cases t.kind == 2 <;> simp
theorem stopQ_ok {p : Ref14Parser} (h : p.fail = 0) (i e : Int) : stopQ p i e = Ref14Parser.mk p.s p.at_ p.nodes e i := by simp [stopQ, h]
theorem stopQ_no {p : Ref14Parser} (h : p.fail ≠ 0) (i e : Int) : stopQ p i e = p := by simp [stopQ, h]
def noT : ApiToken := ApiToken.mk 0 [] 0
/-- one step of the program's parser -/
def mstep (N : Nat) (l : List UInt8) (E : Nat) (t : ApiToken) (next : Int) (p : JPsr) : Option (ApiValue × Int × Int) :=
  Option.bind (jd_take N p t) fun q => if q.2 != 0 then some (jd_zero, t.at_, q.2) else if t.kind == 1 then some (q.1.out, l.length, 0) else jd_loop N l E next q.1
theorem loop_step (hb : l.length ≤ 2 ^ 40) (hN : l.length + 10 ≤ N) (E i : Nat) (hi : i ≤ l.length) (p : JPsr) :
    jd_loop N l (E + 1) i p = if (nextS N l i).2.2 ≠ 0 then some (jd_zero, (i : Int), (nextS N l i).2.2) else mstep N l E (nextS N l i).1 (nextS N l i).2.1 p := by
  rw [jd_loop, pnext_eq hb hN hi, Option.bind_some]
  by_cases h : (nextS N l i).2.2 = 0
  · rw [if_neg (by simp [h]), if_neg (by simp [h])]; rfl
  · rw [if_pos (by simp [h]), if_pos h]
/-- X: what the program answers; S: its state before the next token, with so many values counted -/
structure MR (N : Nat) (l : List UInt8) (X : Option (ApiValue × Int × Int)) (S : Int → JPsr) (p : Ref14Parser) : Prop where
  s : p.s = l
  lo : 0 ≤ p.at_
  hi : p.at_ ≤ l.length
  bad : p.fail ≠ 0 → X = some (jd_zero, p.where_, p.fail)
  ok : p.fail = 0 → ∃ E i : Nat, p.at_ = i ∧ l.length + 2 ≤ E + i ∧ 0 ≤ p.nodes ∧ p.nodes ≤ 20000 ∧ X = jd_loop N l E i (S p.nodes)
/-- the same behind a token t -/
structure TR (N : Nat) (l : List UInt8) (X : Option (ApiValue × Int × Int)) (S : Int → JPsr) (t : ApiToken) (p : Ref14Parser) : Prop where
  s : p.s = l
  lo : 0 ≤ p.at_
  hi : p.at_ ≤ l.length
  bad : p.fail ≠ 0 → X = some (jd_zero, p.where_, p.fail) ∧ t = noT
  ok : p.fail = 0 → TK l.length t ∧ ∃ E i : Nat, p.at_ = i ∧ (t.kind ≠ 1 → l.length + 2 ≤ E + i) ∧ 0 ≤ p.nodes ∧ p.nodes ≤ 20000 ∧ X = mstep N l E t i (S p.nodes)
/-- what a reading of a token brings -/
structure NQ (N : Nat) (l : List UInt8) (X : Option (ApiValue × Int × Int)) (S : Int → JPsr) (p : Ref14Parser) (r : ApiToken × Ref14Parser) : Prop where
  tr : TR N l X S r.1 r.2
  le : p.at_ ≤ r.2.at_
  on : r.2.fail = 0 → p.fail = 0 ∧ (r.1.kind ≠ 1 → p.at_ < r.2.at_)
theorem nextQ (hb : l.length ≤ 2 ^ 40) (hN : l.length + 10 ≤ N) {X : Option (ApiValue × Int × Int)} {S : Int → JPsr} {p : Ref14Parser} (h : MR N l X S p) : Ok (ref14_parser_next N p) (NQ N l X S p) := by
  unfold ref14_parser_next
  by_cases hf : p.fail = 0
  · rw [if_neg (by simp [hf])]
    obtain ⟨E, i, h1, h2, h3, h4, h5⟩ := h.ok hf
    have hi : i ≤ l.length := by have := h.hi; omega
    obtain ⟨E, rfl⟩ : ∃ k, E = k + 1 := ⟨E - 1, by omega⟩
    rw [loop_step hb hN E i hi] at h5
    rw [h.s, h1, rnext_eq hb hN hi, joinK_eq, Option.bind_some]
    dsimp only
    by_cases he : (nextS N l i).2.2 = 0
    · rw [if_neg (by simp [he])]
      rw [if_neg (by simp [he])] at h5
      obtain ⟨k1, j, k2, k3, k4, k5⟩ := nextS_ok hi he
      refine Ok.ret ⟨⟨rfl, by simp only []; omega, by simp only []; omega, fun hz => absurd hf hz, fun _ => ⟨k1, E, j, k2, fun hk => by have := k5 hk; omega, h3, h4, ?_⟩⟩, by simp only []; omega, fun _ => ⟨hf, fun hk => by have := k5 hk; simp only []; omega⟩⟩
      rw [k2] at h5; exact h5
    · rw [if_pos (by simp [he]), pstopQ, Option.bind_some, stopQ_ok hf]
      rw [if_pos he] at h5
      exact Ok.ret ⟨⟨h.s, h.lo, h.hi, fun _ => ⟨h5, rfl⟩, fun hz => absurd hz he⟩, Int.le_refl _, fun hz => absurd hz he⟩
  · rw [if_pos (by simp [hf])]
    exact Ok.ret ⟨⟨h.s, h.lo, h.hi, fun _ => ⟨h.bad hf, rfl⟩, fun hz => absurd hz hf⟩, Int.le_refl _, fun hz => absurd hz hf⟩
/-- the reference stops at a token that the program does not take -/
theorem TR.stop {X : Option (ApiValue × Int × Int)} {S : Int → JPsr} {t : ApiToken} {p : Ref14Parser} (h : TR N l X S t p) (hf : p.fail = 0) {e : Int} (he : e ≠ 0) (hx : ∀ n, 0 ≤ n → n ≤ 20000 → ∃ q, jd_take N (S n) t = some (q, e)) {S' : Int → JPsr} : MR N l X S' (stopQ p t.at_ e) := by
  obtain ⟨_, E, i, h1, h2, h3, h4, h5⟩ := h.ok hf
  rw [stopQ_ok hf]
  refine ⟨h.s, h.lo, h.hi, fun _ => ?_, fun hz => absurd hz he⟩
  obtain ⟨q, hq⟩ := hx _ h3 h4
  rw [h5, mstep, hq, Option.bind_some, if_pos (by simp [he])]
theorem TR.dead {X : Option (ApiValue × Int × Int)} {S S' : Int → JPsr} {t : ApiToken} {p : Ref14Parser} (h : TR N l X S t p) (hf : p.fail ≠ 0) : MR N l X S' p := ⟨h.s, h.lo, h.hi, fun _ => (h.bad hf).1, fun hz => absurd hz hf⟩
theorem MR.dead {X : Option (ApiValue × Int × Int)} {S S' : Int → JPsr} {p : Ref14Parser} (h : MR N l X S p) (hf : p.fail ≠ 0) : MR N l X S' p := ⟨h.s, h.lo, h.hi, fun _ => h.bad hf, fun hz => absurd hz hf⟩
/-- a token that the program takes without counting a value -/
theorem TR.go {X : Option (ApiValue × Int × Int)} {S S' : Int → JPsr} {t : ApiToken} {p : Ref14Parser} (h : TR N l X S t p) (hk : p.fail = 0 → t.kind ≠ 1 ∧ ∀ n, jd_take N (S n) t = some (S' n, 0)) : MR N l X S' p := by
  refine ⟨h.s, h.lo, h.hi, fun hz => (h.bad hz).1, fun hf => ?_⟩
  obtain ⟨_, E, i, h1, h2, h3, h4, h5⟩ := h.ok hf
  obtain ⟨h6, h7⟩ := hk hf
  refine ⟨E, i, h1, h2 h6, h3, h4, ?_⟩
  rw [h5, mstep, h7, Option.bind_some, if_neg (by simp), if_neg (by simp [h6])]
/-- how many rounds are left -/
def leftQ (l : List UInt8) (p : Ref14Parser) : Nat := if p.fail = 0 then l.length - p.at_.toNat + 2 else 1
theorem leftQ_pos (p : Ref14Parser) : 1 ≤ leftQ l p := by unfold leftQ; split <;> omega
theorem leftQ_le (q : Ref14Parser) : leftQ l q ≤ l.length + 2 := by unfold leftQ; split <;> omega
theorem leftQ_less {p q : Ref14Parser} (hp : 0 ≤ p.at_ ∧ p.at_ ≤ l.length) (hf : p.fail = 0) (hq : 0 ≤ q.at_ ∧ q.at_ ≤ l.length) (h : q.fail = 0 → p.at_ < q.at_) : leftQ l q + 1 ≤ leftQ l p := by
  unfold leftQ
  rw [if_pos hf]
  split
  · rename_i e; have := h e; omega
  · omega
/-- the state inside an array or object -/
def inA (st : List ApiValue) (out v : ApiValue) (w : Int) (n : Int) : JPsr := ⟨st ++ [v], w, n, out⟩
/-- the state behind a value -/
def aftS (st : List ApiValue) (out v : ApiValue) (n : Int) : JPsr := jd_done ⟨st, 0, n, out⟩ v
def arrV (items : List ApiValue) : ApiValue := ⟨6, [], [], items⟩
def objV (keys : List (List UInt8)) (items : List ApiValue) : ApiValue := ⟨7, [], keys, items⟩
theorem aft_in (st : List ApiValue) (out v x : ApiValue) (n : Int) : aftS (st ++ [v]) out x n = inA st out { v with items := v.items ++ [x] } 5 n := by
  simp [aftS, inA, jd_done]
def closT (v : ApiValue) : List UInt8 := if v.kind == 7 then [125] else [93]
theorem clos_in (st : List ApiValue) (out v : ApiValue) (w n : Int) : jd_closing (inA st out v w n) = closT v := by simp [jd_closing, inA, closT]
theorem done_w (p : JPsr) (w : Int) (v : ApiValue) : jd_done { p with want := w } v = jd_done p v := by unfold jd_done; rfl
/-- the value that a token begins: the reference's answer, the program's state behind it -/
def VQ (N : Nat) (l : List UInt8) (X : Option (ApiValue × Int × Int)) (st : List ApiValue) (out : ApiValue) (p : Ref14Parser) (r : ApiValue × Ref14Parser) : Prop :=
  MR N l X (aftS st out r.1) r.2 ∧ p.at_ ≤ r.2.at_ ∧ (r.2.fail = 0 → p.fail = 0)
theorem fits_big {n b : Nat} (h : n ≤ 1000000000) (hb : b ≤ 100) : fitsA n b := by
  unfold fitsA
  have : n * b ≤ 1000000000 * 100 := Nat.mul_le_mul h hb
  omega
/-! the program's steps -/
theorem take_bad {p : JPsr} {t : ApiToken} (h : jd_fits p t = false) : jd_take N p t = some (p, 140) := by unfold jd_take; rw [if_pos h]
theorem fits_ends {st : List ApiValue} {out v : ApiValue} {w n : Int} {p : Int} (hw : w = 1 ∨ w = 3 ∨ w = 5) : jd_fits (inA st out v w n) (ApiToken.mk 2 (closT v) p) = true := by
  have e : jd_ends (inA st out v w n) (ApiToken.mk 2 (closT v) p) = true := by unfold jd_ends; rw [clos_in]; simp
  have hw2 : (inA st out v w n).want = w := rfl
  unfold jd_fits
  rw [e, hw2]
  rcases hw with rfl | rfl | rfl <;> simp
theorem take_close {st : List ApiValue} {out v : ApiValue} {w n : Int} {p : Int} (hw : w = 1 ∨ w = 3 ∨ w = 5) : jd_take N (inA st out v w n) (ApiToken.mk 2 (closT v) p) = some (aftS st out v n, 0) := by
  unfold jd_take
  rw [if_neg (by rw [fits_ends hw]; decide), if_pos (show ((ApiToken.mk 2 (closT v) p).kind == 2) = true from rfl)]
  have e : (inA st out v w n).stack.getLast? = some v := by simp [inA]
  have e2 : ({ inA st out v w n with stack := (inA st out v w n).stack.dropLast } : JPsr) = ⟨st, w, n, out⟩ := by simp [inA]
  unfold jd_punct
  rw [e, e2]
  unfold closT
  cases v.kind == 7
  · exact congrArg some (congrArg (·, (0 : Int)) (done_w ⟨st, 0, n, out⟩ w v))
  · exact congrArg some (congrArg (·, (0 : Int)) (done_w ⟨st, 0, n, out⟩ w v))
theorem take_comma {st : List ApiValue} {out v : ApiValue} {n : Int} {p : Int} : jd_take N (inA st out v 5 n) (ApiToken.mk 2 [44] p) = some (inA st out v (if v.kind == 7 then 2 else 0) n, 0) := by
  have e : (inA st out v 5 n).stack.getLast? = some v := by simp [inA]
  have hf : jd_fits (inA st out v 5 n) (ApiToken.mk 2 [44] p) = true := by unfold jd_fits; simp [inA]
  unfold jd_take
  rw [if_neg (by rw [hf]; decide), if_pos (show ((ApiToken.mk 2 [44] p).kind == 2) = true from rfl)]
  unfold jd_punct
  rw [e]
  rfl
theorem take_colon {st : List ApiValue} {out v : ApiValue} {n : Int} {p : Int} : jd_take N (inA st out v 4 n) (ApiToken.mk 2 [58] p) = some (inA st out v 0 n, 0) := by
  have hf : jd_fits (inA st out v 4 n) (ApiToken.mk 2 [58] p) = true := by unfold jd_fits; simp [inA]
  unfold jd_take
  rw [if_neg (by rw [hf]; decide), if_pos (show ((ApiToken.mk 2 [58] p).kind == 2) = true from rfl)]
  rfl
theorem fits5 {st : List ApiValue} {out v : ApiValue} {n : Int} {t : ApiToken} (h1 : (t.kind == 2 && t.text == [44]) = false) (h2 : (t.kind == 2 && t.text == closT v) = false) : jd_fits (inA st out v 5 n) t = false := by
  unfold jd_fits jd_ends
  rw [clos_in]
  have hw2 : (inA st out v 5 n).want = 5 := rfl
  rw [hw2, h1, h2]
  rfl
theorem fits4 {st : List ApiValue} {out v : ApiValue} {n : Int} {t : ApiToken} (h1 : (t.kind == 2 && t.text == [58]) = false) : jd_fits (inA st out v 4 n) t = false := by
  unfold jd_fits
  have hw2 : (inA st out v 4 n).want = 4 := rfl
  rw [hw2, h1]
  rfl
theorem fits1 {st : List ApiValue} {out v : ApiValue} {n : Int} {t : ApiToken} (h2 : (t.kind == 2 && t.text == closT v) = false) : jd_fits (inA st out v 1 n) t = jd_opens t := by
  unfold jd_fits jd_ends
  rw [clos_in]
  have hw2 : (inA st out v 1 n).want = 1 := rfl
  rw [hw2, h2]
  simp
theorem fits0 {p : JPsr} {t : ApiToken} (h : p.want = 0) : jd_fits p t = jd_opens t := by unfold jd_fits; simp [h]
theorem fitsK {st : List ApiValue} {out v : ApiValue} {w n : Int} {t : ApiToken} (hw : w = 2 ∨ w = 3) (h2 : w = 3 → (t.kind == 2 && t.text == closT v) = false) : jd_fits (inA st out v w n) t = (t.kind == 3) := by
  unfold jd_fits jd_ends
  rw [clos_in]
  have hw2 : (inA st out v w n).want = w := rfl
  rw [hw2]
  rcases hw with rfl | rfl
  · simp
  · rw [h2 rfl]; simp
theorem take_key {st : List ApiValue} {out : ApiValue} {keys : List (List UInt8)} {items : List ApiValue} {w n : Int} {s : List UInt8} {p : Int} (hw : w = 2 ∨ w = 3) :
    jd_take N (inA st out (objV keys items) w n) (ApiToken.mk 3 s p) = if s ∈ keys then some (inA st out (objV keys items) w n, 143) else some (inA st out (objV (keys ++ [s]) items) 4 n, 0) := by
  have hf : jd_fits (inA st out (objV keys items) w n) (ApiToken.mk 3 s p) = true := by rw [fitsK hw (fun _ => rfl)]; rfl
  have hw2 : ((inA st out (objV keys items) w n).want == 2 || (inA st out (objV keys items) w n).want == 3) = true := by rcases hw with rfl | rfl <;> rfl
  have e : (inA st out (objV keys items) w n).stack.getLast? = some (objV keys items) := by simp [inA]
  unfold jd_take
  rw [if_neg (by rw [hf]; decide), if_neg (fun h => absurd (show ((3 : Int) == 2) = true from h) (by decide)), if_pos hw2]
  unfold jd_key
  rw [e]
  dsimp only
  by_cases h : s ∈ keys
  · rw [if_pos h, if_pos (show s ∈ (objV keys items).keys from h)]
  · rw [if_neg h, if_neg (show ¬ s ∈ (objV keys items).keys from h)]; simp [inA, objV]
theorem take_open {st : List ApiValue} {out : ApiValue} {w n : Int} {p : Int} (c : UInt8) (hc : c = 91 ∨ c = 123) (hf : jd_fits ⟨st, w, n, out⟩ (ApiToken.mk 2 [c] p) = true) :
    jd_take N ⟨st, w, n, out⟩ (ApiToken.mk 2 [c] p) = some (if c = 91 then jd_open ⟨st, w, n, out⟩ 6 1 else jd_open ⟨st, w, n, out⟩ 7 3) := by
  unfold jd_take
  rw [if_neg (by rw [hf]; decide), if_pos (show ((ApiToken.mk 2 [c] p).kind == 2) = true from rfl)]
  rcases hc with rfl | rfl <;> rfl
/-- a value that is one token -/
def plainV (N : Nat) (t : ApiToken) : ApiValue := if t.kind == 4 then ⟨4, (numS N t.text).1, [], []⟩ else if t.kind == 5 then ⟨jd_word t.text, [], [], []⟩ else ⟨5, t.text, [], []⟩
theorem take_plain {st : List ApiValue} {out : ApiValue} {w n : Int} {t : ApiToken} (hw : w = 0 ∨ w = 1) (hf : jd_fits ⟨st, w, n, out⟩ t = true) (hk : t.kind = 3 ∨ t.kind = 4 ∨ t.kind = 5) (hn : t.kind = 4 → token_Number N t.text = some (numS N t.text)) :
    jd_take N ⟨st, w, n, out⟩ t = some (if t.kind = 4 ∧ (numS N t.text).2 ≠ 0 then (⟨st, w, n, out⟩, 144) else jd_put ⟨st, w, n, out⟩ (plainV N t)) := by
  have h1 : (t.kind == 2) = false := by rcases hk with h | h | h <;> rw [h] <;> rfl
  have h2 : (w == 2 || w == 3) = false := by rcases hw with h | h <;> rw [h] <;> rfl
  have h3 : (t.kind == 1) = false := by rcases hk with h | h | h <;> rw [h] <;> rfl
  unfold jd_take
  rw [if_neg (by rw [hf]; decide), if_neg (by rw [h1]; decide)]
  dsimp only
  rw [if_neg (by rw [h2]; decide), if_neg (by rw [h3]; decide)]
  unfold jd_plain plainV
  rcases hk with h | h | h
  · rw [h]; rfl
  · rw [hn h, h]
    simp only [BEq.rfl, if_true, Option.bind_some, true_and, bne_iff_ne, ne_eq, ite_not]
    split <;> rfl
  · rw [h]; rfl
theorem put_done {st : List ApiValue} {out v : ApiValue} {w n : Int} : jd_put ⟨st, w, n, out⟩ v = if n + 1 > 20000 then (⟨st, w, n + 1, out⟩, 142) else (aftS st out v (n + 1), 0) := by
  unfold jd_put
  split
  · rfl
  · exact congrArg (·, (0 : Int)) (done_w ⟨st, 0, n + 1, out⟩ w v)
theorem open_step {st : List ApiValue} {out : ApiValue} {w n : Int} {kd w' : Int} (hl : st.length < 64) : jd_open ⟨st, w, n, out⟩ kd w' = if n + 1 > 20000 then (⟨st, w, n + 1, out⟩, 142) else (inA st out ⟨kd, [], [], []⟩ w' (n + 1), 0) := by
  unfold jd_open
  rw [if_neg (by simp only []; omega)]
  rfl
/-- one more value: the reference counts it too -/
theorem TR.count {X : Option (ApiValue × Int × Int)} {S S' : Int → JPsr} {t : ApiToken} {p : Ref14Parser} (h : TR N l X S t p) (hf : p.fail = 0) (hk : t.kind ≠ 1) (hx : ∀ n, 0 ≤ n → n ≤ 20000 → (n + 1 > 20000 → ∃ q, jd_take N (S n) t = some (q, 142)) ∧ (¬ n + 1 > 20000 → jd_take N (S n) t = some (S' (n + 1), 0))) :
    MR N l X S' (if p.nodes + 1 > 20000 then Ref14Parser.mk p.s p.at_ (p.nodes + 1) 142 t.at_ else Ref14Parser.mk p.s p.at_ (p.nodes + 1) p.fail p.where_) := by
  obtain ⟨_, E, i, h1, h2, h3, h4, h5⟩ := h.ok hf
  obtain ⟨h6, h7⟩ := hx _ h3 h4
  by_cases hc : p.nodes + 1 > 20000
  · rw [if_pos hc]
    obtain ⟨q, hq⟩ := h6 hc
    refine ⟨h.s, h.lo, h.hi, fun _ => ?_, fun hz => by cases hz⟩
    rw [h5, mstep, hq, Option.bind_some, if_pos (by simp)]
  · rw [if_neg hc]
    refine ⟨h.s, h.lo, h.hi, fun hz => absurd hf hz, fun _ => ⟨E, i, h1, h2 hk, by simp only []; omega, by simp only []; omega, ?_⟩⟩
    rw [h5, mstep, h7 hc, Option.bind_some, if_neg (by simp), if_neg (by simp [hk])]
end
end Go.VM
