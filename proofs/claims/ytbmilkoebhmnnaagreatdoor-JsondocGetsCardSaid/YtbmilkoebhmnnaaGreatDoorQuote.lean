/- Quoting: the program's and the reference's writers of strings are the same. -/
import Derived.Test.YtbmilkoebhmnnaaGreatDoorNext
set_option linter.unusedVariables false
set_option linter.unusedSimpArgs false
namespace Go.VM
section
variable {N : Nat}
/-- how many code points a text has, none if it is no text -/
def countS : Nat → List UInt8 → Option Nat
  | 0, _ => none
  | _ + 1, [] => some 0
  | k + 1, c :: t =>
    match decB (c :: t) with
    | some (_, n) => (countS k ((c :: t).drop n)).map (· + 1)
    | none => none
def countR (n : Nat) : Option Nat → Int
  | some m => ((n + m : Nat) : Int)
  | none => -1
section
variable {l : List UInt8}
theorem rcount_loop (hb : l.length ≤ 2 ^ 50) (hN : 5 ≤ N) : ∀ (k : Nat) (t : List UInt8) (i n : Nat), l.drop i = t → i ≤ l.length → t.length < k → n ≤ i → ref02_Count_L1 N l (fun j => some j) k (n : Int) (i : Int) = some (countR n (countS k t))
  | 0, t, i, n, ht, hi, hk, hn => by omega
  | k + 1, [], i, n, ht, hi, hk, hn => by
    have hl := len_drop ht hi
    simp only [List.length_nil] at hl
    have c : ¬ (i : Int) < (l.length : Int) := by omega
    rw [ref02_Count_L1, if_neg (by simpa using c)]; rfl
  | k + 1, c :: t, i, n, ht, hi, hk, hn => by
    have hl := len_drop ht hi
    simp only [List.length_cons] at hl hk
    have c0 : (i : Int) < (l.length : Int) := by omega
    rw [ref02_Count_L1, if_pos (decide_eq_true c0), rudec_eq hN (by omega) (by omega), Option.bind_some, ht, countS]
    cases hd : decB (c :: t) with
    | none => rfl
    | some p =>
      obtain ⟨r, m⟩ := p
      obtain ⟨e1, e2, _⟩ := decB_len hd
      simp only [List.length_cons] at e2
      rw [udecR_some, if_neg (by simp), wr_i64 (by omega), show (n : Int) + 1 = ((n + 1 : Nat) : Int) by simp]
      rw [rcount_loop hb hN k _ (i + m) (n + 1) (by rw [← List.drop_drop, ht]) (by omega) (by rw [List.length_drop, List.length_cons]; omega) (by omega)]
      simp only []
      cases countS k ((c :: t).drop m) with
      | none => rfl
      | some q => simp only [countR, Option.map_some]; congr 1; omega
theorem rvalid_eq (hb : l.length ≤ 2 ^ 50) (hN : l.length + 5 ≤ N) : ref02_Valid N l = some (countS N l).isSome := by
  unfold ref02_Valid ref02_Count
  rw [joinK_eq]
  have := rcount_loop (N := N) hb (by omega) N l 0 0 (by simp) (by omega) (by omega) (by omega)
  rw [show (0 : Int) = ((0 : Nat) : Int) from rfl, this, Option.bind_some]
  cases countS N l with
  | none => rfl
  | some q => simp [countR]
end
end
end Go.VM
