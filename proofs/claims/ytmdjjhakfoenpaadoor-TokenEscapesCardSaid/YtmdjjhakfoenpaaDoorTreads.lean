/- The plain law of TokenReads: both readers give the same token at every offset. -/
import Derived.Test.YtmdjjhakfoenpaaDoorNext
import Derived.Test.YtmdjjhakfoenpaaDoorRd
set_option linter.unusedVariables false
set_option linter.unusedSimpArgs false
namespace Go.VM
section
variable {N : Nat} {l : List UInt8}
def nextR (N : Nat) (l : List UInt8) (i : Int) : ApiToken × Int × Int := if 0 ≤ i ∧ i ≤ l.length then nextS N l i.toNat else noTok 4
theorem pnext_all (hb : l.length ≤ 2 ^ 40) (hN : l.length + 10 ≤ N) (i : Int) : token_Next N l i = some (nextR N l i) := by
  unfold nextR
  by_cases h : 0 ≤ i ∧ i ≤ l.length
  · obtain ⟨n, rfl⟩ : ∃ n : Nat, i = n := ⟨i.toNat, by omega⟩
    rw [if_pos h, pnext_eq hb hN (by omega)]; rfl
  · rw [if_neg h]
    unfold token_Next
    refine (join_to (a := true) fun k => ?_).trans ?_
    · by_cases c : i < 0
      · rw [if_pos (decide_eq_true c)]
      · rw [if_neg (by simpa using c), decide_eq_true (by omega)]
    rfl
theorem rnext_all (hb : l.length ≤ 2 ^ 40) (hN : l.length + 10 ≤ N) (i : Int) : ref13_Next N l i = some (nextR N l i) := by
  unfold nextR
  by_cases h : 0 ≤ i ∧ i ≤ l.length
  · obtain ⟨n, rfl⟩ : ∃ n : Nat, i = n := ⟨i.toNat, by omega⟩
    rw [if_pos h, rnext_eq hb hN (by omega)]; rfl
  · rw [if_neg h]
    unfold ref13_Next
    refine (join_to (a := true) fun k => ?_).trans ?_
    · by_cases c : i < 0
      · rw [if_pos (decide_eq_true c)]
      · rw [if_neg (by simpa using c), decide_eq_true (by omega)]
    rfl
theorem reads_loop (hb : l.length ≤ 2 ^ 40) (hN : l.length + 10 ≤ N) (k4 : Unit → Option Bool) : ∀ xs : List Int, law13_TokenReads_L1 N l k4 xs = k4 ()
  | [] => by rw [law13_TokenReads_L1]
  | x :: xs => by
    rw [law13_TokenReads_L1, pnext_all hb hN, Option.bind_some, rnext_all hb hN, Option.bind_some, joinK_eq]
    simp only [beq_self_eq_true, Bool.and_self, if_true, bne_self_eq_false, Bool.false_eq_true, if_false]
    exact reads_loop hb hN k4 xs
end
theorem sane13 : law13_sane 2000 = some true := by kernel_rfl
theorem tokenReads_said (s : List UInt8) (_ : s.length ≤ reachBytes) (i : Int) (_ : (Lit.int .i64 i).wf = true) : law13_TokenReads 2000 s i = some true := by
  unfold law13_TokenReads
  rw [sane13, Option.bind_some, if_pos rfl]
  by_cases hs : (s.length : Int) > 1000
  · rw [if_pos (decide_eq_true hs)]
  · rw [if_neg (by simpa using hs), joinK_eq]
    simp only [letL]
    rw [grdS (by simp)]
    exact reads_loop (by omega) (by omega) _ _
end Go.VM
