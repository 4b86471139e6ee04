/- The plain law of JrdDecodes: both decoders give the same. -/
import Derived.Test.YtdbeiialamganaaParse
import Derived.Test.YtdbeiialamganaaRd
import Derived.KernelRfl
set_option linter.unusedVariables false
set_option linter.unusedSimpArgs false
namespace Go.VM
theorem saneD : law16_sane 13000 = some true := by kernel_rfl
theorem decs_loop {N : Nat} (k12 : Unit → Option Bool) : ∀ l : List ApiValue, (∀ x, x ∈ l → okV x) → law16_JrdDecodes_L1 N k12 l = k12 ()
  | [], _ => by rw [law16_JrdDecodes_L1]
  | x :: l, h => by
    have hx := h x (by simp)
    rw [law16_JrdDecodes_L1, dec_eq x hx, Option.bind_some, rdec_eq x hx, Option.bind_some, joinK_eq]
    simp only [bne_self_eq_false, Bool.false_eq_true, if_false, sameJ_refl _ (decJ_fewJ x), Option.bind_some, Bool.not_true]
    exact decs_loop k12 l fun y hy => h y (by simp [hy])
theorem jrdDecodes_said (v : ApiValue) (_ : okApiValue v) (s : List UInt8) (_ : s.length ≤ reachBytes) : law16_JrdDecodes 13000 v s = some true := by
  unfold law16_JrdDecodes
  rw [saneD, Option.bind_some, if_pos rfl, joinK_eq]
  obtain ⟨b, e2, hb⟩ := keepV_ok (N := 13000) (by omega) v 90 (by omega)
  rw [show (90 : Int) = ((90 : Nat) : Int) from rfl, e2, Option.bind_some]
  simp only [if_true]
  cases b with
  | false => rfl
  | true =>
    simp only [if_true]
    by_cases hs : decide ((s.length : Int) > 3000) = true
    · rw [if_pos hs]
    · rw [if_neg hs]
      simp only [decide_eq_true_eq] at hs
      obtain ⟨w, hw, hok, _⟩ := parse_ok (N := 13000) (l := s) (by omega) (by omega)
      rw [hw, Option.bind_some, joinK_eq]
      simp only [letL]
      rw [grdS (by simp)]
      refine decs_loop _ _ fun x hx => ?_
      simp only [List.mem_cons, List.not_mem_nil, or_false] at hx
      rcases hx with rfl | rfl
      · exact hb rfl
      · exact hok
end Go.VM
