/- From a reading of the arguments to the relation, and back. -/
import Derived.Test.YtdbeiialamganaaVMDec
import Derived.Below
import Derived.Deep.Slices
import Derived.ChangeArms
import Derived.ChangeSame
set_option linter.unusedVariables false
namespace Go.VM

def ghost0 (W : World) : Ghost := ⟨fun b => match W.heap[b]? with | some (.cells arr _ _) => some arr.toList | _ => none, fun _ => none⟩
theorem sim0 {E : Env} (hT : ∀ g, E.T g = none) {W : World} {args : List AVal} {vs : List Value} (h : RepL (ghost0 W) args vs) : Sim E (fun b => if b < W.heap.size then 1 else 0) (ghost0 W) ⟨[], 0⟩ W (stripL args) vs where
  com_ok b cs hb := by
    simp only [ghost0] at hb
    split at hb
    · rename_i arr e fz hh
      simp only [Option.some.injEq] at hb; subst hb
      exact ⟨arr, e, fz, hh, [], by simp⟩
    · cases hb
  box_ok p hp := by simp at hp
  keys := by simp
  inj i j b h := by simp [ghost0] at h
  bx_lt i b h := by simp [ghost0] at h
  bx_next i b h := by simp [ghost0] at h
  bx_F p b hp := by simp at hp
  F_lt b hb := by simp; omega
  glob g cs h := by rw [hT] at h; cases h
  rep := h.strip
  own := ownL_strip _ _ _ _
  tok b := by rw [cntL_strip]; simp [cntM]; split <;> omega
theorem ACall.shell {E : Env} (hT : ∀ g, E.T g = none) {W : World} {f : FuncId} {args args' : List AVal} {cargs : Array Value} {Q : AVal → St → Prop} (hr : RepL (ghost0 W) args' cargs.toList) (e : stripL args' = args) (h : ACall E f args ⟨[], 0⟩ Q) :
    Calls E.P f cargs W fun e W' => ∃ v, e = .returned v ∧ Go.RowKit.Below W.heap.size W W' ∧ ∃ Γ' r st', Rep Γ' r v ∧ Q r st' := by
  subst e
  refine (h.go _ _ W cargs (sim0 hT hr)).mono ?_
  rintro e W' ⟨v, he, Γ', r, st', hx, _, hs, hq⟩
  refine ⟨v, he, ⟨hx.os, hx.tape, hx.output, hx.size, fun k hk => (hx.keep k (by simp [hk])).1⟩, Γ', r, st', ?_, hq⟩
  have := hs.rep
  cases this; assumption

end Go.VM
