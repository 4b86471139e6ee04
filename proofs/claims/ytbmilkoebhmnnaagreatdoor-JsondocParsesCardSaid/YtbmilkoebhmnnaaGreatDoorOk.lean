/- That a decompiled function answers, and what holds of its answer. -/
import Derived.Test.YtbmilkoebhmnnaaGreatDoorBase
set_option linter.unusedVariables false
namespace Go.VM
def Ok {α : Type} (x : Option α) (P : α → Prop) : Prop := ∃ a, x = some a ∧ P a
section
variable {α β : Type} {P : α → Prop} {Q : β → Prop}
theorem Ok.ret {a : α} (h : P a) : Ok (some a) P := ⟨a, rfl, h⟩
theorem Ok.bind {x : Option β} {f : β → Option α} (h : Ok x Q) (k : ∀ b, Q b → Ok (f b) P) : Ok (Option.bind x f) P := by
  obtain ⟨b, rfl, hb⟩ := h; exact k b hb
theorem Ok.ite {c : Bool} {x y : Option α} (h1 : c = true → Ok x P) (h2 : c = false → Ok y P) : Ok (if c = true then x else y) P := by
  cases c
  · simpa using h2 rfl
  · simpa using h1 rfl
theorem Ok.grd {c : Prop} [Decidable c] {x : Option α} (hc : c) (h : Ok x P) : Ok (grd c x) P := by rw [grd_true hc]; exact h
theorem Ok.join {k : β → Option α} {body : (β → Option α) → Option α} (hb : Ok (body k) P) : Ok (joinK k body) P := hb
/-- where branches meet -/
theorem Ok.meet (J : β → Prop) {k : β → Option α} {body : (β → Option α) → Option α} (hk : ∀ b, J b → Ok (k b) P) (hb : ∀ k' : β → Option α, (∀ b, J b → Ok (k' b) P) → Ok (body k') P) : Ok (joinK k body) P := hb k hk
theorem Ok.letL {x : β} {f : β → Option α} (h : Ok (f x) P) : Ok (letL x f) P := h
theorem Ok.mono {x : Option α} {P' : α → Prop} (h : Ok x P) (k : ∀ a, P a → P' a) : Ok x P' := by obtain ⟨a, e, ha⟩ := h; exact ⟨a, e, k a ha⟩
theorem Ok.eq {x : Option α} {a : α} (h : x = some a) : Ok x (· = a) := ⟨a, h, rfl⟩
theorem Ok.idx {l : List α} {i : Int} (h0 : 0 ≤ i) (h1 : i < l.length) : Ok (idx l i) (fun x => l[i.toNat]? = some x) := by
  have : i.toNat < l.length := by omega
  exact ⟨l[i.toNat], by simp [VM.idx, h0, List.getElem?_eq_getElem this], List.getElem?_eq_getElem this⟩
theorem Ok.sub {l : List α} {a b : Int} (h0 : 0 ≤ a) (h1 : a ≤ b) (h2 : b ≤ l.length) : Ok (sub l a b) (fun x => x = (l.drop a.toNat).take (b.toNat - a.toNat) ∧ x.length = (b - a).toNat) := by
  refine ⟨_, by simp [VM.sub, h0, h1, h2], rfl, ?_⟩
  simp; omega
end
end Go.VM
