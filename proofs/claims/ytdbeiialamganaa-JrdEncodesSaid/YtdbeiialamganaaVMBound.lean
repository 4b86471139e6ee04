/- What every value keeps: texts and slices are not too long; boxes are known. -/
import Derived.Test.YtdbeiialamganaaVMLoop
set_option linter.unusedVariables false
namespace Go.VM

mutual
def bnd : AVal → Prop
  | .agg cs => bndL cs
  | .tuple cs => bndL cs
  | .slice _ xs _ => xs.length ≤ maxN
  | .str s => s.length ≤ maxN
  | _ => True
def bndL : List AVal → Prop
  | [] => True
  | x :: xs => bnd x ∧ bndL xs
end
mutual
theorem Rep.bnd {Γ : Ghost} : {x : AVal} → {v : Value} → Rep Γ x v → VM.bnd x
  | _, _, .any v => by simp [VM.bnd]
  | _, _, .bool b => by simp [VM.bnd]
  | _, _, .int k n => by simp [VM.bnd]
  | _, _, .str b h => by simp only [VM.bnd]; exact h
  | _, _, .agg h o => by simp only [VM.bnd]; exact RepL.bndL h
  | _, _, .tuple h => by simp only [VM.bnd]; exact RepL.bndL h
  | _, _, .snil w o a => by simp [VM.bnd]
  | _, _, .slice o hb hl hc h => by simp only [VM.bnd]; omega
  | _, _, .ptr h => by simp [VM.bnd]
  | _, _, .nilp => by simp [VM.bnd]
  | _, _, .cptr hb hd h _ => by simp [VM.bnd]
  | _, _, .fn h k => by simp [VM.bnd]
  | _, _, .nilFn => by simp [VM.bnd]
  | _, _, .iface h => by simp [VM.bnd]
  | _, _, .nilIface => by simp [VM.bnd]
  | _, _, .iter _ _ _ => by simp [VM.bnd]
theorem RepL.bndL {Γ : Ghost} : {xs : List AVal} → {vs : List Value} → RepL Γ xs vs → VM.bndL xs
  | _, _, .nil => by simp [VM.bndL]
  | _, _, .cons h t => by simp only [VM.bndL]; exact ⟨Rep.bnd h, RepL.bndL t⟩
end

/-- the elements of a slice -/
theorem RepS.bndL {Γ : Ghost} {w : Nat} {xs : List AVal} {cs : List Value} (h : RepS Γ w xs cs) : VM.bndL xs := by
  induction xs generalizing cs with
  | nil => simp [VM.bndL]
  | cons x xs ih => cases h with
    | cons h hw t => simp only [VM.bndL]; exact ⟨h.bnd, ih t⟩

def keysLt (n : Nat) (m : List (Nat × List AVal)) : Prop := ∀ i, n ≤ i → mget m i = none
theorem Sim.keysLt {E : Env} {F : Nat → Nat} {Γ : Ghost} {st : St} {w : World} {af : List AVal} {tm : List Value} (hs : Sim E F Γ st w af tm) : keysLt st.next st.m := by
  intro i hi
  cases hm : mget st.m i with
  | none => rfl
  | some c =>
    obtain ⟨b, arr, e, hb⟩ := hs.box_ok _ (mget_mem hm)
    have := hs.bx_next _ _ hb.bx
    omega

theorem AWp.known {E : Env} {c : Code} {Q : APost} {af : List AVal} {st : St} (h : bndL af → keysLt st.next st.m → AWp E c Q af st) : AWp E c Q af st :=
  ⟨fun F Γ w a hd hs => (h hs.rep.bndL hs.keysLt).go F Γ w a hd hs⟩
theorem ACall.known {E : Env} {f : FuncId} {args : List AVal} {st : St} {Q : AVal → St → Prop} (h : bndL args → keysLt st.next st.m → ACall E f args st Q) : ACall E f args st Q :=
  ⟨fun F Γ w cargs hs => (h hs.rep.bndL hs.keysLt).go F Γ w cargs hs⟩

/-- what lies deeper: all texts and slices within -/
inductive Deep : AVal → Prop
  | leaf {x : AVal} (h : bnd x) (hc : match x with | .agg _ | .tuple _ | .slice _ _ _ => False | _ => True) : Deep x
  | agg {cs : List AVal} (h : ∀ x, x ∈ cs → Deep x) : Deep (.agg cs)
  | tuple {cs : List AVal} (h : ∀ x, x ∈ cs → Deep x) : Deep (.tuple cs)
  | slice {w : Nat} {xs : List AVal} {o : Bool} (hl : xs.length ≤ maxN) (h : ∀ x, x ∈ xs → Deep x) : Deep (.slice w xs o)
mutual
theorem Rep.deep {Γ : Ghost} : {x : AVal} → {v : Value} → Rep Γ x v → Deep x
  | _, _, .any v => .leaf (by simp [VM.bnd]) trivial
  | _, _, .bool b => .leaf (by simp [VM.bnd]) trivial
  | _, _, .int k n => .leaf (by simp [VM.bnd]) trivial
  | _, _, .str b h => .leaf (by simp only [VM.bnd]; exact h) trivial
  | _, _, .agg h o => .agg (RepL.deep h)
  | _, _, .tuple h => .tuple (RepL.deep h)
  | _, _, .snil w o a => .slice (by simp) (by simp)
  | _, _, .slice o hb hl hc h => .slice (by omega) (RepS.deep h)
  | _, _, .ptr h => .leaf (by simp [VM.bnd]) trivial
  | _, _, .nilp => .leaf (by simp [VM.bnd]) trivial
  | _, _, .cptr hb hd h _ => .leaf (by simp [VM.bnd]) trivial
  | _, _, .fn h k => .leaf (by simp [VM.bnd]) trivial
  | _, _, .nilFn => .leaf (by simp [VM.bnd]) trivial
  | _, _, .iface h => .leaf (by simp [VM.bnd]) trivial
  | _, _, .nilIface => .leaf (by simp [VM.bnd]) trivial
  | _, _, .iter _ _ _ => .leaf (by simp [VM.bnd]) trivial
theorem RepL.deep {Γ : Ghost} : {xs : List AVal} → {vs : List Value} → RepL Γ xs vs → ∀ x, x ∈ xs → Deep x
  | _, _, .nil => fun _ h => absurd h List.not_mem_nil
  | _, _, .cons h t => fun x hx => (List.mem_cons.1 hx).elim (fun e => e ▸ Rep.deep h) (fun hx => RepL.deep t x hx)
theorem RepS.deep {Γ : Ghost} : {w : Nat} → {xs : List AVal} → {cs : List Value} → RepS Γ w xs cs → ∀ x, x ∈ xs → Deep x
  | _, _, _, .nil w cs => fun _ h => absurd h List.not_mem_nil
  | _, _, _, .cons h hw t => fun x hx => (List.mem_cons.1 hx).elim (fun e => e ▸ Rep.deep h) (fun hx => RepS.deep t x hx)
end
theorem ACall.deep {E : Env} {f : FuncId} {args : List AVal} {st : St} {Q : AVal → St → Prop} (h : (∀ x, x ∈ args → Deep x) → ACall E f args st Q) : ACall E f args st Q :=
  ⟨fun F Γ w cargs hs => (h hs.rep.deep).go F Γ w cargs hs⟩
theorem Deep.bnd {x : AVal} (h : Deep x) : VM.bnd x := by
  induction h with
  | leaf h hc => exact h
  | agg h ih =>
    rename_i cs
    simp only [VM.bnd]
    clear h
    induction cs with
    | nil => simp [VM.bndL]
    | cons x xs ih2 => simp only [VM.bndL]; exact ⟨ih x (by simp), ih2 fun y hy => ih y (by simp [hy])⟩
  | tuple h ih =>
    rename_i cs
    simp only [VM.bnd]
    clear h
    induction cs with
    | nil => simp [VM.bndL]
    | cons x xs ih2 => simp only [VM.bndL]; exact ⟨ih x (by simp), ih2 fun y hy => ih y (by simp [hy])⟩
  | slice hl h ih => simp only [VM.bnd]; exact hl

/-- counters do not wrap -/
theorem wrap_nat {n : Nat} (h : n ≤ maxN) : IntKind.i64.wrap (n : Int) = n := by
  have : n < 9223372036854775808 := Nat.lt_of_le_of_lt h (by simp [maxN])
  simp [IntKind.wrap, IntKind.bits, IntKind.signed]
  omega
theorem wrap_succ {n : Nat} (h : n ≤ maxN) : IntKind.i64.wrap ((n : Int) + 1) = ((n + 1 : Nat) : Int) := by
  have : n < 9223372036854775807 := Nat.lt_of_le_of_lt h (by simp [maxN])
  simp [IntKind.wrap, IntKind.bits, IntKind.signed]
  omega
end Go.VM
