/- The simulation, the abstract weakest precondition AWp, abstract calls ACall, and the rules of control. -/
import Derived.Test.YtdbeiialamganaaVMCore
set_option linter.unusedVariables false
namespace Go.VM

/-- a program, and what its package-level tables hold -/
structure Env where
  P : Program
  T : Nat → Option (List AVal)

structure St where
  m : List (Nat × List AVal)
  next : Nat

def mget : List (Nat × List AVal) → Nat → Option (List AVal)
  | [], _ => none
  | (j, c) :: m, i => if i = j then some c else mget m i
def mset : List (Nat × List AVal) → Nat → List AVal → List (Nat × List AVal)
  | [], _, _ => []
  | (j, c) :: m, i, x => if i = j then (j, x) :: m else (j, c) :: mset m i x

theorem mget_mem {m : List (Nat × List AVal)} {i : Nat} {c : List AVal} (h : mget m i = some c) : (i, c) ∈ m := by
  induction m with
  | nil => simp [mget] at h
  | cons p m ih =>
    obtain ⟨j, d⟩ := p
    simp only [mget] at h
    split at h
    · rename_i e; simp at h; subst h; subst e; simp
    · exact List.mem_cons_of_mem _ (ih h)
theorem mset_keys (m : List (Nat × List AVal)) (i : Nat) (x : List AVal) : (mset m i x).map (·.1) = m.map (·.1) := by
  induction m with
  | nil => rfl
  | cons p m ih =>
    obtain ⟨j, d⟩ := p
    simp only [mset]
    split <;> simp [ih]

/-- the cells of a block -/
def hcells (w : World) (b : Nat) : List Value :=
  match w.heap[b]? with
  | some (.cells arr _ _) => arr.toList
  | _ => []
def cntB (Γ : Ghost) (w : World) (b : Nat) (p : Nat × List AVal) : Nat :=
  match Γ.bx p.1 with
  | some k => cntL b p.2 (hcells w k)
  | none => 0
def cntM (Γ : Ghost) (w : World) (b : Nat) : List (Nat × List AVal) → Nat
  | [] => 0
  | p :: m => cntB Γ w b p + cntM Γ w b m
structure BoxOK (Γ : Ghost) (w : World) (p : Nat × List AVal) (b : Nat) (arr : Array Value) (e : TypeId) : Prop where
  bx : Γ.bx p.1 = some b
  heap : ∃ lo hi, w.heap[b]? = some (.cells arr e (lo, hi)) ∧ ∀ j, j < arr.size → ¬ (lo ≤ j ∧ j < hi)
  rep : RepL Γ p.2 arr.toList
  own : ownL Γ w p.2 arr.toList
  com : Γ.com b = none
  one : ∀ v, v ∈ arr.toList → v.oneCell' = true

structure Sim (E : Env) (F : Nat → Nat) (Γ : Ghost) (st : St) (w : World) (af : List AVal) (tm : List Value) : Prop where
  com_ok : ∀ b cs, Γ.com b = some cs → ∃ arr e fz, w.heap[b]? = some (.cells arr e fz) ∧ ∃ ds, arr.toList = cs ++ ds
  box_ok : ∀ p, p ∈ st.m → ∃ b arr e, BoxOK Γ w p b arr e
  keys : (st.m.map (·.1)).Nodup
  inj : ∀ i j b, Γ.bx i = some b → Γ.bx j = some b → i = j
  bx_lt : ∀ i b, Γ.bx i = some b → b < w.heap.size
  bx_next : ∀ i b, Γ.bx i = some b → i < st.next
  bx_F : ∀ p b, p ∈ st.m → Γ.bx p.1 = some b → F b = 0
  F_lt : ∀ b, w.heap.size ≤ b → F b = 0
  glob : ∀ g cs, E.T g = some cs → Rep Γ (.cptr cs) (.pointer (some ⟨g, 0, none⟩))
  rep : RepL Γ af tm
  own : ownL Γ w af tm
  tok : ∀ b, F b + cntL b af tm + cntM Γ w b st.m ≤ 1

structure Ext (F : Nat → Nat) (Γ : Ghost) (w : World) (Γ' : Ghost) (w' : World) : Prop where
  le : Γ.le Γ'
  keep : ∀ b, 1 ≤ F b → w'.heap[b]? = w.heap[b]? ∧ Γ'.com b = Γ.com b
  size : w.heap.size ≤ w'.heap.size
  os : w'.os = w.os
  output : w'.output = w.output
  tape : w'.tape = w.tape

theorem Ext.refl (F : Nat → Nat) (Γ : Ghost) (w : World) : Ext F Γ w Γ w := ⟨Γ.le_refl, fun _ _ => ⟨rfl, rfl⟩, Nat.le_refl _, rfl, rfl, rfl⟩
theorem Ext.trans {F : Nat → Nat} {a b c : Ghost} {u v w : World} (h : Ext F a u b v) (k : Ext F b v c w) : Ext F a u c w :=
  ⟨Ghost.le_trans h.le k.le, fun n hn => ⟨(k.keep n hn).1.trans (h.keep n hn).1, (k.keep n hn).2.trans (h.keep n hn).2⟩, Nat.le_trans h.size k.size, k.os.trans h.os, k.output.trans h.output, k.tape.trans h.tape⟩
theorem Ext.less {F G : Nat → Nat} {a b : Ghost} {u v : World} (h : Ext F a u b v) (le : ∀ n, G n ≤ F n) : Ext G a u b v :=
  ⟨h.le, fun n hn => h.keep n (Nat.le_trans hn (le n)), h.size, h.os, h.output, h.tape⟩

abbrev APost := Exit → List AVal → St → Prop

/-- the post of a piece of code, said of the model -/
def lift (E : Env) (F : Nat → Nat) (Γ : Ghost) (w : World) (n : Nat) (Q : APost) : Exit → Act → World → Prop := fun e a' w' =>
  (match e with | .normal | .exit _ | .ret => True | _ => False) ∧ a'.defers = [] ∧
  ∃ Γ' af' st', Ext F Γ w Γ' w' ∧ n ≤ st'.next ∧ Sim E F Γ' st' w' af' a'.tmps.toList ∧ Q e af' st'

structure AWp (E : Env) (c : Code) (Q : APost) (af : List AVal) (st : St) : Prop where
  go : ∀ (F : Nat → Nat) (Γ : Ghost) (w : World) (a : Act), a.defers = [] → Sim E F Γ st w af a.tmps.toList → c.wp E.P (lift E F Γ w st.next Q) a w

structure ACall (E : Env) (f : FuncId) (args : List AVal) (st : St) (Q : AVal → St → Prop) : Prop where
  go : ∀ (F : Nat → Nat) (Γ : Ghost) (w : World) (cargs : Array Value), Sim E F Γ st w args cargs.toList →
    Calls E.P f cargs w fun e w' => ∃ v, e = .returned v ∧ ∃ Γ' r st', Ext F Γ w Γ' w' ∧ st.next ≤ st'.next ∧ Sim E F Γ' st' w' [r] [v] ∧ Q r st'

theorem ACall.mono {E : Env} {f : FuncId} {args : List AVal} {st : St} {Q Q' : AVal → St → Prop} (h : ACall E f args st Q) (hq : ∀ r st', st.next ≤ st'.next → Q r st' → Q' r st') : ACall E f args st Q' :=
  ⟨fun F Γ w cargs hs => (h.go F Γ w cargs hs).mono fun _ _ ⟨v, he, Γ', r, st', h1, h2, h3, h4⟩ => ⟨v, he, Γ', r, st', h1, h2, h3, hq r st' h2 h4⟩⟩

theorem AWp.mono {E : Env} {c : Code} {Q Q' : APost} {af : List AVal} {st : St} (h : AWp E c Q af st) (hq : ∀ e af' st', st.next ≤ st'.next → Q e af' st' → Q' e af' st') : AWp E c Q' af st :=
  ⟨fun F Γ w a hd hs => wp_mono (h.go F Γ w a hd hs) fun _ _ _ ⟨h0, h1, Γ', af', st', h2, h3, h4, h5⟩ => ⟨h0, h1, Γ', af', st', h2, h3, h4, hq _ _ _ h3 h5⟩⟩

/-- what comes later is said from the later world on; here from the first one -/
theorem lift_trans {E : Env} {F : Nat → Nat} {Γ Γ₁ : Ghost} {w w₁ : World} {n n₁ : Nat} {Q : APost} (hx : Ext F Γ w Γ₁ w₁) (hn : n ≤ n₁) {e : Exit} {a' : Act} {w' : World}
    (h : lift E F Γ₁ w₁ n₁ Q e a' w') : lift E F Γ w n Q e a' w' := by
  obtain ⟨h0, h1, Γ', af', st', h2, h3, h4, h5⟩ := h
  exact ⟨h0, h1, Γ', af', st', hx.trans h2, Nat.le_trans hn h3, h4, h5⟩

section rules
variable {E : Env} {Q : APost} {af : List AVal} {st : St}

theorem awp_skip (h : Q .normal af st) : AWp E .skip Q af st :=
  ⟨fun F Γ w a hd hs => wp_skip ⟨trivial, hd, Γ, af, st, Ext.refl _ _ _, Nat.le_refl _, hs, h⟩⟩
theorem awp_ret (h : Q .ret af st) : AWp E .ret Q af st :=
  ⟨fun F Γ w a hd hs => wp_ret ⟨trivial, hd, Γ, af, st, Ext.refl _ _ _, Nat.le_refl _, hs, h⟩⟩
theorem awp_exit {id : Nat} (h : Q (.exit id) af st) : AWp E (.exit id) Q af st :=
  ⟨fun F Γ w a hd hs => wp_exit ⟨trivial, hd, Γ, af, st, Ext.refl _ _ _, Nat.le_refl _, hs, h⟩⟩

/-- the post of the first of two -/
def seqPost (E : Env) (y : Code) (Q : APost) : APost := fun e af st =>
  match e with
  | .normal => AWp E y Q af st
  | e => Q e af st
theorem awp_seq {x y : Code} (h : AWp E x (seqPost E y Q) af st) : AWp E (.seq x y) Q af st := by
  constructor
  intro F Γ w a hd hs
  refine wp_seq (wp_mono (h.go F Γ w a hd hs) ?_)
  intro e a' w' hq
  cases e with
  | normal =>
    obtain ⟨_, h1, Γ', af', st', h2, h3, h4, h5⟩ := hq
    exact wp_mono (h5.go F Γ' w' a' h1 h4) fun _ _ _ q => lift_trans h2 h3 q
  | _ => exact hq

theorem awp_block {id : Nat} {c : Code} (h : AWp E c (fun e af st => match e with | .exit id' => if id' = id then Q .normal af st else Q (.exit id') af st | e => Q e af st) af st) : AWp E (.block id c) Q af st := by
  constructor
  intro F Γ w a hd hs
  refine wp_block (wp_mono (h.go F Γ w a hd hs) ?_)
  intro e a' w' hq
  cases e with
  | exit id' =>
    obtain ⟨_, h1, Γ', af', st', h2, h3, h4, h5⟩ := hq
    simp only [Exit.inBlock]
    simp only at h5
    split
    · rename_i he
      rw [if_pos he] at h5
      exact ⟨trivial, h1, Γ', af', st', h2, h3, h4, h5⟩
    · rename_i he
      rw [if_neg he] at h5
      exact ⟨trivial, h1, Γ', af', st', h2, h3, h4, h5⟩
  | _ => exact hq

/-- the post of a loop's body -/
def loopPost (I : Nat → List AVal → St → Prop) (Q : APost) (n : Nat) : APost := fun e af st =>
  match e with
  | .normal => ∃ n', n' < n ∧ I n' af st
  | e => Q e af st
theorem awp_loop {c : Code} (I : Nat → List AVal → St → Prop) (n₀ : Nat) (h₀ : I n₀ af st) (round : ∀ n af st, I n af st → AWp E c (loopPost I Q n) af st) : AWp E (.loop c) Q af st := by
  constructor
  intro F Γ w a hd hs
  refine wp_loop_ghost (fun n a' w' => a'.defers = [] ∧ ∃ Γ' af' st', Ext F Γ w Γ' w' ∧ st.next ≤ st'.next ∧ Sim E F Γ' st' w' af' a'.tmps.toList ∧ I n af' st') n₀ ⟨hd, Γ, af, st, Ext.refl _ _ _, Nat.le_refl _, hs, h₀⟩ ?_
  intro n a₁ w₁ ⟨hd1, Γ₁, af₁, st₁, h2, h3, h4, h5⟩
  refine wp_mono ((round n af₁ st₁ h5).go F Γ₁ w₁ a₁ hd1 h4) ?_
  intro e a' w' hq
  have hq := lift_trans h2 h3 hq
  cases e with
  | normal =>
    obtain ⟨_, k1, Γ', af', st', k2, k3, k4, n', k5, k6⟩ := hq
    exact ⟨n', k5, k1, Γ', af', st', k2, k3, k4, k6⟩
  | _ => exact hq

end rules
end Go.VM
