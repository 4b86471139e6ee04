/- The rules as the walks use them: what comes later stands behind a variable. -/
import Derived.Test.YtdbeiialamganaaVMFunc
set_option linter.unusedVariables false
namespace Go.VM
section
variable {E : Env} {st : St} {af : List AVal} {Q : APost}

inductive kPost (K : List AVal → St → Prop) (Q : APost) : APost
  | nrm {af : List AVal} {st : St} (h : K af st) : kPost K Q .normal af st
  | oth {e : Exit} {af : List AVal} {st : St} (hne : e ≠ .normal) (h : Q e af st) : kPost K Q e af st
theorem kPost.get {K : List AVal → St → Prop} (h : kPost K Q .normal af st) : K af st := by
  cases h with
  | nrm h => exact h
  | oth hne h => exact absurd rfl hne
theorem kPost.out {K : List AVal → St → Prop} {e : Exit} (h : kPost K Q e af st) (hne : e ≠ .normal) : Q e af st := by
  cases h with
  | nrm h => exact absurd rfl hne
  | oth hne h => exact h
theorem kPost_normal {K : List AVal → St → Prop} (h : K af st) : kPost K Q .normal af st := .nrm h
theorem kPost_ret {K : List AVal → St → Prop} (h : Q .ret af st) : kPost K Q .ret af st := .oth (by simp) h
theorem kPost_exit {K : List AVal → St → Prop} {id : Nat} (h : Q (.exit id) af st) : kPost K Q (.exit id) af st := .oth (by simp) h

theorem awp_seq_k {x y : Code} (h : ∀ K : List AVal → St → Prop, (∀ af st, AWp E y Q af st → K af st) → AWp E x (kPost K Q) af st) : AWp E (.seq x y) Q af st :=
  awp_seq ((h _ fun _ _ h => h).mono fun e af' st' _ q => by
    cases e with
    | normal => exact q.get
    | _ => exact q.out (by simp))

/-- the post of a block's body -/
inductive bPost (id : Nat) (K : List AVal → St → Prop) (Q : APost) : APost
  | nrm {af : List AVal} {st : St} (h : K af st) : bPost id K Q .normal af st
  | here {af : List AVal} {st : St} (h : K af st) : bPost id K Q (.exit id) af st
  | oth {e : Exit} {af : List AVal} {st : St} (hne : e ≠ .normal) (hne' : e ≠ .exit id) (h : Q e af st) : bPost id K Q e af st
theorem bPost_normal {id : Nat} {K : List AVal → St → Prop} (h : K af st) : bPost id K Q .normal af st := .nrm h
theorem bPost_ret {id : Nat} {K : List AVal → St → Prop} (h : Q .ret af st) : bPost id K Q .ret af st := .oth (by simp) (by simp) h
theorem bPost_here {id : Nat} {K : List AVal → St → Prop} (h : K af st) : bPost id K Q (.exit id) af st := .here h
theorem bPost_there {id id' : Nat} {K : List AVal → St → Prop} (hne : (id' == id) = false) (h : Q (.exit id') af st) : bPost id K Q (.exit id') af st := by
  have : ¬ id' = id := by simpa using hne
  exact .oth (by simp) (by simpa using this) h
theorem awp_block_k {id : Nat} {c : Code} (h : ∀ K : List AVal → St → Prop, (∀ af st, Q .normal af st → K af st) → AWp E c (bPost id K Q) af st) : AWp E (.block id c) Q af st :=
  awp_block ((h (fun af st => Q .normal af st) fun _ _ h => h).mono fun e af' st' _ q => by
    cases q with
    | nrm h => exact h
    | here h => simp only [if_true]; exact h
    | oth hne hne' h =>
      cases e with
      | exit id' =>
        have : ¬ id' = id := fun e => hne' (by rw [e])
        simp only [if_neg this]; exact h
      | _ => exact h)

theorem awp_loop_k {c : Code} (I : Nat → List AVal → St → Prop) (n₀ : Nat) (h₀ : I n₀ af st)
    (round : ∀ n af st, I n af st → ∀ J : List AVal → St → Prop, (∀ n' af st, n' < n → I n' af st → J af st) → AWp E c (kPost J Q) af st) : AWp E (.loop c) Q af st :=
  awp_loop I n₀ h₀ fun n af st hI => (round n af st hI (fun af st => ∃ n', n' < n ∧ I n' af st) fun n' _ _ h1 h2 => ⟨n', h1, h2⟩).mono fun e af' st' _ q => by
    cases e with
    | normal => exact q.get
    | _ => exact q.out (by simp)

theorem acall_k {f : FuncId} {fn : Func} {c : Code} {args : List AVal} {Q : AVal → St → Prop} (hf : E.P.funcs[f]? = some fn) (hb : fn.body = some c)
    (h : ∀ R : APost, (∀ e af st, retPost E fn Q e af st → R e af st) → AWp E c R (args ++ List.replicate (fn.ntmps - args.length) .any) st) : ACall E f args st Q :=
  acall_of hf hb (h _ fun _ _ _ h => h)

theorem opWp_call {mv : List Tmp} {o : Oper} {K : List AVal → St → Prop} {f : Operand} {args : Array Operand} {ts : Array TypeId} {g : FuncId} {p q : List AVal} (ho : o.op = .call { callee := .value f, args, argTypes := ts })
    (hf : rd E af 0 f = .fn (.func g) p q) (hc : callable E.P g = true) (h : ACall E g (stripL (p ++ rdL E af args.toList ts.toList ++ q)) st fun r st' => K (putA af o.dst r) st') : opWp E mv o af st K := by
  unfold opWp
  rw [ho]
  simp only [hf]
  exact ⟨hc, h⟩
end
end Go.VM
