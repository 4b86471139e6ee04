/- Frames: reading operands, writing slots, and how the simulation goes with it. -/
import Derived.Test.YtdbeiialamganaaVMWp
import Derived.Laws.Strings
import Derived.Laws.Strings2
import Derived.Laws.StructEq
import Derived.Laws.Slices
import Derived.Laws.Tables
set_option linter.unusedVariables false
namespace Go.VM

/-- cells per element of a slice type -/
def elemW (P : Program) (t : TypeId) : Nat :=
  match P.underlying t with
  | some (.slice e) => ((P.info? e).map (·.size)).getD 0
  | _ => 0

def constA (w : Nat) : Value → AVal
  | .bool b => .bool b
  | .int k n => .int k n
  | .string s => if s.data.toList.length ≤ maxN then .str s.data.toList else .any
  | .pointer none => .nilp
  | .slice none 0 0 => .slice w [] true
  | .nilFunc => .nilFn
  | .nilIface => .nilIface
  | _ => .any

theorem constA_rep (Γ : Ghost) (w : Nat) (v : Value) : Rep Γ (constA w v) v := by
  unfold constA; split <;> (try split) <;> constructor <;> assumption
theorem constA_own (Γ : Ghost) (W : World) (w : Nat) (v : Value) : own Γ W (constA w v) v := by
  unfold constA; split <;> (try split) <;> simp [own, ownTip]
theorem constA_cnt (w : Nat) (v : Value) (b : Nat) : cnt b (constA w v) v = 0 := by
  unfold constA; split <;> (try split) <;> simp [cnt, cntTip]

/-- an operand's abstract value; t: its type (for a nil slice's width) -/
def rd (E : Env) (af : List AVal) (t : TypeId) : Operand → AVal
  | .tmp i => af.getD i .any
  | .const v => constA (elemW E.P t) v
  | .global g => match E.T g with | some cs => .cptr cs | none => .any
  | .func f => .fn (.func f) [] []

def stripAt (af : List AVal) : Operand → List AVal
  | .tmp i => af.set i (af.getD i .any).strip
  | _ => af

theorem RepL.length {Γ : Ghost} {xs : List AVal} {vs : List Value} (h : RepL Γ xs vs) : xs.length = vs.length := by
  induction xs generalizing vs with
  | nil => cases h; rfl
  | cons x xs ih => cases h with | cons h t => simp [ih t]
theorem RepL.get {Γ : Ghost} {xs : List AVal} {vs : List Value} (h : RepL Γ xs vs) (i : Nat) (d : Value) : Rep Γ (xs.getD i .any) (vs.getD i d) := by
  induction xs generalizing vs i with
  | nil => simp; exact .any _
  | cons x xs ih =>
    cases h with
    | cons h t =>
      cases i with
      | zero => simpa using h
      | succ i => simpa using ih t i
theorem RepL.set {Γ : Ghost} {xs : List AVal} {vs : List Value} (h : RepL Γ xs vs) (i : Nat) {x : AVal} {v : Value} (hx : Rep Γ x v) : RepL Γ (xs.set i x) (vs.set i v) := by
  induction xs generalizing vs i with
  | nil => cases h; simpa using RepL.nil
  | cons y xs ih =>
    cases h with
    | cons h t =>
      cases i with
      | zero => simpa using .cons hx t
      | succ i => simpa using .cons h (ih t i)
theorem RepL.setStrip {Γ : Ghost} {xs : List AVal} {vs : List Value} (h : RepL Γ xs vs) (i : Nat) : RepL Γ (xs.set i (xs.getD i .any).strip) vs := by
  induction xs generalizing vs i with
  | nil => cases h; simpa using RepL.nil
  | cons y xs ih =>
    cases h with
    | cons h t =>
      cases i with
      | zero => simpa using .cons h.strip t
      | succ i => simpa using .cons h (ih t i)
theorem ownL.get {Γ : Ghost} {w : World} {xs : List AVal} {vs : List Value} (h : ownL Γ w xs vs) (hl : xs.length = vs.length) (i : Nat) (d : Value) : own Γ w (xs.getD i .any) (vs.getD i d) := by
  induction xs generalizing vs i with
  | nil => simp [own]
  | cons x xs ih =>
    cases vs with
    | nil => simp at hl
    | cons v vs =>
      rw [ownL] at h
      cases i with
      | zero => simpa using h.1
      | succ i => simpa using ih h.2 (by simpa using hl) i
theorem ownL.set {Γ : Ghost} {w : World} {xs : List AVal} {vs : List Value} (h : ownL Γ w xs vs) (i : Nat) {x : AVal} {v : Value} (hx : own Γ w x v) : ownL Γ w (xs.set i x) (vs.set i v) := by
  induction xs generalizing vs i with
  | nil => simp [ownL]
  | cons y xs ih =>
    cases vs with
    | nil => cases i <;> simp [ownL]
    | cons u vs =>
      rw [ownL] at h
      cases i with
      | zero => simp only [List.set_cons_zero, ownL]; exact ⟨hx, h.2⟩
      | succ i => simp only [List.set_cons_succ, ownL]; exact ⟨h.1, ih h.2 i⟩
theorem ownL.setStrip {Γ : Ghost} {w : World} {xs : List AVal} {vs : List Value} (h : ownL Γ w xs vs) (i : Nat) : ownL Γ w (xs.set i (xs.getD i .any).strip) vs := by
  induction xs generalizing vs i with
  | nil => simp [ownL]
  | cons y xs ih =>
    cases vs with
    | nil => cases i <;> simp [ownL]
    | cons u vs =>
      rw [ownL] at h
      cases i with
      | zero => simp only [List.set_cons_zero, ownL]; exact ⟨own_strip _ _ _ _, h.2⟩
      | succ i => simp only [List.set_cons_succ, ownL, List.getD_cons_succ]; exact ⟨h.1, ih h.2 i⟩
theorem cntL_set_le (b : Nat) (xs : List AVal) (vs : List Value) (i : Nat) (x : AVal) (v : Value) : cntL b (xs.set i x) (vs.set i v) ≤ cntL b xs vs + cnt b x v := by
  induction xs generalizing vs i with
  | nil => simp [cntL]
  | cons y xs ih =>
    cases vs with
    | nil => cases i <;> simp [cntL]
    | cons u vs =>
      cases i with
      | zero => simp only [List.set_cons_zero, cntL]; omega
      | succ i => simp only [List.set_cons_succ, cntL]; have := ih vs i; omega
theorem cntL_setStrip (b : Nat) (xs : List AVal) (vs : List Value) (i : Nat) (d : Value) (hl : xs.length = vs.length) : cntL b (xs.set i (xs.getD i .any).strip) vs + cnt b (xs.getD i .any) (vs.getD i d) = cntL b xs vs := by
  induction xs generalizing vs i with
  | nil => simp [cntL, cnt]
  | cons y xs ih =>
    cases vs with
    | nil => simp at hl
    | cons u vs =>
      cases i with
      | zero => simp only [List.set_cons_zero, cntL, List.getD_cons_zero, cnt_strip]; omega
      | succ i => simp only [List.set_cons_succ, cntL, List.getD_cons_succ]; have := ih vs i (by simpa using hl); omega
theorem cnt_get_le (b : Nat) (xs : List AVal) (vs : List Value) (i : Nat) (d : Value) (hl : xs.length = vs.length) : cnt b (xs.getD i .any) (vs.getD i d) ≤ cntL b xs vs := by
  have := cntL_setStrip b xs vs i d hl; omega

/-- a block for which there is a token: committed, or an iterator's -/
def Held (Γ : Ghost) (w : World) (b : Nat) : Prop := (∃ cs, Γ.com b = some cs) ∨ ∃ s p, w.heap[b]? = some (.stringIter s p)
/-- whoever holds a token has his block in the heap -/
theorem ownTip_com {Γ : Ghost} {w : World} {wd : Nat} {v : Value} {b : Nat} (h : ownTip Γ w wd v) (hc : 1 ≤ cntTip b v) : b < w.heap.size ∧ Held Γ w b := by
  unfold cntTip at hc
  split at hc
  · rename_i a len cap
    split at hc
    · rename_i hh
      obtain ⟨hlt, rfl⟩ := hh
      obtain ⟨arr, e, lo, hi, cells, h1, _, _, h2, _⟩ := h hlt
      refine ⟨?_, .inl ⟨cells, h2⟩⟩
      rcases Nat.lt_or_ge a.block w.heap.size with h | h
      · exact h
      · rw [Array.getElem?_eq_none h] at h1; cases h1
    · omega
  · omega
mutual
theorem own_com {Γ : Ghost} {w : World} {b : Nat} : (x : AVal) → (v : Value) → own Γ w x v → 1 ≤ cnt b x v → b < w.heap.size ∧ Held Γ w b
  | .agg cs, v, h, k => by
    cases v <;> simp only [own, cnt] at * <;> try omega
    exact ownL_com cs _ h k
  | .tuple cs, v, h, k => by
    cases v <;> simp only [own, cnt] at * <;> try omega
    exact ownL_com cs _ h k
  | .slice wd xs o, v, h, k => by
    cases o
    · simp [cnt] at k
    · simp only [own, cnt] at *
      exact ownTip_com h k
  | .any, _, _, k => by simp [cnt] at k
  | .bool _, _, _, k => by simp [cnt] at k
  | .int _ _, _, _, k => by simp [cnt] at k
  | .str _, _, _, k => by simp [cnt] at k
  | .ptr _ _, _, _, k => by simp [cnt] at k
  | .nilp, _, _, k => by simp [cnt] at k
  | .cptr _, _, _, k => by simp [cnt] at k
  | .fn _ _ _, _, _, k => by simp [cnt] at k
  | .nilFn, _, _, k => by simp [cnt] at k
  | .iface _ _, _, _, k => by simp [cnt] at k
  | .nilIface, _, _, k => by simp [cnt] at k
  | .iter s p, v, h, k => by
    simp only [own, cnt] at *
    obtain ⟨b', sb, rfl, h1, h2⟩ := h
    have e : b' = b := by
      simp only [cntIt] at k
      split at k
      · assumption
      · omega
    subst e
    exact ⟨(Array.getElem?_eq_some_iff.1 h2).1, .inr ⟨_, _, h2⟩⟩
theorem ownL_com {Γ : Ghost} {w : World} {b : Nat} : (xs : List AVal) → (vs : List Value) → ownL Γ w xs vs → 1 ≤ cntL b xs vs → b < w.heap.size ∧ Held Γ w b
  | [], _, _, k => by simp [cntL] at k
  | x :: xs, [], _, k => by simp [cntL] at k
  | x :: xs, v :: vs, h, k => by
    rw [ownL] at h
    rw [cntL] at k
    rcases Nat.lt_or_ge 0 (cnt b x v) with c | c
    · exact own_com x v h.1 c
    · exact ownL_com xs vs h.2 (by omega)
end

section
variable {E : Env} {F : Nat → Nat} {Γ : Ghost} {st : St} {w : World} {af : List AVal} {a : Act}

theorem Array.getD_toList' (xs : Array Value) (i : Nat) (d : Value) : xs.getD i d = xs.toList.getD i d := by
  simp [Array.getD, List.getD]
  split <;> simp_all

theorem Sim.rd (h : Sim E F Γ st w af a.tmps.toList) (t : TypeId) (x : Operand) : Rep Γ (rd E af t x) (a.eval x) := by
  cases x with
  | tmp i => simp only [VM.rd, Act.eval, Array.getD_toList']; exact h.rep.get i _
  | const v => exact constA_rep _ _ _
  | global g =>
    simp only [VM.rd, Act.eval]
    split
    · rename_i cs e; exact h.glob g cs e
    · exact .any _
  | func f => exact .fn .nil .nil
theorem Sim.rd_own (h : Sim E F Γ st w af a.tmps.toList) (t : TypeId) (x : Operand) : VM.own Γ w (VM.rd E af t x) (a.eval x) := by
  cases x with
  | tmp i => simp only [VM.rd, Act.eval, Array.getD_toList']; exact h.own.get h.rep.length i _
  | const v => exact constA_own _ _ _ _
  | global g => simp only [VM.rd]; split <;> simp [VM.own]
  | func f => simp [VM.rd, VM.own]
/-- moving an operand out of its slot -/
theorem Sim.rd_cnt (h : Sim E F Γ st w af a.tmps.toList) (t : TypeId) (x : Operand) (b : Nat) : cntL b (stripAt af x) a.tmps.toList + cnt b (VM.rd E af t x) (a.eval x) = cntL b af a.tmps.toList := by
  cases x with
  | tmp i => simp only [VM.rd, Act.eval, stripAt, Array.getD_toList']; exact cntL_setStrip b _ _ i _ h.rep.length
  | const v => simp [VM.rd, stripAt, Act.eval, constA_cnt]
  | global g => simp only [VM.rd, stripAt, Nat.add_eq_left]; split <;> simp [cnt]
  | func f => simp [VM.rd, stripAt, cnt]
theorem Sim.stripAt (h : Sim E F Γ st w af a.tmps.toList) (x : Operand) : Sim E F Γ st w (stripAt af x) a.tmps.toList := by
  refine { h with rep := ?_, own := ?_, tok := ?_ }
  · cases x <;> first | exact h.rep | exact h.rep.setStrip _
  · cases x <;> first | exact h.own | exact h.own.setStrip _
  · intro b
    have := h.rd_cnt 0 x b
    have := h.tok b
    omega

/-- a slot written; no token made -/
def putA (af : List AVal) (dst : Option Tmp) (r : AVal) : List AVal :=
  match dst with
  | some d => af.set d r
  | none => af
theorem put_toList (a : Act) (d : Tmp) (v : Value) : (a.put (some d) v).tmps.toList = a.tmps.toList.set d v := by
  simp [Act.put]
theorem Sim.put (h : Sim E F Γ st w af a.tmps.toList) (dst : Option Tmp) {r : AVal} {v : Value} (hr : Rep Γ r v) (ho : VM.own Γ w r v)
    (ht : ∀ b, F b + cntL b af a.tmps.toList + cnt b r v + cntM Γ w b st.m ≤ 1) : Sim E F Γ st w (putA af dst r) (a.put dst v).tmps.toList := by
  cases dst with
  | none => exact h
  | some d =>
    rw [put_toList]
    refine { h with rep := h.rep.set d hr, own := h.own.set d ho, tok := ?_ }
    intro b
    have := cntL_set_le b af a.tmps.toList d r v
    have := ht b
    simp only [putA]
    omega
theorem Sim.putStrip (h : Sim E F Γ st w af a.tmps.toList) (dst : Option Tmp) {r : AVal} {v : Value} (hr : Rep Γ r v) : Sim E F Γ st w (putA af dst r.strip) (a.put dst v).tmps.toList :=
  h.put dst hr.strip (own_strip _ _ _ _) (fun b => by rw [cnt_strip]; exact h.tok b)
end
end Go.VM
