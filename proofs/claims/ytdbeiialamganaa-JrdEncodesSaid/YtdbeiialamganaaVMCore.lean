/- Abstract values, the relation to the model's values, and the abstract weakest precondition. Generic over the program. -/
import Derived.Calls
import Derived.Orders
import Derived.Tactics
import Derived.Deep.LoopGhost
import Derived.RowKit3
set_option linter.unusedVariables false
namespace Go.VM

/-- no text and no slice is longer -/
def maxN : Nat := 4611686018427387904

inductive AVal where
  | any
  | bool (b : Bool)
  | int (k : IntKind) (n : Int)
  | str (s : List UInt8)
  | agg (cs : List AVal)
  | tuple (vs : List AVal)
  | slice (w : Nat) (xs : List AVal) (own : Bool)
  | ptr (i off : Nat)
  | nilp
  | cptr (cs : List AVal)
  | fn (f : Fn) (fst cap : List AVal)
  | nilFn
  | iface (t : TypeId) (v : AVal)
  | nilIface
  | iter (s : List UInt8) (pos : Nat)
  deriving Inhabited

mutual
def AVal.strip : AVal → AVal
  | .agg cs => .agg (stripL cs)
  | .tuple cs => .tuple (stripL cs)
  | .slice w xs _ => .slice w xs false
  | .iter _ _ => .any
  | v => v
def stripL : List AVal → List AVal
  | [] => []
  | x :: xs => x.strip :: stripL xs
end

/-- a slice value with room behind its end names its block -/
def cntTip (b : Nat) : Value → Nat
  | .slice (some a) len cap => if len < cap ∧ a.block = b then 1 else 0
  | _ => 0
def cntIt (b : Nat) : Value → Nat
  | .pointer (some a) => if a.block = b then 1 else 0
  | _ => 0
mutual
def cnt (b : Nat) : AVal → Value → Nat
  | .agg cs, .agg arr => cntL b cs arr.toList
  | .tuple cs, .tuple arr => cntL b cs arr.toList
  | .slice _ _ true, v => cntTip b v
  | .iter _ _, v => cntIt b v
  | _, _ => 0
def cntL (b : Nat) : List AVal → List Value → Nat
  | x :: xs, v :: vs => cnt b x v + cntL b xs vs
  | _, _ => 0
end

structure Ghost where
  com : Nat → Option (List Value)
  bx : Nat → Option Nat

def Ghost.le (Γ Γ' : Ghost) : Prop :=
  (∀ b cs, Γ.com b = some cs → ∃ ds, Γ'.com b = some (cs ++ ds)) ∧ (∀ i b, Γ.bx i = some b → Γ'.bx i = some b)

theorem Ghost.le_refl (Γ : Ghost) : Γ.le Γ := ⟨fun _ cs h => ⟨[], by simpa using h⟩, fun _ _ h => h⟩
theorem Ghost.le_trans {a b c : Ghost} (h : a.le b) (k : b.le c) : a.le c :=
  ⟨fun n cs e => by
    obtain ⟨ds, e⟩ := h.1 n cs e
    obtain ⟨es, e⟩ := k.1 n _ e
    exact ⟨ds ++ es, by simpa using e⟩, fun i n e => k.2 i n (h.2 i n e)⟩

mutual
inductive Rep (Γ : Ghost) : AVal → Value → Prop
  | any (v : Value) : Rep Γ .any v
  | bool (b : Bool) : Rep Γ (.bool b) (.bool b)
  | int (k : IntKind) (n : Int) : Rep Γ (.int k n) (.int k n)
  | str (b : ByteArray) (hn : b.data.toList.length ≤ maxN) : Rep Γ (.str b.data.toList) (.string b)
  | agg {cs : List AVal} {arr : Array Value} (h : RepL Γ cs arr.toList) (one : ∀ v, v ∈ arr.toList → v.oneCell' = true) : Rep Γ (.agg cs) (.agg arr)
  | tuple {cs : List AVal} {arr : Array Value} (h : RepL Γ cs arr.toList) : Rep Γ (.tuple cs) (.tuple arr)
  | snil (w : Nat) (own : Bool) (a : Option Addr) : Rep Γ (.slice w [] own) (.slice a 0 0)
  | slice {w : Nat} {xs : List AVal} (own : Bool) {b off len cap : Nat} {cells : List Value} (hb : Γ.com b = some cells) (hl : xs.length = len) (hc : len ≤ cap ∧ len ≤ maxN)
      (h : RepS Γ w xs (cells.drop off)) : Rep Γ (.slice w xs own) (.slice (some ⟨b, off, none⟩) len cap)
  | ptr {i off b : Nat} (h : Γ.bx i = some b) : Rep Γ (.ptr i off) (.pointer (some ⟨b, off, none⟩))
  | nilp : Rep Γ .nilp (.pointer none)
  | cptr {cs : List AVal} {b off : Nat} {cells vs rest : List Value} (hb : Γ.com b = some cells) (hd : cells.drop off = vs ++ rest) (h : RepL Γ cs vs) (ho : ∀ v, v ∈ vs → v.oneCell' = true) :
      Rep Γ (.cptr cs) (.pointer (some ⟨b, off, none⟩))
  | fn {f : Fn} {x y : List AVal} {p q : Array Value} (hx : RepL Γ x p.toList) (hy : RepL Γ y q.toList) : Rep Γ (.fn f x y) (.func f p q)
  | nilFn : Rep Γ .nilFn .nilFunc
  | iface {t : TypeId} {x : AVal} {v : Value} (h : Rep Γ x v) : Rep Γ (.iface t x) (.iface t v)
  | nilIface : Rep Γ .nilIface .nilIface
  | iter (s : List UInt8) (pos : Nat) (v : Value) : Rep Γ (.iter s pos) v
inductive RepL (Γ : Ghost) : List AVal → List Value → Prop
  | nil : RepL Γ [] []
  | cons {x : AVal} {v : Value} {xs : List AVal} {vs : List Value} (h : Rep Γ x v) (t : RepL Γ xs vs) : RepL Γ (x :: xs) (v :: vs)
/-- the elements of a slice, each of w cells, at the head of a list of cells -/
inductive RepS (Γ : Ghost) : Nat → List AVal → List Value → Prop
  | nil (w : Nat) (cs : List Value) : RepS Γ w [] cs
  | cons {w : Nat} {x : AVal} {v : Value} {xs : List AVal} {cs : List Value} (h : Rep Γ x v) (hw : v.cells.size = w ∧ ∀ c, c ∈ v.cells.toList → c.oneCell' = true) (t : RepS Γ w xs cs) : RepS Γ w (x :: xs) (v.cells.toList ++ cs)
end

theorem RepS.more {Γ : Ghost} {w : Nat} {xs : List AVal} {cs : List Value} (h : RepS Γ w xs cs) (ds : List Value) : RepS Γ w xs (cs ++ ds) := by
  induction xs generalizing cs with
  | nil => exact .nil _ _
  | cons x xs ih =>
    cases h with
    | cons h hw t => rw [List.append_assoc]; exact .cons h hw (ih t)

mutual
theorem Rep.mono {Γ Γ' : Ghost} (le : Γ.le Γ') : {x : AVal} → {v : Value} → Rep Γ x v → Rep Γ' x v
  | _, _, .any v => .any v
  | _, _, .bool b => .bool b
  | _, _, .int k n => .int k n
  | _, _, .str b h => .str b h
  | _, _, .agg h o => .agg (RepL.mono le h) o
  | _, _, .tuple h => .tuple (RepL.mono le h)
  | _, _, .snil w o a => .snil w o a
  | _, _, .slice o hb hl hc h => by
    obtain ⟨ds, hb'⟩ := le.1 _ _ hb
    refine .slice o hb' hl hc ?_
    rw [List.drop_append]
    exact (RepS.mono le h).more _
  | _, _, .ptr h => .ptr (le.2 _ _ h)
  | _, _, .nilp => .nilp
  | _, _, .cptr (cells := cells) (off := off) (rest := rest) hb hd h ho => by
    obtain ⟨ds, hb'⟩ := le.1 _ _ hb
    exact .cptr (rest := rest ++ ds.drop (off - cells.length)) hb' (by rw [List.drop_append, hd]; simp) (RepL.mono le h) ho
  | _, _, .fn h k => .fn (RepL.mono le h) (RepL.mono le k)
  | _, _, .nilFn => .nilFn
  | _, _, .iface h => .iface (Rep.mono le h)
  | _, _, .nilIface => .nilIface
  | _, _, .iter s p v => .iter s p v
theorem RepL.mono {Γ Γ' : Ghost} (le : Γ.le Γ') : {xs : List AVal} → {vs : List Value} → RepL Γ xs vs → RepL Γ' xs vs
  | _, _, .nil => .nil
  | _, _, .cons h t => .cons (Rep.mono le h) (RepL.mono le t)
theorem RepS.mono {Γ Γ' : Ghost} (le : Γ.le Γ') : {w : Nat} → {xs : List AVal} → {cs : List Value} → RepS Γ w xs cs → RepS Γ' w xs cs
  | _, _, _, .nil w cs => .nil w cs
  | _, _, _, .cons h hw t => .cons (Rep.mono le h) hw (RepS.mono le t)
end

mutual
theorem Rep.strip {Γ : Ghost} : {x : AVal} → {v : Value} → Rep Γ x v → Rep Γ x.strip v
  | _, _, .any v => .any v
  | _, _, .bool b => .bool b
  | _, _, .int k n => .int k n
  | _, _, .str b h => .str b h
  | _, _, .agg h o => by rw [AVal.strip]; exact .agg (RepL.strip h) o
  | _, _, .tuple h => by rw [AVal.strip]; exact .tuple (RepL.strip h)
  | _, _, .snil w o a => .snil w _ a
  | _, _, .slice o hb hl hc h => .slice _ hb hl hc h
  | _, _, .ptr h => .ptr h
  | _, _, .nilp => .nilp
  | _, _, .cptr hb hd h ho => .cptr hb hd h ho
  | _, _, .fn h k => .fn h k
  | _, _, .nilFn => .nilFn
  | _, _, .iface h => .iface h
  | _, _, .nilIface => .nilIface
  | _, _, .iter s p v => by rw [AVal.strip]; exact .any _
theorem RepL.strip {Γ : Ghost} : {xs : List AVal} → {vs : List Value} → RepL Γ xs vs → RepL Γ (stripL xs) vs
  | _, _, .nil => by rw [stripL]; exact .nil
  | _, _, .cons h t => by rw [stripL]; exact .cons (Rep.strip h) (RepL.strip t)
end

mutual
theorem cnt_strip (b : Nat) : (x : AVal) → (v : Value) → cnt b x.strip v = 0
  | .agg cs, v => by
    rw [AVal.strip]; cases v <;> simp [cnt]
    exact cntL_strip b cs _
  | .tuple cs, v => by
    rw [AVal.strip]; cases v <;> simp [cnt]
    exact cntL_strip b cs _
  | .slice w xs o, v => by rw [AVal.strip]; simp [cnt]
  | .any, _ => by simp [AVal.strip, cnt]
  | .bool _, _ => by simp [AVal.strip, cnt]
  | .int _ _, _ => by simp [AVal.strip, cnt]
  | .str _, _ => by simp [AVal.strip, cnt]
  | .ptr _ _, _ => by simp [AVal.strip, cnt]
  | .nilp, _ => by simp [AVal.strip, cnt]
  | .cptr _, _ => by simp [AVal.strip, cnt]
  | .fn _ _ _, _ => by simp [AVal.strip, cnt]
  | .nilFn, _ => by simp [AVal.strip, cnt]
  | .iface _ _, _ => by simp [AVal.strip, cnt]
  | .nilIface, _ => by simp [AVal.strip, cnt]
  | .iter _ _, _ => by simp [AVal.strip, cnt]
theorem cntL_strip (b : Nat) : (xs : List AVal) → (vs : List Value) → cntL b (stripL xs) vs = 0
  | [], _ => by simp [stripL, cntL]
  | x :: xs, [] => by simp [stripL, cntL]
  | x :: xs, v :: vs => by rw [stripL, cntL, cnt_strip b x v, cntL_strip b xs vs]
end

/-- what a slice that may be appended to in place needs of its block -/
def ownTip (Γ : Ghost) (w : World) (wd : Nat) : Value → Prop
  | .slice (some a) len cap => len < cap → ∃ arr e lo hi cells, w.heap[a.block]? = some (.cells arr e (lo, hi)) ∧ (∀ j, j < arr.size → ¬ (lo ≤ j ∧ j < hi)) ∧ a.spot = none ∧ Γ.com a.block = some cells ∧ cells.length = a.off + len * wd ∧ a.off + cap * wd ≤ arr.size
  | _ => True
theorem ownTip_keep {Γ Γ' : Ghost} {w w' : World} {wd : Nat} {v : Value} (h : ownTip Γ w wd v) (k : ∀ b, 1 ≤ cntTip b v → w'.heap[b]? = w.heap[b]? ∧ Γ'.com b = Γ.com b) : ownTip Γ' w' wd v := by
  unfold ownTip at *
  split
  · rename_i a len cap
    simp only [cntTip] at h k
    intro hlt
    obtain ⟨h1, h2⟩ := k a.block (by simp [hlt])
    rw [h1, h2]
    exact h hlt
  · trivial
/-- an iterator over a text belongs to whoever holds it -/
def ownIt (w : World) (s : List UInt8) (pos : Nat) (v : Value) : Prop := ∃ b sb, v = .pointer (some ⟨b, 0, none⟩) ∧ sb.data.toList = s ∧ w.heap[b]? = some (.stringIter sb pos)
theorem ownIt_keep {w w' : World} {s : List UInt8} {pos : Nat} {v : Value} (h : ownIt w s pos v) (k : ∀ b, 1 ≤ cntIt b v → w'.heap[b]? = w.heap[b]?) : ownIt w' s pos v := by
  obtain ⟨b, sb, rfl, h1, h2⟩ := h
  exact ⟨b, sb, rfl, h1, by rw [k b (by simp [cntIt])]; exact h2⟩
mutual
def own (Γ : Ghost) (w : World) : AVal → Value → Prop
  | .agg cs, .agg arr => ownL Γ w cs arr.toList
  | .tuple cs, .tuple arr => ownL Γ w cs arr.toList
  | .slice wd _ true, v => ownTip Γ w wd v
  | .iter s pos, v => ownIt w s pos v
  | _, _ => True
def ownL (Γ : Ghost) (w : World) : List AVal → List Value → Prop
  | x :: xs, v :: vs => own Γ w x v ∧ ownL Γ w xs vs
  | _, _ => True
end

mutual
theorem own_strip (Γ : Ghost) (w : World) : (x : AVal) → (v : Value) → own Γ w x.strip v
  | .agg cs, v => by
    rw [AVal.strip]; cases v <;> simp only [own]
    exact ownL_strip Γ w cs _
  | .tuple cs, v => by
    rw [AVal.strip]; cases v <;> simp only [own]
    exact ownL_strip Γ w cs _
  | .slice _ _ o, v => by rw [AVal.strip]; simp [own]
  | .any, _ => by simp [AVal.strip, own]
  | .bool _, _ => by simp [AVal.strip, own]
  | .int _ _, _ => by simp [AVal.strip, own]
  | .str _, _ => by simp [AVal.strip, own]
  | .ptr _ _, _ => by simp [AVal.strip, own]
  | .nilp, _ => by simp [AVal.strip, own]
  | .cptr _, _ => by simp [AVal.strip, own]
  | .fn _ _ _, _ => by simp [AVal.strip, own]
  | .nilFn, _ => by simp [AVal.strip, own]
  | .iface _ _, _ => by simp [AVal.strip, own]
  | .nilIface, _ => by simp [AVal.strip, own]
  | .iter _ _, _ => by simp [AVal.strip, own]
theorem ownL_strip (Γ : Ghost) (w : World) : (xs : List AVal) → (vs : List Value) → ownL Γ w (stripL xs) vs
  | [], _ => by simp [stripL, ownL]
  | x :: xs, [] => by simp [stripL, ownL]
  | x :: xs, v :: vs => by rw [stripL, ownL]; exact ⟨own_strip Γ w x v, ownL_strip Γ w xs vs⟩
end

mutual
theorem own_keep {Γ Γ' : Ghost} {w w' : World} : (x : AVal) → (v : Value) → own Γ w x v → (∀ b, 1 ≤ cnt b x v → w'.heap[b]? = w.heap[b]? ∧ Γ'.com b = Γ.com b) → own Γ' w' x v
  | .agg cs, v, h, k => by
    cases v <;> simp only [own, cnt] at *
    exact ownL_keep cs _ h k
  | .tuple cs, v, h, k => by
    cases v <;> simp only [own, cnt] at *
    exact ownL_keep cs _ h k
  | .slice wd xs o, v, h, k => by
    cases o
    · simp [own]
    · simp only [own, cnt] at *
      exact ownTip_keep h k
  | .any, _, _, _ => by simp [own]
  | .bool _, _, _, _ => by simp [own]
  | .int _ _, _, _, _ => by simp [own]
  | .str _, _, _, _ => by simp [own]
  | .ptr _ _, _, _, _ => by simp [own]
  | .nilp, _, _, _ => by simp [own]
  | .cptr _, _, _, _ => by simp [own]
  | .fn _ _ _, _, _, _ => by simp [own]
  | .nilFn, _, _, _ => by simp [own]
  | .iface _ _, _, _, _ => by simp [own]
  | .nilIface, _, _, _ => by simp [own]
  | .iter s p, v, h, k => by
    simp only [own, cnt] at *
    exact ownIt_keep h fun b hb => (k b hb).1
theorem ownL_keep {Γ Γ' : Ghost} {w w' : World} : (xs : List AVal) → (vs : List Value) → ownL Γ w xs vs → (∀ b, 1 ≤ cntL b xs vs → w'.heap[b]? = w.heap[b]? ∧ Γ'.com b = Γ.com b) → ownL Γ' w' xs vs
  | [], _, _, _ => by simp [ownL]
  | x :: xs, [], _, _ => by simp [ownL]
  | x :: xs, v :: vs, h, k => by
    rw [ownL] at *
    exact ⟨own_keep x v h.1 (fun b hb => k b (by rw [cntL]; omega)), ownL_keep xs vs h.2 (fun b hb => k b (by rw [cntL]; omega))⟩
end

end Go.VM
