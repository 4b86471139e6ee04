/- Operations that compute a value and leave the memory alone. -/
import Derived.Test.YtdbeiialamganaaVMFrame
import Derived.Laws.Panics
set_option linter.unusedVariables false
namespace Go.VM

def cellsA : AVal → List AVal
  | .agg cs => cs
  | x => [x]

theorem Rep.cells {Γ : Ghost} {x : AVal} {v : Value} (h : Rep Γ x v) (hw : (cellsA x).length = v.cells.size) : RepL Γ (cellsA x) v.cells.toList := by
  cases h with
  | any v =>
    simp only [cellsA, List.length_cons, List.length_nil, Nat.zero_add] at hw
    obtain ⟨⟨l⟩⟩ : ∃ a : Array Value, a = v.cells := ⟨_, rfl⟩
    generalize hc : v.cells = c at *
    obtain ⟨l⟩ := c
    match l, hw with
    | [c], _ => exact .cons (.any _) .nil
  | agg h _ => exact h
  | iter s pos v =>
    simp only [cellsA, List.length_cons, List.length_nil, Nat.zero_add] at hw
    generalize v.cells = c at *
    obtain ⟨l⟩ := c
    match l, hw with
    | [c], _ => exact .cons (.iter _ _ _) .nil
  | _ => exact .cons (by constructor <;> assumption) .nil

/-- an integer that an operand holds -/
def AVal.asInt : AVal → Option Int
  | .int _ n => some n
  | _ => none

def intBin (op : BinOp) (k : IntKind) (a b : Int) : Option AVal :=
  match op with
  | .add => some (.int k (k.wrap (a + b)))
  | .sub => some (.int k (k.wrap (a - b)))
  | .mul => some (.int k (k.wrap (a * b)))
  | .quo => if b = 0 then none else some (.int k (k.wrap (a.tdiv b)))
  | .rem => if b = 0 then none else some (.int k (a.tmod b))
  | .and => some (.int k (k.wrap (BitVec.ofInt k.bits a &&& BitVec.ofInt k.bits b).toNat))
  | .or => some (.int k (k.wrap (BitVec.ofInt k.bits a ||| BitVec.ofInt k.bits b).toNat))
  | .xor => some (.int k (k.wrap (BitVec.ofInt k.bits a ^^^ BitVec.ofInt k.bits b).toNat))
  | .andNot => some (.int k (k.wrap (BitVec.ofInt k.bits a &&& ~~~ BitVec.ofInt k.bits b).toNat))
  | .eql => some (.bool (a == b))
  | .neq => some (.bool (a != b))
  | .lss => some (.bool (decide (a < b)))
  | .leq => some (.bool (decide (a ≤ b)))
  | .gtr => some (.bool (decide (a > b)))
  | .geq => some (.bool (decide (a ≥ b)))
  | _ => none
def shiftA (op : BinOp) (k : IntKind) (x y : Int) : Option AVal :=
  if y < 0 then none else
  match op with
  | .shl => some (.int k (k.wrap (x * 2 ^ min y.toNat k.bits)))
  | .shr => some (.int k (x.fdiv (2 ^ min y.toNat k.bits)))
  | _ => none
def strBin (op : BinOp) (a b : List UInt8) : Option AVal :=
  match op with
  | .add => if a.length + b.length ≤ maxN then some (.str (a ++ b)) else none
  | .eql => some (.bool (a == b))
  | .neq => some (.bool (!(a == b)))
  | .lss => some (.bool (Op.bytesLess a b))
  | .leq => some (.bool (Op.bytesLess a b || a == b))
  | .gtr => some (.bool (!(Op.bytesLess a b || a == b)))
  | .geq => some (.bool (!(Op.bytesLess a b)))
  | _ => none
def boolBin (op : BinOp) (a b : Bool) : Option AVal :=
  match op with
  | .eql => some (.bool (a == b))
  | .neq => some (.bool (!(a == b)))
  | _ => none

def isBoolT (P : Program) (t : TypeId) : Bool := match P.underlying t with | some .bool => true | _ => false

/-- equality, by the type -/
def eqA (P : Program) : Nat → TypeId → AVal → AVal → Option Bool
  | 0, _, _, _ => none
  | d + 1, t, x, y =>
    match P.underlying t, x, y with
    | some .bool, .bool a, .bool b => some (a == b)
    | some (.int _), .int k a, .int k' b => if k = k' then some (a == b) else none
    | some .string, .str a, .str b => some (a == b)
    | some (.struct fs), .agg xs, .agg ys =>
      if P.stoodInHeld t then none else
      fs.toList.foldr (fun f acc =>
        if f.name ≠ "_" then
          match P.underlying f.type with
          | some (.struct _) | some (.array _ _) => none
          | _ =>
            match xs[f.offset]?, ys[f.offset]? with
            | some x, some y =>
              match eqA P d f.type x y, acc with
              | some a, some b => some (a && b)
              | _, _ => none
            | _, _ => none
        else acc) (some true)
    | _, _, _ => none

def binA (E : Env) (op : BinOp) (t : TypeId) (x y : AVal) : Option AVal :=
  match x, y with
  | .int k a, .int k' b =>
    match op with
    | .shl | .shr => shiftA op k a b
    | _ => if k = k' then intBin op k a b else none
  | .str a, .str b => strBin op a b
  | .bool a, .bool b => if isBoolT E.P t then boolBin op a b else none
  | .agg xs, .agg ys =>
    if E.P.eqGuardType E.P.depth t then none else
    match op, eqA E.P 10000 t (.agg xs) (.agg ys) with
    | .eql, some b => some (.bool b)
    | .neq, some b => some (.bool (!b))
    | _, _ => none
  | _, _ => none

section
variable {E : Env} {Γ : Ghost} {w : World}


theorem intBin_sound {t : TypeId} {op : BinOp} {k : IntKind} {a b : Int} {r : AVal} (h1 : op ≠ .shl) (h2 : op ≠ .shr) (h : intBin op k a b = some r) : ∃ v, (binOp op t (.int k a) (.int k b)).run E.P w = .ok v w ∧ Rep Γ r v := by
  cases op <;> simp only [intBin, reduceCtorEq] at h h1 h2 <;> first
    | (exact absurd rfl h1)
    | (exact absurd rfl h2)
    | (simp only [Option.some.injEq] at h; subst h; exact ⟨_, by simp only [binOp, ne_eq, not_true_eq_false, if_false, Op.intArith, Op.intBits, Op.intCmp]; exact Sem.run_pure .., by constructor⟩)
    | (split at h
       · cases h
       · rename_i hb
         simp only [Option.some.injEq] at h; subst h; exact ⟨_, by simp only [binOp, ne_eq, not_true_eq_false, if_false, Op.intDiv, hb]; exact Sem.run_pure .., by constructor⟩)

theorem shift_sound {t : TypeId} {op : BinOp} {k k' : IntKind} {a b : Int} {r : AVal} (h0 : op = .shl ∨ op = .shr) (h : shiftA op k a b = some r) : ∃ v, (binOp op t (.int k a) (.int k' b)).run E.P w = .ok v w ∧ Rep Γ r v := by
  unfold shiftA at h
  split at h
  · cases h
  · rename_i hb
    rcases h0 with rfl | rfl <;> (simp only [Option.some.injEq] at h; subst h; exact ⟨_, by simp only [binOp, Op.shift, hb, if_false]; exact Sem.run_pure .., by constructor⟩)

theorem strBin_sound {t : TypeId} {op : BinOp} {a b : ByteArray} {r : AVal} (h : strBin op a.data.toList b.data.toList = some r) : ∃ v, (binOp op t (.string a) (.string b)).run E.P w = .ok v w ∧ Rep Γ r v := by
  cases op <;> simp only [strBin, reduceCtorEq] at h
  case add =>
    split at h
    · rename_i hb
      simp only [Option.some.injEq] at h; subst h
      have hl : ¬ ((a.size + b.size : Nat) : Int) > IntKind.i64.max := by
        have e1 : a.size = a.data.toList.length := by rw [Array.length_toList]; rfl
        have e2 : b.size = b.data.toList.length := by rw [Array.length_toList]; rfl
        have e3 : IntKind.i64.max = 9223372036854775807 := by decide
        rw [e1, e2, e3]; unfold maxN at hb; omega
      refine ⟨.string (a ++ b), by simp only [binOp, Op.stringOp, hl, if_false]; exact Sem.run_pure .., ?_⟩
      have e : a.data.toList ++ b.data.toList = (a ++ b).data.toList := by simp
      rw [e]; exact .str _ (by rw [← e, List.length_append]; exact hb)
    · cases h
  all_goals (simp only [Option.some.injEq] at h; subst h; exact ⟨_, by simp only [binOp, Op.stringOp, ByteArray.toList_eq]; exact Sem.run_pure .., by constructor⟩)

theorem boolBin_sound {t : TypeId} {op : BinOp} {a b : Bool} {r : AVal} (ht : isBoolT E.P t = true) (h : boolBin op a b = some r) : ∃ v, (binOp op t (.bool a) (.bool b)).run E.P w = .ok v w ∧ Rep Γ r v := by
  have hu : E.P.underlying t = some .bool := by unfold isBoolT at ht; split at ht <;> simp_all
  cases op <;> simp only [boolBin, reduceCtorEq, Option.some.injEq] at h <;> subst h
  · exact ⟨_, run_eql_bool w t a b hu, .bool _⟩
  · exact ⟨_, run_neq_bool w t a b hu, .bool _⟩

/-- one field, not a struct -/
theorem eqA_scalar {d : Nat} {t : TypeId} {x y : AVal} {vx vy : Value} {b : Bool} (hs : ∀ fs, E.P.underlying t ≠ some (.struct fs)) (hx : Rep Γ x vx) (hy : Rep Γ y vy) (h : eqA E.P d t x y = some b) : (Op.equalIn d t vx vy).run E.P w = .ok b w := by
  cases d with
  | zero => simp [eqA] at h
  | succ d =>
    unfold eqA at h
    split at h
    · rename_i a b hu
      cases hx; cases hy; simp only [Option.some.injEq] at h; subst h
      exact run_equalIn_bool' w d t _ _ hu
    · rename_i k a k' b hu
      cases hx; cases hy
      split at h
      · rename_i e; subst e; simp only [Option.some.injEq] at h; subst h
        exact run_equalIn_int w d t _ _ _ _ hu
      · cases h
    · rename_i hu
      cases hx; cases hy; simp only [Option.some.injEq] at h; subst h
      rw [run_equalIn_string w d t _ _ hu, ByteArray.toList_eq, ByteArray.toList_eq]
    · rename_i fs _ _ hu; exact absurd hu (hs fs)
    · cases h

theorem RepL.get? {Γ : Ghost} {xs : List AVal} {vs : List Value} (h : RepL Γ xs vs) {i : Nat} {x : AVal} (hx : xs[i]? = some x) : ∃ v, vs[i]? = some v ∧ Rep Γ x v := by
  induction xs generalizing vs i with
  | nil => simp at hx
  | cons y xs ih =>
    cases h with
    | cons h t =>
      cases i with
      | zero => simp at hx; subst hx; exact ⟨_, rfl, h⟩
      | succ i => simpa using ih t (by simpa using hx)

theorem run_part_cell {t : TypeId} {cs : Array Value} {off : Nat} {v : Value} (hs : ∀ fs, E.P.underlying t ≠ some (.struct fs)) (ha : ∀ n e, E.P.underlying t ≠ some (.array n e)) (hu : E.P.underlying t ≠ none) (hv : cs[off]? = some v) : (part t cs off).run E.P w = .ok v w := by
  cases hd : E.P.underlying t with
  | none => exact absurd hd hu
  | some d =>
    have : (isAgg t).run E.P w = .ok false w := by
      cases d <;> first | exact absurd hd (hs _) | exact absurd hd (ha _ _) | simp [isAgg, run_underlying hd]
    simp [part, this, hv]

theorem eqFields_sound {d : Nat} {xs ys : List AVal} {ax ay : Array Value} (hx : RepL Γ xs ax.toList) (hy : RepL Γ ys ay.toList) (fs : List Field) {b : Bool}
    (h : fs.foldr (fun f acc =>
        if f.name ≠ "_" then
          match E.P.underlying f.type with
          | some (.struct _) | some (.array _ _) => none
          | _ =>
            match xs[f.offset]?, ys[f.offset]? with
            | some x, some y =>
              match eqA E.P d f.type x y, acc with
              | some a, some b => some (a && b)
              | _, _ => none
            | _, _ => none
        else acc) (some true) = some b) : (Op.eqFields d ax ay fs).run E.P w = .ok b w := by
  induction fs generalizing b with
  | nil => simp at h; subst h; simp [Op.eqFields]
  | cons f fs ih =>
    rw [List.foldr_cons] at h
    generalize hacc : List.foldr _ _ fs = acc at h
    rw [Op.eqFields]
    split at h
    · rename_i hn
      rw [if_pos hn]
      split at h
      · cases h
      · cases h
      · rename_i h1 h2
        split at h
        · rename_i x y ex ey
          split at h
          · rename_i a b' ea
            simp only [Option.some.injEq] at h; subst h
            obtain ⟨vx, e1, r1⟩ := hx.get? ex
            obtain ⟨vy, e2, r2⟩ := hy.get? ey
            have hu : E.P.underlying f.type ≠ none := by
              intro hu
              cases d with
              | zero => simp [eqA] at ea
              | succ d => simp [eqA, hu] at ea
            have p1 := run_part_cell (E := E) (w := w) (fun fs e => h1 fs e) (fun n e' e => h2 n e' e) hu (by simpa using e1)
            have p2 := run_part_cell (E := E) (w := w) (fun fs e => h1 fs e) (fun n e' e => h2 n e' e) hu (by simpa using e2)
            have p3 := eqA_scalar (w := w) (fun fs e => h1 fs e) r1 r2 ea
            have p4 := ih hacc
            simp only [Sem.run_bind, p1, p2, p3, Result.andThen_ok]
            cases a
            · simp
            · simpa using p4
          · cases h
        · cases h
    · rename_i hn
      rw [if_neg hn]
      subst hacc
      exact ih h

theorem eqA_sound {d : Nat} {t : TypeId} {xs ys : List AVal} {ax ay : Array Value} {b : Bool} (hx : RepL Γ xs ax.toList) (hy : RepL Γ ys ay.toList) (h : eqA E.P d t (.agg xs) (.agg ys) = some b) : (Op.equalIn d t (.agg ax) (.agg ay)).run E.P w = .ok b w := by
  cases d with
  | zero => simp [eqA] at h
  | succ d =>
    unfold eqA at h
    split at h <;> try (rename_i e1 e2; cases e1; done)
    · rename_i fs xs' ys' hu e1 e2
      cases e1; cases e2
      split at h
      · cases h
      · rename_i hp
        have hf : E.P.fieldsOf t = fs := by simp [Program.fieldsOf, hu]
        rw [run_equalIn_struct w d t ax ay (by rw [hf]; exact hu) (by simpa using hp), hf]
        exact eqFields_sound hx hy _ h
    · cases h

theorem binA_sound {op : BinOp} {t : TypeId} {ox oy : Operand} {x y r : AVal} {vx vy : Value} (hx : Rep Γ x vx) (hy : Rep Γ y vy) (h : binA E op t x y = some r) :
    ∃ v, (do eqGuard op t ox oy vx vy; binOp op t vx vy : Sem Value).run E.P w = .ok v w ∧ Rep Γ r v := by
  unfold binA at h
  split at h
  · rename_i k a k' b
    cases hx; cases hy
    have hg : (eqGuard op t ox oy (.int k a) (.int k' b)).run E.P w = .ok () w := by cases op <;> simp [eqGuard]
    simp only [Sem.run_bind, hg, Result.andThen_ok]
    split at h
    · exact shift_sound (.inl rfl) h
    · exact shift_sound (.inr rfl) h
    · rename_i h1 h2
      split at h
      · rename_i e; subst e; exact intBin_sound h1 h2 h
      · cases h
  · rename_i a b
    cases hx; cases hy
    rename_i a _ b _
    have hg : (eqGuard op t ox oy (.string a) (.string b)).run E.P w = .ok () w := by cases op <;> simp [eqGuard]
    simp only [Sem.run_bind, hg, Result.andThen_ok]
    exact strBin_sound h
  · rename_i a b
    cases hx; cases hy
    have hg : (eqGuard op t ox oy (.bool a) (.bool b)).run E.P w = .ok () w := by cases op <;> simp [eqGuard]
    simp only [Sem.run_bind, hg, Result.andThen_ok]
    split at h
    · rename_i ht; exact boolBin_sound ht h
    · cases h
  · rename_i xs ys
    cases hx with
    | agg hx _ =>
      cases hy with
      | agg hy _ =>
        rename_i ax _ ay _
        split at h
        · cases h
        · rename_i hm
          have hg := run_eqGuard_agg w op t ox oy ax ay (by simpa using hm)
          simp only [Sem.run_bind, hg, Result.andThen_ok]
          split at h
          · rename_i b hb
            simp only [Option.some.injEq] at h; subst h
            refine ⟨.bool b, ?_, .bool _⟩
            rw [run_eql_struct, eqA_sound hx hy hb]; rfl
          · rename_i b hb
            simp only [Option.some.injEq] at h; subst h
            refine ⟨.bool (!b), ?_, .bool _⟩
            rw [run_neq_struct, eqA_sound hx hy hb]; rfl
          · cases h
  · cases h
end
end Go.VM
