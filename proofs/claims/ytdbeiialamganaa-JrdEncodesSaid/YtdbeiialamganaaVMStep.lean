/- One step at a time: each kind of operation has its own equation, without a binder. -/
import Derived.Test.YtdbeiialamganaaVMBound
set_option linter.unusedVariables false
namespace Go.VM
section
variable {E : Env} {mv : List Tmp} {ops : Array Oper} {K : List AVal → St → Prop} {af : List AVal} {st : St}

def putK (x : Option AVal) (d : Option Tmp) (K : List AVal → St → Prop) (af : List AVal) (st : St) : Prop :=
  match x with | some r => K (putA af d r) st | none => False
def copyK (x : Option AVal) (d : Option Tmp) (K : List AVal → St → Prop) (af : List AVal) (st : St) : Prop :=
  match x with | some r => K (putA af d r.strip) st | none => False
def takeK (x : Option (AVal × St)) (d : Option Tmp) (K : List AVal → St → Prop) (af : List AVal) : Prop :=
  match x with | some p => K (putA af d p.1) p.2 | none => False
def boxK (b : Bool) (x : AVal) (d : Option Tmp) (K : List AVal → St → Prop) (af : List AVal) (st : St) : Prop :=
  if b = true then K (putA af d (.ptr st.next 0)) { m := (st.next, cellsA x) :: st.m, next := st.next + 1 } else False
def allocK (x : Option AVal) (d : Option Tmp) (K : List AVal → St → Prop) (af : List AVal) (st : St) : Prop :=
  match x with | some z => K (putA af d (.ptr st.next 0)) { m := (st.next, cellsA z) :: st.m, next := st.next + 1 } | none => False
def storeK (x : Option St) (K : List AVal → St → Prop) (af : List AVal) : Prop :=
  match x with | some st => K af st | none => False
def tupGet (x : AVal) (n : Nat) : Option AVal := match x with | .tuple vs => vs[n]? | _ => none
def tupOff (x : AVal) (n : Nat) : AVal := match x with | .tuple vs => .tuple (vs.set n ((vs.getD n .any).strip)) | x => x
def sliceK (E : Env) (t : TypeId) (x : AVal) (lo hi mx : Option (Option Int)) (d : Option Tmp) (K : List AVal → St → Prop) (af : List AVal) (st : St) : Prop :=
  match lo, hi, mx with
  | some l, some h, some m => putK (sliceA E t x l h m) d K af st
  | _, _, _ => False
def retK (d : Option Tmp) (K : List AVal → St → Prop) (af : List AVal) : AVal → St → Prop := fun r st => K (putA af d r) st
def callK (E : Env) (f : AVal) (xs : List AVal) (d : Option Tmp) (K : List AVal → St → Prop) (af : List AVal) (st : St) : Prop :=
  match f with
  | .fn (.func g) p q => callable E.P g = true ∧ ACall E g (stripL (p ++ xs ++ q)) st (retK d K af)
  | _ => False

theorem putK_some {r : AVal} {d : Option Tmp} : putK (some r) d K af st = K (putA af d r) st := rfl
theorem copyK_some {r : AVal} {d : Option Tmp} : copyK (some r) d K af st = K (putA af d r.strip) st := rfl
theorem takeK_some {r : AVal} {s : St} {d : Option Tmp} : takeK (some (r, s)) d K af = K (putA af d r) s := rfl
theorem boxK_true {x : AVal} {d : Option Tmp} : boxK true x d K af st = K (putA af d (.ptr st.next 0)) { m := (st.next, cellsA x) :: st.m, next := st.next + 1 } := by simp [boxK]
theorem allocK_some {z : AVal} {d : Option Tmp} : allocK (some z) d K af st = K (putA af d (.ptr st.next 0)) { m := (st.next, cellsA z) :: st.m, next := st.next + 1 } := rfl
theorem storeK_some : storeK (some st) K af = K af st := rfl
theorem tupGet_tuple {n : Nat} {vs : List AVal} : tupGet (.tuple vs) n = vs[n]? := rfl
theorem tupOff_tuple {n : Nat} {vs : List AVal} : tupOff (.tuple vs) n = .tuple (vs.set n ((vs.getD n .any).strip)) := rfl
theorem sliceK_some {t : TypeId} {x : AVal} {lo hi mx : Option Int} {d : Option Tmp} : sliceK E t x (some lo) (some hi) (some mx) d K af st = putK (sliceA E t x lo hi mx) d K af st := rfl
theorem retK_app {d : Option Tmp} {r : AVal} : retK d K af r st = K (putA af d r) st := rfl
theorem callK_fn {g : FuncId} {p q xs : List AVal} {d : Option Tmp} : callK E (.fn (.func g) p q) xs d K af st = (callable E.P g = true ∧ ACall E g (stripL (p ++ xs ++ q)) st (retK d K af)) := rfl

theorem isMv_nil {d : Option Tmp} : isMv [] d = false := by cases d <;> rfl

section ops
variable {d : Option Tmp} {ty : TypeId} {pos : String} {aft : Array Edge} {g : Option (Nat × Bool)}

def mvK (b : Bool) (x : Operand) (ty : TypeId) (E : Env) (d : Option Tmp) (K : List AVal → St → Prop) (af : List AVal) (st : St) : Prop :=
  if b = true then K (putA (stripAt af x) d (rd E af ty x)) st else K (putA af d (rd E af ty x).strip) st
theorem mvK_true {x : Operand} : mvK true x ty E d K af st = K (putA (stripAt af x) d (rd E af ty x)) st := by simp [mvK]
theorem mvK_false {x : Operand} : mvK false x ty E d K af st = K (putA af d (rd E af ty x).strip) st := by simp [mvK]
def ldK (b : Bool) (t : TypeId) (x : AVal) (E : Env) (d : Option Tmp) (K : List AVal → St → Prop) (af : List AVal) (st : St) : Prop :=
  if b = true then takeK (loadMv E t x st) d K af else copyK (loadA E t x st) d K af st
theorem ldK_true {t : TypeId} {x : AVal} : ldK true t x E d K af st = takeK (loadMv E t x st) d K af := by simp [ldK]
theorem ldK_false {t : TypeId} {x : AVal} : ldK false t x E d K af st = copyK (loadA E t x st) d K af st := by simp [ldK]

theorem op_move {x : Operand} : opWp E mv ⟨d, .move x, ty, pos, aft, g⟩ af st K = mvK (isMv mv d) x ty E d K af st := by
  simp only [opWp, stepOp, mvK]; cases isMv mv d <;> simp
theorem op_assign {x : Operand} : opWp E mv ⟨d, .assign x, ty, pos, aft, g⟩ af st K = K (putA (stripAt af x) d (rd E af ty x)) st := rfl
theorem op_alloc {t : TypeId} : opWp E mv ⟨d, .alloc t, ty, pos, aft, g⟩ af st K = allocK (zeroA E.P t) d K af st := by
  simp only [opWp, stepOp, allocK]; cases zeroA E.P t <;> rfl
theorem op_box {t : TypeId} {x : Operand} : opWp E mv ⟨d, .box t x, ty, pos, aft, g⟩ af st K = boxK (okBox (rd E af t x)) (rd E af t x) d K (stripAt af x) st := by
  simp only [opWp, stepOp, boxK]; cases okBox (rd E af t x) <;> simp
theorem op_build {t : TypeId} {ps : List (Nat × Operand)} : opWp E mv ⟨d, .build t ⟨ps⟩, ty, pos, aft, g⟩ af st K = putK (buildA E t (rdParts E (fieldT E.P t) af ps).2) d K (rdParts E (fieldT E.P t) af ps).1 st := by
  simp only [opWp, stepOp, putK]; cases buildA E t (rdParts E (fieldT E.P t) af ps).2 <;> rfl
theorem op_buildSlice {t : TypeId} {n : Nat} {ps : List (Nat × Operand)} : opWp E mv ⟨d, .buildSlice t n ⟨ps⟩, ty, pos, aft, g⟩ af st K = putK (buildSliceA E t n (rdParts E (fun _ => fieldT E.P t 0) af ps).2) d K af st := by
  simp only [opWp, stepOp, putK]; cases buildSliceA E t n (rdParts E (fun _ => fieldT E.P t 0) af ps).2 <;> rfl
theorem op_load {t : TypeId} {x : Operand} : opWp E mv ⟨d, .load t x, ty, pos, aft, g⟩ af st K = ldK (isMv mv d) t (rd E af 0 x) E d K af st := by
  simp only [opWp, stepOp, ldK, takeK, copyK]
  cases isMv mv d
  · simp only [Bool.false_eq_true, if_false]; cases loadA E t (rd E af 0 x) st <;> rfl
  · simp only [if_true]; cases loadMv E t (rd E af 0 x) st <;> rfl
theorem op_store {t : TypeId} {x y : Operand} : opWp E mv ⟨none, .store t x y, ty, pos, aft, g⟩ af st K = storeK (storeA E t (rd E af 0 x) (rd E af t y) st) K (stripAt af y) := by
  simp only [opWp, stepOp, storeK, Option.isNone_none, if_true]; cases storeA E t (rd E af 0 x) (rd E af t y) st <;> rfl
theorem op_extract {t n : Nat} : opWp E mv ⟨d, .extract (.tmp t) n, ty, pos, aft, g⟩ af st K = putK (tupGet (af.getD t .any) n) d K (af.set t (tupOff (af.getD t .any) n)) st := by
  simp only [opWp, stepOp]
  cases af.getD t .any with
  | tuple vs =>
    simp only [tupGet, tupOff, putK, List.getD]
    cases vs[n]? <;> rfl
  | _ => rfl
theorem op_slice {t : TypeId} {x : Operand} {lo hi mx : Option Operand} : opWp E mv ⟨d, .slice t x lo hi mx, ty, pos, aft, g⟩ af st K = sliceK E t (rd E af t x) (rdo E af lo) (rdo E af hi) (rdo E af mx) d K af st := by
  simp only [opWp, stepOp, sliceK]
  cases rdo E af lo <;> cases rdo E af hi <;> cases rdo E af mx <;> (try rfl)
  simp only [putK]
  cases sliceA E t (rd E af t x) _ _ _ <;> rfl
def rangeK (g : Bool) (x : AVal) (d : Option Tmp) (K : List AVal → St → Prop) (af : List AVal) (st : St) : Prop := match x with | .str s => if g = true then K (putA af d (.iter s 0)) st else False | _ => False
theorem op_range {t : TypeId} {x : Operand} : opWp E mv ⟨d, .range t x, ty, pos, aft, g⟩ af st K = rangeK (isStrT E.P t) (rd E af t x) d K af st := by
  simp only [opWp, stepOp, rangeK]
  cases rd E af t x with
  | str s => simp only []; cases isStrT E.P t <;> simp
  | _ => rfl
theorem rangeK_str {s : List UInt8} : rangeK true (.str s) d K af st = K (putA af d (.iter s 0)) st := rfl
def nextK (x : AVal) (t : Tmp) (d : Option Tmp) (K : List AVal → St → Prop) (af : List AVal) (st : St) : Prop := match x with | .iter s pos => K (nextA s pos t d af) st | _ => False
theorem op_next {t : Tmp} : opWp E mv ⟨d, .next (.tmp t) true, ty, pos, aft, g⟩ af st K = nextK (af.getD t .any) t d K af st := by
  simp only [opWp, stepOp, nextK]
  cases af.getD t .any <;> rfl
theorem nextK_iter {t : Tmp} {s : List UInt8} {p : Nat} : nextK (.iter s p) t d K af st = if decide (p < s.length) = true then K (putA (af.set t (.iter s (p + (decodeAt s p).2))) d (.tuple [.bool true, .int .i64 p, .int .i32 (decodeAt s p).1])) st else K (putA af d (.tuple [.bool false])) st := by
  simp only [nextK, nextA]; split <;> rfl
theorem op_append {x y : Operand} {t0 t1 : TypeId} {ts : List TypeId} : opWp E mv ⟨d, .call { callee := .builtin .append, args := ⟨[x, y]⟩, argTypes := ⟨t0 :: t1 :: ts⟩ }, ty, pos, aft, g⟩ af st K = putK (appendA E t0 t1 (rd E af t0 x) (rd E af t1 y)) d K (stripAt af x) st := by
  simp only [opWp, stepOp, putK]; cases appendA E t0 t1 (rd E af t0 x) (rd E af t1 y) <;> rfl
theorem op_call {f : Operand} {xs : List Operand} {ts : List TypeId} : opWp E mv ⟨d, .call { callee := .value f, args := ⟨xs⟩, argTypes := ⟨ts⟩ }, ty, pos, aft, g⟩ af st K = callK E (rd E af 0 f) (rdL E af xs ts) d K af st := by
  simp only [opWp, callK]
  rfl
theorem op_pure {o : Oper} (h : opWp E mv o af st K = (match (pureVal E o af).map fun r => (putA af o.dst r.strip, st) with | some (af', st') => K af' st' | none => False)) : opWp E mv o af st K = copyK (pureVal E o af) o.dst K af st := by
  rw [h]; simp only [copyK]; cases pureVal E o af <;> rfl
def pickA (c x y : AVal) : Option AVal := match c with | .bool t => some (if t = true then x else y) | _ => none
theorem pickA_bool {b : Bool} {x y : AVal} : pickA (.bool b) x y = some (if b = true then x else y) := rfl
theorem op_pick {c x y : Operand} : opWp E mv ⟨d, .pick c x y, ty, pos, aft, g⟩ af st K = copyK (pickA (rd E af 0 c) (rd E af ty x) (rd E af ty y)) d K af st := op_pure rfl
theorem op_nilCheck {x : Operand} : opWp E mv ⟨d, .nilCheck x, ty, pos, aft, g⟩ af st K = copyK (nilCheckA (rd E af 0 x)) d K af st := op_pure rfl
theorem op_binOp {op : BinOp} {t u : TypeId} {x y : Operand} : opWp E mv ⟨d, .binOp op t x y u, ty, pos, aft, g⟩ af st K = copyK (binA E op t (rd E af t x) (rd E af t y)) d K af st := op_pure rfl
theorem op_unOp {op : UnOp} {t : TypeId} {x : Operand} : opWp E mv ⟨d, .unOp op t x, ty, pos, aft, g⟩ af st K = copyK (unA op (rd E af 0 x)) d K af st := op_pure rfl
theorem op_convert {s t : TypeId} {x : Operand} : opWp E mv ⟨d, .convert s t x, ty, pos, aft, g⟩ af st K = copyK (convB E s t (rd E af s x)) d K af st := op_pure rfl
theorem op_makeFunc {f : Fn} {p q : List Operand} : opWp E mv ⟨d, .makeFunc f ⟨p⟩ ⟨q⟩, ty, pos, aft, g⟩ af st K = K (putA af d (AVal.fn f (p.map (rd E af 0)) (q.map (rd E af 0))).strip) st := op_pure rfl
theorem op_fieldAddr {s : TypeId} {x : Operand} {f : Nat} : opWp E mv ⟨d, .fieldAddr s x f, ty, pos, aft, g⟩ af st K = copyK (fieldAddrA E s (rd E af 0 x) f) d K af st := op_pure rfl
theorem op_field {s : TypeId} {x : Operand} {f : Nat} : opWp E mv ⟨d, .field s x f, ty, pos, aft, g⟩ af st K = copyK (fieldA E s (rd E af s x) f) d K af st := op_pure rfl
theorem op_indexAddr {t : TypeId} {x i : Operand} : opWp E mv ⟨d, .indexAddr t x i, ty, pos, aft, g⟩ af st K = copyK (indexAddrA E t (rd E af t x) (rd E af 0 i)) d K af st := op_pure rfl
theorem op_index {t : TypeId} {x i : Operand} : opWp E mv ⟨d, .index t x i, ty, pos, aft, g⟩ af st K = copyK (indexA E t (rd E af t x) (rd E af 0 i)) d K af st := op_pure rfl
theorem op_len {x : Operand} {t : TypeId} {ts : List TypeId} : opWp E mv ⟨d, .call { callee := .builtin .len, args := ⟨[x]⟩, argTypes := ⟨t :: ts⟩ }, ty, pos, aft, g⟩ af st K = copyK (lenA E t (rd E af t x)) d K af st := op_pure rfl
theorem op_min {x y : Operand} {ts : Array TypeId} : opWp E mv ⟨d, .call { callee := .builtin .min, args := ⟨[x, y]⟩, argTypes := ts }, ty, pos, aft, g⟩ af st K = copyK (minA (rd E af 0 x) (rd E af 0 y)) d K af st := op_pure rfl
theorem op_max {x y : Operand} {ts : Array TypeId} : opWp E mv ⟨d, .call { callee := .builtin .max, args := ⟨[x, y]⟩, argTypes := ts }, ty, pos, aft, g⟩ af st K = copyK (maxA (rd E af 0 x) (rd E af 0 y)) d K af st := op_pure rfl

def gdD (d : Option Tmp) (af : List AVal) (want : Bool) : Option Bool := match d with | some i => gd (af.getD i .any) want | none => none
def dstAt : List Oper → Nat → Option Tmp
  | [], _ => none
  | o :: _, 0 => o.dst
  | _ :: os, n + 1 => dstAt os n
theorem dstAt_eq (os : List Oper) (j : Nat) : dstAt os j = ((List.toArray os)[j]?).bind (·.dst) := by
  rw [List.getElem?_toArray]
  induction os generalizing j with
  | nil => simp [dstAt]
  | cons o os ih => cases j with
    | zero => simp [dstAt]
    | succ j => simp [dstAt, ih]
theorem gdA_eq (os : List Oper) (j : Nat) (want : Bool) : gdA ⟨os⟩ af j want = gdD (dstAt os j) af want := by
  rw [dstAt_eq]; rfl

theorem ops_nil : opsWp E mv ops [] K af st = K af st := rfl
theorem ops_cons {op : Op} {os : List Oper} : opsWp E mv ops (⟨d, op, ty, pos, aft, none⟩ :: os) K af st = opWp E mv ⟨d, op, ty, pos, aft, none⟩ af st (opsWp E mv ops os K) := rfl
theorem ops_gd {op : Op} {os' os : List Oper} {j : Nat} {want : Bool} : opsWp E mv ⟨os'⟩ (⟨d, op, ty, pos, aft, some (j, want)⟩ :: os) K af st =
    if gdD (dstAt os' j) af want = some true then opWp E mv ⟨d, op, ty, pos, aft, some (j, want)⟩ af st (opsWp E mv ⟨os'⟩ os K) else if gdD (dstAt os' j) af want = some false then opsWp E mv ⟨os'⟩ os K (putA af d (.tuple [])) st else False := by
  simp only [opsWp, gdA_eq]
  cases gdD (dstAt os' j) af want with
  | none => simp
  | some b => cases b <;> simp

/-- what a slot's operation gives, kind by kind -/
theorem slot_none {op : Op} : slotG E ops ⟨d, op, ty, pos, aft, none⟩ af st = slotOp E ⟨d, op, ty, pos, aft, none⟩ af st := rfl
theorem slot_gd {op : Op} {os' : List Oper} {j : Nat} {want : Bool} : slotG E ⟨os'⟩ ⟨d, op, ty, pos, aft, some (j, want)⟩ af st =
    if gdD (dstAt os' j) af want = some true then slotOp E ⟨d, op, ty, pos, aft, some (j, want)⟩ af st else if gdD (dstAt os' j) af want = some false then some (.tuple []) else none := by
  simp only [slotG, gdA_eq]
  cases gdD (dstAt os' j) af want with
  | none => simp
  | some b => cases b <;> simp
def stripO (x : Option AVal) : Option AVal := x.map AVal.strip
theorem stripO_some {r : AVal} : stripO (some r) = some r.strip := rfl
theorem so_move {x : Operand} : slotOp E ⟨d, .move x, ty, pos, aft, g⟩ af st = some (rd E af ty x).strip := rfl
theorem so_load {t : TypeId} {x : Operand} : slotOp E ⟨d, .load t x, ty, pos, aft, g⟩ af st = stripO (loadA E t (rd E af 0 x) st) := rfl
def sliceO (E : Env) (t : TypeId) (x : AVal) (lo hi mx : Option (Option Int)) : Option AVal := match lo, hi, mx with | some l, some h, some m => sliceA E t x l h m | _, _, _ => none
theorem sliceO_some {t : TypeId} {x : AVal} {lo hi mx : Option Int} : sliceO E t x (some lo) (some hi) (some mx) = sliceA E t x lo hi mx := rfl
theorem so_slice {t : TypeId} {x : Operand} {lo hi mx : Option Operand} : slotOp E ⟨d, .slice t x lo hi mx, ty, pos, aft, g⟩ af st = sliceO E t (rd E af t x) (rdo E af lo) (rdo E af hi) (rdo E af mx) := by
  simp only [slotOp, sliceO]
  cases rdo E af lo <;> cases rdo E af hi <;> cases rdo E af mx <;> rfl
theorem so_buildSlice {t : TypeId} {n : Nat} {ps : List (Nat × Operand)} : slotOp E ⟨d, .buildSlice t n ⟨ps⟩, ty, pos, aft, g⟩ af st = buildSliceA E t n (rdParts E (fun _ => fieldT E.P t 0) af ps).2 := rfl
theorem so_pick {c x y : Operand} : slotOp E ⟨d, .pick c x y, ty, pos, aft, g⟩ af st = stripO (pickA (rd E af 0 c) (rd E af ty x) (rd E af ty y)) := rfl
theorem so_nilCheck {x : Operand} : slotOp E ⟨d, .nilCheck x, ty, pos, aft, g⟩ af st = stripO (nilCheckA (rd E af 0 x)) := rfl
theorem so_binOp {op : BinOp} {t u : TypeId} {x y : Operand} : slotOp E ⟨d, .binOp op t x y u, ty, pos, aft, g⟩ af st = stripO (binA E op t (rd E af t x) (rd E af t y)) := rfl
theorem so_unOp {op : UnOp} {t : TypeId} {x : Operand} : slotOp E ⟨d, .unOp op t x, ty, pos, aft, g⟩ af st = stripO (unA op (rd E af 0 x)) := rfl
theorem so_convert {s t : TypeId} {x : Operand} : slotOp E ⟨d, .convert s t x, ty, pos, aft, g⟩ af st = stripO (convB E s t (rd E af s x)) := rfl
theorem so_makeFunc {f : Fn} {p q : List Operand} : slotOp E ⟨d, .makeFunc f ⟨p⟩ ⟨q⟩, ty, pos, aft, g⟩ af st = some (AVal.fn f (p.map (rd E af 0)) (q.map (rd E af 0))).strip := rfl
theorem so_fieldAddr {s : TypeId} {x : Operand} {f : Nat} : slotOp E ⟨d, .fieldAddr s x f, ty, pos, aft, g⟩ af st = stripO (fieldAddrA E s (rd E af 0 x) f) := rfl
theorem so_field {s : TypeId} {x : Operand} {f : Nat} : slotOp E ⟨d, .field s x f, ty, pos, aft, g⟩ af st = stripO (fieldA E s (rd E af s x) f) := rfl
theorem so_indexAddr {t : TypeId} {x i : Operand} : slotOp E ⟨d, .indexAddr t x i, ty, pos, aft, g⟩ af st = stripO (indexAddrA E t (rd E af t x) (rd E af 0 i)) := rfl
theorem so_index {t : TypeId} {x i : Operand} : slotOp E ⟨d, .index t x i, ty, pos, aft, g⟩ af st = stripO (indexA E t (rd E af t x) (rd E af 0 i)) := rfl
theorem so_len {x : Operand} {t : TypeId} {ts : List TypeId} : slotOp E ⟨d, .call { callee := .builtin .len, args := ⟨[x]⟩, argTypes := ⟨t :: ts⟩ }, ty, pos, aft, g⟩ af st = stripO (lenA E t (rd E af t x)) := rfl
theorem so_min {x y : Operand} {ts : Array TypeId} : slotOp E ⟨d, .call { callee := .builtin .min, args := ⟨[x, y]⟩, argTypes := ts }, ty, pos, aft, g⟩ af st = stripO (minA (rd E af 0 x) (rd E af 0 y)) := rfl
theorem so_max {x y : Operand} {ts : Array TypeId} : slotOp E ⟨d, .call { callee := .builtin .max, args := ⟨[x, y]⟩, argTypes := ts }, ty, pos, aft, g⟩ af st = stripO (maxA (rd E af 0 x) (rd E af 0 y)) := rfl

theorem g_none {op : Op} : gWp E mv ops ⟨d, op, ty, pos, aft, none⟩ af st K = opWp E mv ⟨d, op, ty, pos, aft, none⟩ af st K := rfl
theorem g_gd {op : Op} {os' : List Oper} {j : Nat} {want : Bool} : gWp E mv ⟨os'⟩ ⟨d, op, ty, pos, aft, some (j, want)⟩ af st K =
    if gdD (dstAt os' j) af want = some true then opWp E mv ⟨d, op, ty, pos, aft, some (j, want)⟩ af st K else if gdD (dstAt os' j) af want = some false then K (putA af d (.tuple [])) st else False := by
  simp only [gWp, gdA_eq]
  cases gdD (dstAt os' j) af want with
  | none => simp
  | some b => cases b <;> simp
theorem gd_tt : gd (.bool true) true = some true := rfl
theorem gd_tf : gd (.bool true) false = some false := rfl
theorem gd_ft : gd (.bool false) true = some false := rfl
theorem gd_ff : gd (.bool false) false = some true := rfl
theorem gd_undef {want : Bool} : gd (.tuple []) want = some false := rfl
theorem gdD_some {i : Nat} {want : Bool} : gdD (some i) af want = gd (af.getD i .any) want := rfl

def opAt : List Oper → Nat → Option Oper
  | [], _ => none
  | o :: _, 0 => some o
  | _ :: os, n + 1 => opAt os n
theorem opAt_eq (os : List Oper) (j : Nat) : opAt os j = (List.toArray os)[j]? := by
  rw [List.getElem?_toArray]
  induction os generalizing j with
  | nil => simp [opAt]
  | cons o os ih => cases j with
    | zero => simp [opAt]
    | succ j => simp [opAt, ih]
def tkR (E : Env) (mv : List Tmp) (os : List Oper) (x : Option AVal) (i : Nat) (d : Option Tmp) (p : Plan) (tv : List (Nat × AVal)) (K : List AVal → St → Prop) (af : List AVal) (st : St) : Prop :=
  match x with | some r => planWp E mv ⟨os⟩ p ((i, r) :: tv) K (putA af d r) st | none => False
def tkO (E : Env) (mv : List Tmp) (os : List Oper) (x : Option Oper) (i : Nat) (p : Plan) (tv : List (Nat × AVal)) (K : List AVal → St → Prop) (af : List AVal) (st : St) : Prop :=
  match x with | some o => tkR E mv os (slotG E ⟨os⟩ o af st) i o.dst p tv K af st | none => False
def altK (E : Env) (mv : List Tmp) (os : List Oper) (chk : List Nat) (p : Plan) (tv : List (Nat × AVal)) (K : List AVal → St → Prop) (af : List AVal) (st : St) : Prop :=
  chkAll E ⟨os⟩ tv af st chk ∧ planWp E mv ⟨os⟩ p tv K af st
def altO (E : Env) (mv : List Tmp) (os : List Oper) (x : Option Oper) (chk : List Nat) (p : Plan) (tv : List (Nat × AVal)) (K : List AVal → St → Prop) (af : List AVal) (st : St) : Prop :=
  match x with | some o => gWp E mv ⟨os⟩ o af st (altK E mv os chk p tv K) | none => False
def chkO (E : Env) (os : List Oper) (x : Option AVal) (o : Option Oper) (af : List AVal) (st : St) : Prop :=
  match x, o with | some r, some o => slotG E ⟨os⟩ o af st = some r | _, _ => False
variable {os : List Oper} {tv : List (Nat × AVal)} {p rest : Plan} {chk : List Nat} {i : Nat}
theorem tkO_some {op : Op} : tkO E mv os (some ⟨d, op, ty, pos, aft, g⟩) i p tv K af st = tkR E mv os (slotG E ⟨os⟩ ⟨d, op, ty, pos, aft, g⟩ af st) i d p tv K af st := rfl
theorem tkR_some {r : AVal} : tkR E mv os (some r) i d p tv K af st = planWp E mv ⟨os⟩ p ((i, r) :: tv) K (putA af d r) st := rfl
theorem altO_some {o : Oper} : altO E mv os (some o) chk p tv K af st = gWp E mv ⟨os⟩ o af st (altK E mv os chk p tv K) := rfl
theorem altK_app : altK E mv os chk p tv K af st = (chkAll E ⟨os⟩ tv af st chk ∧ planWp E mv ⟨os⟩ p tv K af st) := rfl
theorem plan_done : planWp E mv ⟨os⟩ .done tv K af st = K af st := rfl
theorem plan_stop : planWp E mv ⟨os⟩ .stop tv K af st = True := rfl
theorem plan_take : planWp E mv ⟨os⟩ (.take i p) tv K af st = tkO E mv os (opAt os i) i p tv K af st := by
  rw [opAt_eq]; rfl
theorem plan_alt : planWp E mv ⟨os⟩ (.alt i chk p rest) tv K af st = (altO E mv os (opAt os i) chk p tv K af st ∧ planWp E mv ⟨os⟩ rest tv K af st) := by
  rw [opAt_eq]; rfl
theorem chk_nil : chkAll E ⟨os⟩ tv af st [] = True := rfl
theorem chk_cons {k : Nat} {ks : List Nat} : chkAll E ⟨os⟩ tv af st (k :: ks) = (chkO E os (tlook tv k) (opAt os k) af st ∧ chkAll E ⟨os⟩ tv af st ks) := by
  rw [opAt_eq]; rfl
theorem chkO_some {r : AVal} {o : Oper} : chkO E os (some r) (some o) af st = (slotG E ⟨os⟩ o af st = some r) := rfl

theorem awp_region' {Q : APost} {id : Nat} {os : List Oper} (mv : List Tmp) (h : ∀ K : List AVal → St → Prop, (∀ af st, Q .normal af st → K af st) → opsWp E mv ⟨os⟩ os K af st) : AWp E (.region id (List.toArray os) false) Q af st :=
  awp_region mv (h _ fun _ _ h => h)
theorem awp_draw' {Q : APost} {id : Nat} {os : List Oper} (mv : List Tmp) (plan : Plan) (hm : E.P.follows .mixedOrders = true) (hok : planOK (List.toArray os) plan false (Array.replicate (List.toArray os).size false) [] = true)
    (h : ∀ K : List AVal → St → Prop, (∀ af st, Q .normal af st → K af st) → planWp E mv ⟨os⟩ plan [] K af st) : AWp E (.region id (List.toArray os) true) Q af st :=
  awp_region_draw mv plan hm hok (h _ fun _ _ h => h)

/-- WHERE BRANCHES MEET: js: slots that are forgotten; cs: those that carry; M: what holds of their values and the store -/
theorem awp_join {Q Q' : APost} {c y : Code} (js cs : List Tmp) (M : List AVal → St → Prop) (hK : ∀ af st, AWp E y Q' af st → K af st)
    (rest : ∀ vs st', M vs st' → AWp E y Q' (setVals (maskA js af) cs vs) st')
    (h : ∀ J : List AVal → St → Prop, (∀ af' st' m, m.Sublist st'.m → maskA cs (maskA js af') = maskA cs (maskA js af) → M (getVals (maskA js af') cs) { st' with m := m } → J af' st') → AWp E c (kPost J Q) af st) : AWp E c (kPost K Q) af st := by
  refine (h K fun af' st' m hm h1 h2 => hK _ _ (awp_mask js (awp_fewer hm ?_))).mono fun _ _ _ _ q => q
  have := rest _ _ h2
  rw [← setVals_get cs _ _ h1] at this
  exact this
end ops
end
end Go.VM
