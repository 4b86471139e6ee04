/- The rules of the walks, in one. -/
import Derived.Test.YtdbeiialamganaaVMDec
set_option linter.unusedVariables false
set_option linter.defProp false
set_option maxRecDepth 100000
namespace Go.VM
section
variable {E : Env} {t : TypeId} {k : IntKind} {a b : Int}
theorem bA_add : binA E .add t (.int k a) (.int k b) = some (.int k (wr k (a + b))) := by simp [binA, intBin, wr]
theorem bA_sub : binA E .sub t (.int k a) (.int k b) = some (.int k (wr k (a - b))) := by simp [binA, intBin, wr]
theorem bA_mul : binA E .mul t (.int k a) (.int k b) = some (.int k (wr k (a * b))) := by simp [binA, intBin, wr]
theorem bA_quo : binA E .quo t (.int k a) (.int k b) = if b = 0 then none else some (.int k (wr k (a.tdiv b))) := by simp [binA, intBin, wr]
theorem bA_rem : binA E .rem t (.int k a) (.int k b) = if b = 0 then none else some (.int k (a.tmod b)) := by simp [binA, intBin]
theorem bA_and : binA E .and t (.int k a) (.int k b) = some (.int k (bandI k a b)) := by simp [binA, intBin, bandI]
theorem bA_or : binA E .or t (.int k a) (.int k b) = some (.int k (borI k a b)) := by simp [binA, intBin, borI]
theorem bA_xor : binA E .xor t (.int k a) (.int k b) = some (.int k (bxorI k a b)) := by simp [binA, intBin, bxorI]
theorem bA_andNot : binA E .andNot t (.int k a) (.int k b) = some (.int k (bandNotI k a b)) := by simp [binA, intBin, bandNotI]
theorem bA_eql : binA E .eql t (.int k a) (.int k b) = some (.bool (a == b)) := by simp [binA, intBin]
theorem bA_neq : binA E .neq t (.int k a) (.int k b) = some (.bool (a != b)) := by simp [binA, intBin]
theorem bA_lss : binA E .lss t (.int k a) (.int k b) = some (.bool (decide (a < b))) := by simp [binA, intBin]
theorem bA_leq : binA E .leq t (.int k a) (.int k b) = some (.bool (decide (a ≤ b))) := by simp [binA, intBin]
theorem bA_gtr : binA E .gtr t (.int k a) (.int k b) = some (.bool (decide (a > b))) := by simp [binA, intBin]
theorem bA_geq : binA E .geq t (.int k a) (.int k b) = some (.bool (decide (a ≥ b))) := by simp [binA, intBin]
theorem bA_shl {j : IntKind} : binA E .shl t (.int k a) (.int j b) = if b < 0 then none else some (.int k (shlI k a b)) := by simp [binA, shiftA, shlI]
theorem bA_shr {j : IntKind} : binA E .shr t (.int k a) (.int j b) = if b < 0 then none else some (.int k (shrI k a b)) := by simp [binA, shiftA, shrI]
variable {x y : List UInt8} {p q : Bool}
theorem bA_sadd : binA E .add t (.str x) (.str y) = if fitsS (x.length + y.length) then some (.str (x ++ y)) else none := str_add
theorem bA_seql : binA E .eql t (.str x) (.str y) = some (.bool (x == y)) := rfl
theorem bA_sneq : binA E .neq t (.str x) (.str y) = some (.bool (!(x == y))) := rfl
theorem bA_slss : binA E .lss t (.str x) (.str y) = some (.bool (Op.bytesLess x y)) := rfl
theorem bA_sleq : binA E .leq t (.str x) (.str y) = some (.bool (Op.bytesLess x y || x == y)) := rfl
theorem bA_sgtr : binA E .gtr t (.str x) (.str y) = some (.bool (!(Op.bytesLess x y || x == y))) := rfl
theorem bA_sgeq : binA E .geq t (.str x) (.str y) = some (.bool (!(Op.bytesLess x y))) := rfl
theorem bA_beql : binA E .eql t (.bool p) (.bool q) = if isBoolT E.P t = true then some (.bool (p == q)) else none := rfl
theorem bA_bneq : binA E .neq t (.bool p) (.bool q) = if isBoolT E.P t = true then some (.bool (!(p == q))) else none := rfl
def aggEq (op : BinOp) (g : Bool) (e : Option Bool) : Option AVal :=
  if g = true then none else
    match op, e with
    | .eql, some b => some (.bool b)
    | .neq, some b => some (.bool (!b))
    | _, _ => none
theorem bA_agg {op : BinOp} {xs ys : List AVal} : binA E op t (.agg xs) (.agg ys) = aggEq op (E.P.eqGuardType E.P.depth t) (eqA E.P 10000 t (.agg xs) (.agg ys)) := rfl
theorem aggEq_eql : aggEq .eql false (some p) = some (.bool p) := rfl
theorem aggEq_neq : aggEq .neq false (some p) = some (.bool (!p)) := rfl
def cvI (g : Bool) (st : Bool) (k : Option IntKind) (n : Int) : Option AVal := if (g && st) = true then some (.str (utf8Of n)) else if g = true then (match k with | some k => some (.int k (wr k n)) | none => none) else none
theorem cv_int {s d : TypeId} {n : Int} : convB E s d (.int k n) = cvI (knownT E.P s) (isStrT E.P d) (intT E.P d) n := rfl
theorem cvI_some {n : Int} : cvI true false (some k) n = some (.int k (wr k n)) := rfl
theorem cvI_str {n : Int} {j : Option IntKind} : cvI true true j n = some (.str (utf8Of n)) := rfl
def cvS (g h : Bool) (l : List UInt8) : Option AVal := if (g && h) = true then some (.str l) else none
theorem cv_str {s d : TypeId} {l : List UInt8} : convB E s d (.str l) = cvS (knownT E.P s) (isStrT E.P d) l := rfl
theorem cvS_true {l : List UInt8} : cvS true true l = some (.str l) := rfl
theorem cv_bytes {s d : TypeId} {w : Nat} {xs : List AVal} {o : Bool} : convB E s d (.slice w xs o) = strOf (u8T E.P s && isStrT E.P d) (bytesOf xs) := rfl
theorem strOf_some {l : List UInt8} : strOf true (some l) = some (.str l) := rfl
theorem bytesOf_map {l : List Int} : bytesOf (l.map (AVal.int .u8)) = some (l.map bchr) := by
  induction l with
  | nil => rfl
  | cons x l ih => simp [bytesOf, ih]
theorem bytesOf_cons {n : Int} {xs : List AVal} : bytesOf (.int .u8 n :: xs) = (bytesOf xs).map (bchr n :: ·) := rfl
theorem bytesOf_nil : bytesOf [] = some [] := rfl
theorem bytesOf_app {xs ys : List AVal} : bytesOf (xs ++ ys) = (bytesOf xs).bind fun a => (bytesOf ys).map (a ++ ·) := by
  induction xs with
  | nil => cases h : bytesOf ys <;> simp [bytesOf, h]
  | cons x xs ih =>
    rw [List.cons_append]
    cases x with
    | int k n =>
      cases k <;> try rfl
      rw [bytesOf_cons, bytesOf_cons, ih]
      cases bytesOf xs <;> cases bytesOf ys <;> simp
    | _ => rfl
theorem uA_not : unA .not (.bool p) = some (.bool (!p)) := rfl
theorem uA_neg : unA .neg (.int k a) = some (.int k (wr k (0 - a))) := rfl
end
theorem str_any  : AVal.strip (.any) = .any := by simp [AVal.strip]
theorem str_bool {b : Bool} : AVal.strip (.bool b) = .bool b := by simp [AVal.strip]
theorem str_int {k : IntKind} {n : Int} : AVal.strip (.int k n) = .int k n := by simp [AVal.strip]
theorem str_str {l : List UInt8} : AVal.strip (.str l) = .str l := by simp [AVal.strip]
theorem str_ptr {i o : Nat} : AVal.strip (.ptr i o) = .ptr i o := by simp [AVal.strip]
theorem str_nilp  : AVal.strip (.nilp) = .nilp := by simp [AVal.strip]
theorem str_cptr {l : List AVal} : AVal.strip (.cptr l) = .cptr l := by simp [AVal.strip]
theorem str_fn {f : Fn} {p q : List AVal} : AVal.strip (.fn f p q) = .fn f p q := by simp [AVal.strip]
theorem str_nilFn  : AVal.strip (.nilFn) = .nilFn := by simp [AVal.strip]
theorem str_iface {t : TypeId} {x : AVal} : AVal.strip (.iface t x) = .iface t x := by simp [AVal.strip]
theorem str_nilIface  : AVal.strip (.nilIface) = .nilIface := by simp [AVal.strip]
theorem cel_any  : cellsA (.any) = [.any] := rfl
theorem cel_bool {b : Bool} : cellsA (.bool b) = [.bool b] := rfl
theorem cel_int {k : IntKind} {n : Int} : cellsA (.int k n) = [.int k n] := rfl
theorem cel_str {l : List UInt8} : cellsA (.str l) = [.str l] := rfl
theorem cel_ptr {i o : Nat} : cellsA (.ptr i o) = [.ptr i o] := rfl
theorem cel_nilp  : cellsA (.nilp) = [.nilp] := rfl
theorem cel_cptr {l : List AVal} : cellsA (.cptr l) = [.cptr l] := rfl
theorem cel_fn {f : Fn} {p q : List AVal} : cellsA (.fn f p q) = [.fn f p q] := rfl
theorem cel_nilFn  : cellsA (.nilFn) = [.nilFn] := rfl
theorem cel_iface {t : TypeId} {x : AVal} : cellsA (.iface t x) = [.iface t x] := rfl
theorem cel_nilIface  : cellsA (.nilIface) = [.nilIface] := rfl
theorem cel_tuple {l : List AVal} : cellsA (.tuple l) = [.tuple l] := rfl
theorem cel_slice {w : Nat} {l : List AVal} {o : Bool} : cellsA (.slice w l o) = [.slice w l o] := rfl
theorem okb_bool {b : Bool} : okBox (.bool b) = true := rfl
theorem okb_int {k : IntKind} {n : Int} : okBox (.int k n) = true := rfl
theorem okb_str {l : List UInt8} : okBox (.str l) = true := rfl
theorem okb_ptr {i o : Nat} : okBox (.ptr i o) = true := rfl
theorem okb_nilp  : okBox (.nilp) = true := rfl
theorem okb_cptr {l : List AVal} : okBox (.cptr l) = true := rfl
theorem okb_fn {f : Fn} {p q : List AVal} : okBox (.fn f p q) = true := rfl
theorem okb_nilFn  : okBox (.nilFn) = true := rfl
theorem okb_iface {t : TypeId} {x : AVal} : okBox (.iface t x) = true := rfl
theorem okb_nilIface  : okBox (.nilIface) = true := rfl
theorem okb_agg {l : List AVal} : okBox (.agg l) = true := rfl
theorem okb_slice {w : Nat} {l : List AVal} {o : Bool} : okBox (.slice w l o) = true := rfl
theorem sat_const {af : List AVal} {v : Value} : stripAt af (.const v) = af := rfl
theorem sat_glob {af : List AVal} {v : Nat} : stripAt af (.global v) = af := rfl
theorem sat_func {af : List AVal} {v : FuncId} : stripAt af (.func v) = af := rfl
end Go.VM
