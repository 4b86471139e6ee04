/- Operations that compute a value, further: places, slices, lengths. And 'pureVal', all of them in one. -/
import Derived.Test.YtdbeiialamganaaVMPure
import Derived.Laws.Small
import Derived.Laws.BytesArg
import Derived.Laws.Runes
import Derived.Laws.Cover4
set_option linter.unusedVariables false
namespace Go.VM

def isAggT (P : Program) (t : TypeId) : Bool := match P.underlying t with | some (.struct _) | some (.array _ _) => true | _ => false
def knownT (P : Program) (t : TypeId) : Bool := (P.underlying t).isSome
def sizeT (P : Program) (t : TypeId) : Option Nat := (P.info? t).map (·.size)
/-- offset, size, is it a struct or an array, of a field -/
def fieldI (P : Program) (s : TypeId) (f : Nat) : Option (Nat × Nat × Bool) :=
  match P.underlying s with
  | some (.struct fs) =>
    match fs[f]? with
    | some fl =>
      match sizeT P fl.type with
      | some z => if knownT P fl.type && z ≠ 0 then some (fl.offset, z, isAggT P fl.type) else none
      | none => none
    | none => none
  | _ => none
/-- element size, for an index into a slice -/
def sliceI (P : Program) (t : TypeId) : Option Nat :=
  match P.underlying t with
  | some (.slice e) => sizeT P e
  | _ => none
/-- length and element size of an array -/
def arrayI (P : Program) (t : TypeId) : Option (Nat × Nat × Bool) :=
  match P.underlying t with
  | some (.array n e) => if knownT P e then (sizeT P e).map fun z => (n, z, isAggT P e) else none
  | _ => none
def isStrT (P : Program) (t : TypeId) : Bool := match P.underlying t with | some .string => true | _ => false
def isSliceT (P : Program) (t : TypeId) : Bool := match P.underlying t with | some (.slice _) => true | _ => false
def intT (P : Program) (t : TypeId) : Option IntKind := match P.underlying t with | some (.int k) => some k | _ => none

def unA (op : UnOp) (x : AVal) : Option AVal :=
  match op, x with
  | .neg, .int k n => some (.int k (k.wrap (0 - n)))
  | .xor, .int k n => some (.int k (k.wrap (BitVec.ofInt k.bits (if k.signed then -1 else k.max) ^^^ BitVec.ofInt k.bits n).toNat))
  | .not, .bool b => some (.bool !b)
  | _, _ => none
def convA (E : Env) (s d : TypeId) (x : AVal) : Option AVal :=
  match x with
  | .int _ n => if knownT E.P s then (match intT E.P d with | some k => some (.int k (k.wrap n)) | none => none) else none
  | .str l => if knownT E.P s && isStrT E.P d then some (.str l) else none
  | _ => none
/-- a byte -/
def bchr (n : Int) : UInt8 := UInt8.ofNat n.toNat
def bord (b : UInt8) : Int := b.toNat
def bytesOf : List AVal → Option (List UInt8)
  | [] => some []
  | .int .u8 n :: xs => (bytesOf xs).map (bchr n :: ·)
  | _ => none
/-- is it a slice of bytes? -/
def u8T (P : Program) (t : TypeId) : Bool := match P.underlying t with | some (.slice e) => (match P.underlying e with | some (.int .u8) => true | _ => false) | _ => false
def strOf (g : Bool) (x : Option (List UInt8)) : Option AVal := match g, x with | true, some l => some (.str l) | _, _ => none
/-- the text of a code point -/
def utf8Of (n : Int) : List UInt8 := (Utf8.encode n).data.toList
def convB (E : Env) (s d : TypeId) (x : AVal) : Option AVal :=
  match x with
  | .slice _ xs _ => strOf (u8T E.P s && isStrT E.P d) (bytesOf xs)
  | .int k n => if (knownT E.P s && isStrT E.P d) = true then some (.str (utf8Of n)) else convA E s d (.int k n)
  | x => convA E s d x
def fieldAddrA (E : Env) (s : TypeId) (x : AVal) (f : Nat) : Option AVal :=
  match fieldI E.P s f with
  | some (off, _, _) =>
    match x with
    | .ptr i o => some (.ptr i (o + off))
    | .cptr cs => some (.cptr (cs.drop off))
    | _ => none
  | none => none
def partA (cs : List AVal) (off z : Nat) (agg : Bool) : Option AVal :=
  if agg then (if off + z ≤ cs.length then some (.agg ((cs.drop off).take z)) else none) else cs[off]?
def fieldA (E : Env) (s : TypeId) (x : AVal) (f : Nat) : Option AVal :=
  match fieldI E.P s f, x with
  | some (off, z, g), .agg cs => partA cs off z g
  | _, _ => none
def indexAddrA (E : Env) (t : TypeId) (x i : AVal) : Option AVal :=
  match x, i with
  | .slice w xs _, .int _ n =>
    if sliceI E.P t = some w ∧ 0 ≤ n then
      match xs[n.toNat]? with
      | some y => if (cellsA y).length = w then some (.cptr (cellsA y)) else none
      | none => none
    else none
  | .ptr j o, .int _ n =>
    match arrayI E.P t with
    | some (len, z, _) => if 0 ≤ n ∧ n < len then some (.ptr j (o + n.toNat * z)) else none
    | none => none
  | .cptr cs, .int _ n =>
    match arrayI E.P t with
    | some (len, z, _) => if 0 ≤ n ∧ n < len then some (.cptr (cs.drop (n.toNat * z))) else none
    | none => none
  | _, _ => none
def indexA (E : Env) (t : TypeId) (x i : AVal) : Option AVal :=
  match x, i with
  | .str s, .int _ n =>
    if isStrT E.P t ∧ 0 ≤ n then
      match s[n.toNat]? with
      | some b => some (.int .u8 b.toNat)
      | none => none
    else none
  | .agg cs, .int _ n =>
    match arrayI E.P t with
    | some (len, z, g) => if 0 ≤ n ∧ n < len then partA cs (n.toNat * z) z g else none
    | none => none
  | _, _ => none
def rdo (E : Env) (af : List AVal) : Option Operand → Option (Option Int)
  | none => some none
  | some x => match rd E af 0 x with | .int _ n => some (some n) | _ => none
def sliceA (E : Env) (t : TypeId) (x : AVal) (lo hi mx : Option Int) : Option AVal :=
  match x with
  | .str s =>
    let h := hi.getD s.length
    let l := lo.getD 0
    if isStrT E.P t ∧ mx = none ∧ 0 ≤ l ∧ l ≤ h ∧ h ≤ s.length then some (.str ((s.drop l.toNat).take (h.toNat - l.toNat))) else none
  | .slice w xs _ =>
    let h := hi.getD xs.length
    let l := lo.getD 0
    if sliceI E.P t = some w ∧ (mx = none ∨ (mx = some h ∧ hi ≠ none)) ∧ 0 ≤ l ∧ l ≤ h ∧ h ≤ xs.length then some (.slice w ((xs.drop l.toNat).take (h.toNat - l.toNat)) mx.isSome) else none
  | _ => none
def lenA (E : Env) (t : TypeId) (x : AVal) : Option AVal :=
  match x with
  | .str s => if isStrT E.P t then some (.int .i64 s.length) else none
  | .slice _ xs _ => if isSliceT E.P t then some (.int .i64 xs.length) else none
  | _ => none
def minA (x y : AVal) : Option AVal := match x, y with | .int k a, .int _ b => some (.int k (if b < a then b else a)) | _, _ => none
def maxA (x y : AVal) : Option AVal := match x, y with | .int k a, .int _ b => some (.int k (if b > a then b else a)) | _, _ => none
def nilCheckA (x : AVal) : Option AVal :=
  match x with
  | .ptr i o => some (.ptr i o)
  | .cptr cs => some (.cptr cs)
  | .fn (.func f) p q => some (.fn (.func f) p q)
  | _ => none

/-- what an operation computes, where it leaves the memory alone (its result is a copy: 'strip') -/
def pureVal (E : Env) (o : Oper) (af : List AVal) : Option AVal :=
  match o.op with
  | .pick c x y => match rd E af 0 c with | .bool t => some (if t then rd E af o.type x else rd E af o.type y) | _ => none
  | .nilCheck x => nilCheckA (rd E af 0 x)
  | .binOp op t x y _ => binA E op t (rd E af t x) (rd E af t y)
  | .unOp op _ x => unA op (rd E af 0 x)
  | .convert s d x => convB E s d (rd E af s x)
  | .makeFunc f p q => some (.fn f (p.toList.map (rd E af 0)) (q.toList.map (rd E af 0)))
  | .fieldAddr s x f => fieldAddrA E s (rd E af 0 x) f
  | .field s x f => fieldA E s (rd E af s x) f
  | .indexAddr t x i => indexAddrA E t (rd E af t x) (rd E af 0 i)
  | .index t x i => indexA E t (rd E af t x) (rd E af 0 i)
  | .call { callee := .builtin .len, args := ⟨[x]⟩, argTypes := ⟨t :: _⟩ } => lenA E t (rd E af t x)
  | .call { callee := .builtin .min, args := ⟨[x, y]⟩, argTypes := _ } => minA (rd E af 0 x) (rd E af 0 y)
  | .call { callee := .builtin .max, args := ⟨[x, y]⟩, argTypes := _ } => maxA (rd E af 0 x) (rd E af 0 y)
  | _ => none

section
variable {E : Env} {Γ : Ghost} {w : World}

theorem underlying_of_str {P : Program} {t : TypeId} (h : isStrT P t = true) : P.underlying t = some .string := by unfold isStrT at h; split at h <;> simp_all
theorem underlying_of_int {P : Program} {t : TypeId} {k : IntKind} (h : intT P t = some k) : P.underlying t = some (.int k) := by unfold intT at h; split at h <;> simp_all
theorem underlying_of_known {P : Program} {t : TypeId} (h : knownT P t = true) : ∃ d, P.underlying t = some d := Option.isSome_iff_exists.1 h
theorem underlying_of_sliceI {P : Program} {t : TypeId} {z : Nat} (h : sliceI P t = some z) : ∃ e, P.underlying t = some (.slice e) ∧ sizeT P e = some z := by
  unfold sliceI at h; split at h
  · exact ⟨_, by assumption, h⟩
  · cases h
theorem run_sizeT {t : TypeId} {z : Nat} (h : sizeT E.P t = some z) : (sizeOf t).run E.P w = .ok z w := by
  unfold sizeT at h
  cases hi : E.P.info? t with
  | none => simp [hi] at h
  | some i => simp [hi] at h; simp [sizeOf, typeInfo, hi, h]
theorem run_isAggT {t : TypeId} (h : knownT E.P t = true) : (isAgg t).run E.P w = .ok (isAggT E.P t) w := by
  obtain ⟨d, hd⟩ := underlying_of_known h
  unfold isAggT
  rw [hd]
  cases d <;> simp [isAgg, run_underlying hd]
theorem fieldI_spec {P : Program} {s : TypeId} {f off z : Nat} {g : Bool} (h : fieldI P s f = some (off, z, g)) :
    ∃ fs fl, P.underlying s = some (.struct fs) ∧ fs[f]? = some fl ∧ fl.offset = off ∧ sizeT P fl.type = some z ∧ z ≠ 0 ∧ knownT P fl.type = true ∧ isAggT P fl.type = g := by
  unfold fieldI at h
  split at h
  · rename_i fs hu
    split at h
    · rename_i fl hf
      split at h
      · rename_i z' hz
        split at h
        · rename_i hk
          simp only [Option.some.injEq, Prod.mk.injEq] at h
          obtain ⟨rfl, rfl, rfl⟩ := h
          simp only [Bool.and_eq_true, decide_eq_true_eq] at hk
          exact ⟨fs, fl, hu, hf, rfl, hz, hk.2, hk.1, rfl⟩
        · cases h
      · cases h
    · cases h
  · cases h
theorem arrayI_spec {P : Program} {t : TypeId} {n z : Nat} {g : Bool} (h : arrayI P t = some (n, z, g)) : ∃ e, P.underlying t = some (.array n e) ∧ sizeT P e = some z ∧ knownT P e = true ∧ isAggT P e = g := by
  unfold arrayI at h
  split at h
  · rename_i n' e hu
    split at h
    · rename_i hk
      cases hz : sizeT P e with
      | none => simp [hz] at h
      | some z' =>
        simp only [hz, Option.map_some, Option.some.injEq, Prod.mk.injEq] at h
        obtain ⟨rfl, rfl, rfl⟩ := h
        exact ⟨e, hu, hz, hk, rfl⟩
    · cases h
  · cases h

theorem addr_add (b off n : Nat) : (⟨b, off, none⟩ : Addr).add n = ⟨b, off + n, none⟩ := by
  unfold Addr.add
  split
  · rename_i h; subst h; rfl
  · rfl

theorem unA_sound {op : UnOp} {x r : AVal} {v : Value} (hx : Rep Γ x v) (h : unA op x = some r) : ∃ u, (Op.unary op v).run E.P w = .ok u w ∧ Rep Γ r u := by
  unfold unA at h
  split at h <;> first
    | cases h; done
    | (cases hx; simp only [Option.some.injEq] at h; subst h; exact ⟨_, by simp only [Op.unary, Op.intArith, Op.intBits]; exact Sem.run_pure .., by constructor⟩)

theorem convA_sound {s d : TypeId} {x r : AVal} {v : Value} (hx : Rep Γ x v) (h : convA E s d x = some r) : ∃ u, (convert s d v).run E.P w = .ok u w ∧ Rep Γ r u := by
  unfold convA at h
  split at h
  · rename_i k0 n0
    cases hx
    split at h
    · rename_i hk
      obtain ⟨ds, hs⟩ := underlying_of_known hk
      split at h
      · rename_i k hd
        simp only [Option.some.injEq] at h; subst h
        exact ⟨.int k (k.wrap n0), by simp [convert, run_underlying hs, run_underlying (underlying_of_int hd), Conv.intToInt], .int _ _⟩
      · cases h
    · cases h
  · cases hx
    split at h
    · rename_i hk
      simp only [Bool.and_eq_true] at hk
      obtain ⟨ds, hs⟩ := underlying_of_known hk.1
      simp only [Option.some.injEq] at h; subst h
      rename_i l _
      exact ⟨.string l, by simp [convert, run_underlying hs, run_underlying (underlying_of_str hk.2)], .str _ (by assumption)⟩
    · cases h
  · cases h

theorem RepL.drop {Γ : Ghost} {xs : List AVal} {vs : List Value} (h : RepL Γ xs vs) (n : Nat) : RepL Γ (xs.drop n) (vs.drop n) := by
  induction n generalizing xs vs with
  | zero => simpa using h
  | succ n ih =>
    cases h with
    | nil => simpa using RepL.nil
    | cons h t => simpa using ih t
theorem RepL.take {Γ : Ghost} {xs : List AVal} {vs : List Value} (h : RepL Γ xs vs) (n : Nat) : RepL Γ (xs.take n) (vs.take n) := by
  induction n generalizing xs vs with
  | zero => simpa using RepL.nil
  | succ n ih =>
    cases h with
    | nil => simpa using RepL.nil
    | cons h t => simpa using .cons h (ih t)
/-- a pointer to the rest of the cells -/
theorem cptr_drop {cs : List AVal} {b off n : Nat} (h : Rep Γ (.cptr cs) (.pointer (some ⟨b, off, none⟩))) : Rep Γ (.cptr (cs.drop n)) (.pointer (some ⟨b, off + n, none⟩)) := by
  cases h with
  | cptr hb hd h ho =>
    rename_i cells vs rest
    refine .cptr (vs := vs.drop n) (rest := rest.drop (n - vs.length)) hb ?_ (h.drop n) (fun v hv => ho v (List.mem_of_mem_drop hv))
    rw [← List.drop_drop, hd, List.drop_append]

theorem fieldAddrA_sound {s : TypeId} {x r : AVal} {v : Value} {f : Nat} (hx : Rep Γ x v) (h : fieldAddrA E s x f = some r) : ∃ u, (Instr.fieldAt s v f).run E.P w = .ok u w ∧ Rep Γ r u := by
  unfold fieldAddrA at h
  split at h
  · rename_i off z g hf
    obtain ⟨fs, fl, h1, h2, h3, h4, h5, h6, h7⟩ := fieldI_spec hf
    have key : ∀ b o, (Instr.fieldAt s (.pointer (some ⟨b, o, none⟩)) f).run E.P w = .ok (.pointer (some ⟨b, o + off, none⟩)) w := by
      intro b o
      simp [Instr.fieldAt, run_underlying h1, h2, Instr.sureAddr, fieldPlace, run_sizeT h4, h5, addr_add, h3]
    split at h
    · cases hx; simp only [Option.some.injEq] at h; subst h
      exact ⟨_, key _ _, .ptr (by assumption)⟩
    · cases hx; simp only [Option.some.injEq] at h; subst h
      exact ⟨_, key _ _, cptr_drop (.cptr (by assumption) (by assumption) (by assumption) (by assumption))⟩
    · cases h
  · cases h

theorem partA_sound {t : TypeId} {cs : List AVal} {arr : Array Value} {off z : Nat} {g : Bool} {r : AVal} (hk : knownT E.P t = true) (hg : isAggT E.P t = g) (hz : sizeT E.P t = some z) (hx : RepL Γ cs arr.toList) (ho : ∀ v, v ∈ arr.toList → v.oneCell' = true)
    (h : partA cs off z g = some r) : ∃ u, (part t arr off).run E.P w = .ok u w ∧ Rep Γ r u := by
  unfold partA at h
  have ha : (isAgg t).run E.P w = .ok g w := by rw [run_isAggT hk, hg]
  cases g with
  | true =>
    simp only [if_true] at h
    split at h
    · simp only [Option.some.injEq] at h; subst h
      have e : (arr.extract off (off + z)).toList = (arr.toList.drop off).take z := by
        rw [Array.toList_extract, List.extract_eq_take_drop]; congr 1; omega
      refine ⟨.agg (arr.extract off (off + z)), by simp [part, ha, run_sizeT hz], .agg ?_ ?_⟩
      · rw [e]
        exact (hx.drop _).take _
      · intro v hv
        rw [e] at hv
        exact ho v (List.mem_of_mem_drop (List.mem_of_mem_take hv))
    · cases h
  | false =>
    simp only [Bool.false_eq_true, if_false] at h
    obtain ⟨v, hv, hr⟩ := hx.get? h
    exact ⟨v, by simp [part, ha, (by simpa using hv : arr[off]? = some v)], hr⟩

theorem fieldA_sound {s : TypeId} {x r : AVal} {v : Value} {f : Nat} (hx : Rep Γ x v) (h : fieldA E s x f = some r) : ∃ u, (Instr.field s v f).run E.P w = .ok u w ∧ Rep Γ r u := by
  unfold fieldA at h
  split at h
  · rename_i off z g cs hf
    obtain ⟨fs, fl, h1, h2, h3, h4, h5, h6, h7⟩ := fieldI_spec hf
    cases hx with
    | agg hx ho =>
      rename_i arr
      obtain ⟨u, hu, hr⟩ := partA_sound (w := w) h6 h7 h4 hx ho h
      exact ⟨u, by simp [Instr.field, run_underlying h1, h2, asAgg, h3, hu], hr⟩
  · cases h

theorem RepS.get {Γ : Ghost} {wd : Nat} {xs : List AVal} {cs : List Value} (h : RepS Γ wd xs cs) {i : Nat} {y : AVal} (hy : xs[i]? = some y) : ∃ v rest, cs.drop (i * wd) = v.cells.toList ++ rest ∧ Rep Γ y v ∧ v.cells.size = wd ∧ ∀ c, c ∈ v.cells.toList → c.oneCell' = true := by
  induction xs generalizing cs i with
  | nil => simp at hy
  | cons x xs ih =>
    cases h with
    | cons h hw t =>
      rename_i v cs
      cases i with
      | zero => simp at hy; subst hy; exact ⟨v, cs, by simp, h, hw⟩
      | succ i =>
        obtain ⟨u, rest, e1, e2, e3⟩ := ih t (by simpa using hy)
        refine ⟨u, rest, ?_, e2, e3⟩
        rw [← e1, Nat.succ_mul, Nat.add_comm, ← List.drop_drop, List.drop_left' (by simpa using hw.1)]
theorem RepS.drop {Γ : Ghost} {wd : Nat} {xs : List AVal} {cs : List Value} (h : RepS Γ wd xs cs) (n : Nat) : RepS Γ wd (xs.drop n) (cs.drop (n * wd)) := by
  induction n generalizing xs cs with
  | zero => simpa using h
  | succ n ih =>
    cases h with
    | nil => simpa using RepS.nil _ _
    | cons h hw t =>
      rename_i x u xs cs'
      have e : (u.cells.toList ++ cs').drop ((n + 1) * wd) = cs'.drop (n * wd) := by
        rw [Nat.succ_mul, Nat.add_comm, ← List.drop_drop, List.drop_left' (by simpa using hw.1)]
      rw [e]
      exact ih t
theorem RepS.take {Γ : Ghost} {wd : Nat} {xs : List AVal} {cs : List Value} (h : RepS Γ wd xs cs) (n : Nat) : RepS Γ wd (xs.take n) cs := by
  induction n generalizing xs cs with
  | zero => simpa using RepS.nil _ _
  | succ n ih =>
    cases h with
    | nil => simpa using RepS.nil _ _
    | cons h hw t => exact .cons h hw (ih t)
theorem RepS.len {Γ : Ghost} {wd : Nat} {xs : List AVal} {cs : List Value} (h : RepS Γ wd xs cs) : xs.length * wd ≤ cs.length := by
  induction xs generalizing cs with
  | nil => simp
  | cons x xs ih =>
    cases h with
    | cons h hw t =>
      have := ih t
      have hw := hw.1
      simp only [List.length_cons, List.length_append, Array.length_toList, Nat.succ_mul]
      omega

theorem indexAt_array {t e : TypeId} {len z b o : Nat} {k : IntKind} {n : Int} (hu : E.P.underlying t = some (.array len e)) (hz : sizeT E.P e = some z) (h1 : 0 ≤ n) (h2 : n < len) :
    (Instr.indexAt t (.pointer (some ⟨b, o, none⟩)) (.int k n)).run E.P w = .ok (.pointer (some ⟨b, o + n.toNat * z, none⟩)) w := by
  simp [Instr.indexAt, asIntOf, run_underlying hu, Instr.sureAddr, h1, h2, run_sizeT hz, addr_add]

theorem indexAddrA_sound {t : TypeId} {x i r : AVal} {v vi : Value} (hx : Rep Γ x v) (hi : Rep Γ i vi) (h : indexAddrA E t x i = some r) : ∃ u, (Instr.indexAt t v vi).run E.P w = .ok u w ∧ Rep Γ r u := by
  unfold indexAddrA at h
  split at h
  · rename_i wd xs o k n
    cases hi
    split at h
    · rename_i hc
      obtain ⟨hs, hn⟩ := hc
      obtain ⟨e, hu, hz⟩ := underlying_of_sliceI hs
      split at h
      · rename_i y hy
        split at h
        · rename_i hl
          simp only [Option.some.injEq] at h; subst h
          cases hx with
          | snil => simp at hy
          | slice _ hb hlen hcap hS =>
            rename_i b off len cap cells
            have hlt : n.toNat < len := by rw [← hlen]; exact (List.getElem?_eq_some_iff.1 hy).1
            obtain ⟨u, rest, e1, e2, e3⟩ := hS.get hy
            refine ⟨.pointer (some ⟨b, off + n.toNat * wd, none⟩), ?_, ?_⟩
            · have h2 : n < (len : Int) := by omega
              simp [Instr.indexAt, asIntOf, run_underlying hu, hn, h2, run_sizeT hz, addr_add]
            · refine .cptr hb (by rw [← List.drop_drop]; exact e1) (e2.cells (by rw [hl, e3.1])) e3.2
        · cases h
      · cases h
    · cases h
  · rename_i j o k n
    cases hi; cases hx
    split at h
    · rename_i b hbx _ len z g ha
      obtain ⟨e, hu, hz, _, _⟩ := arrayI_spec ha
      split at h
      · rename_i hc
        simp only [Option.some.injEq] at h; subst h
        exact ⟨_, indexAt_array hu hz hc.1 hc.2, .ptr hbx⟩
      · cases h
    · cases h
  · rename_i cs k n
    cases hi
    split at h
    · rename_i len z g ha
      obtain ⟨e, hu, hz, _, _⟩ := arrayI_spec ha
      split at h
      · rename_i hc
        simp only [Option.some.injEq] at h; subst h
        have hx' := hx
        cases hx with
        | cptr hb hd hR => exact ⟨_, indexAt_array hu hz hc.1 hc.2, cptr_drop hx'⟩
      · cases h
    · cases h
  · cases h

theorem bytes_get (s : ByteArray) (i : Nat) : s[i]? = s.data.toList[i]? := by
  by_cases h : i < s.size
  · rw [ByteArray.getElem?_lt' s i h]
    have : i < s.data.toList.length := by rw [Array.length_toList]; exact h
    rw [List.getElem?_eq_getElem this]; rfl
  · rw [ByteArray.getElem?_ge' s i h]
    have : s.data.toList.length ≤ i := by rw [Array.length_toList]; exact Nat.le_of_not_lt h
    rw [List.getElem?_eq_none this]

theorem indexA_sound {t : TypeId} {x i r : AVal} {v vi : Value} (hx : Rep Γ x v) (hi : Rep Γ i vi) (h : indexA E t x i = some r) : ∃ u, (Instr.index t v vi).run E.P w = .ok u w ∧ Rep Γ r u := by
  unfold indexA at h
  split at h
  · cases hi
    cases hx with
    | str s hsn =>
    split at h
    · rename_i k n hc
      split at h
      · rename_i b hb
        simp only [Option.some.injEq] at h; subst h
        have hb' : s.data[n.toNat]? = some b := by simpa using hb
        exact ⟨.int .u8 b.toNat, by simp [Instr.index, asIntOf, run_underlying (underlying_of_str hc.1), hc.2, bytes_get, hb'], .int _ _⟩
      · cases h
    · cases h
  · cases hi
    cases hx with
    | agg hx ho =>
    split at h
    · rename_i k n len z g ha
      obtain ⟨e, hu, hz, hk, hg⟩ := arrayI_spec ha
      split at h
      · rename_i hc
        obtain ⟨u, hr, hR⟩ := partA_sound (w := w) hk hg hz hx ho h
        exact ⟨u, by simp [Instr.index, asIntOf, run_underlying hu, hc.1, hc.2, run_sizeT hz, hr], hR⟩
      · cases h
    · cases h
  · cases h


/-- a bound that was read -/
theorem rdo_sound {F : Nat → Nat} {st : St} {af : List AVal} {a : Act} (hs : Sim E F Γ st w af a.tmps.toList) {x : Option Operand} {y : Option Int} (h : rdo E af x = some y) :
    ∃ k, x.map a.eval = y.map (fun n => Value.int k n) := by
  unfold rdo at h
  split at h
  · simp only [Option.some.injEq] at h; subst h; exact ⟨.i64, rfl⟩
  · rename_i o
    have hr := hs.rd 0 o
    split at h
    · rename_i k n e
      simp only [Option.some.injEq] at h; subst h
      rw [e] at hr
      cases hr' : a.eval o <;> rw [hr'] at hr <;> cases hr
      exact ⟨k, by simp [hr']⟩
    · cases h

/-- the three bounds -/
theorem sliceBounds_ok {isSlice : Bool} {len cap : Nat} {kl kh km : IntKind} {lo hi mx : Option Int} {l h m : Int} (el : lo.getD 0 = l) (eh : hi.getD len = h) (em : mx.getD cap = m) (h0 : 0 ≤ l) (h1 : l ≤ h) (h2 : h ≤ m) (h3 : m ≤ cap) (hm : mx.isSome = true → hi.isSome = true) :
    (Instr.sliceBounds isSlice len cap (lo.map fun n => Value.int kl n) (hi.map fun n => Value.int kh n) (mx.map fun n => Value.int km n)).run E.P w = .ok (l.toNat, h.toNat, m.toNat) w := by
  cases lo <;> cases hi <;> cases mx <;> simp only [Option.getD_none, Option.getD_some, Option.isSome_none, Option.isSome_some, forall_const, Bool.false_eq_true] at el eh em hm
  all_goals subst el; subst eh; subst em
  all_goals (try simp only [Int.toNat_natCast] at *)
  all_goals simp only [Instr.sliceBounds, Option.map_none, Option.map_some, Sem.run_bind, Sem.run_pure, Result.andThen_ok, Option.isSome_none, Option.isSome_some, if_true, Bool.false_eq_true, if_false]
  all_goals (try simp only [run_sliceBound_if])
  all_goals (try rw [if_pos ⟨by omega, by omega⟩])
  all_goals (try simp only [Result.andThen_ok])
  all_goals (try rw [if_pos ⟨by omega, by omega⟩])
  all_goals (try simp only [Result.andThen_ok])
  all_goals (try rw [if_pos ⟨by omega, by omega⟩])
  all_goals (try simp only [Result.andThen_ok])
  all_goals rfl

theorem sliceA_sound {t : TypeId} {x r : AVal} {v : Value} {lo hi mx : Option Int} {kl kh km : IntKind} (hx : Rep Γ x v) (h : sliceA E t x lo hi mx = some r) :
    ∃ u, (Instr.sliceAt t v (lo.map fun n => Value.int kl n) (hi.map fun n => Value.int kh n) (mx.map fun n => Value.int km n)).run E.P w = .ok u w ∧ Rep Γ r u ∧ (∀ b, cnt b r u = 0) ∧ own Γ w r u := by
  unfold sliceA at h
  split at h
  · cases hx with
    | str s hsn =>
    simp only at h
    split at h
    · rename_i hc
      obtain ⟨ht, hm, h0, h1, h2⟩ := hc
      simp only [Option.some.injEq] at h; subst h; subst hm
      have hu := underlying_of_str ht
      have hl : s.data.toList.length = s.size := by rw [Array.length_toList]; rfl
      rw [hl] at *
      have key := sliceBounds_ok (E := E) (w := w) (isSlice := false) (len := s.size) (cap := s.size) (kl := kl) (kh := kh) (km := km) (lo := lo) (hi := hi) (mx := none) rfl rfl rfl h0 h1 h2 (by simp) (by simp)
      refine ⟨.string (s.extract (lo.getD 0).toNat (hi.getD s.size).toNat), ?_, ?_, fun b => by simp [cnt], by simp [own]⟩
      · simp only [Option.map_none] at key
        simp [Instr.sliceAt, run_underlying hu, Instr.slice, key]
      · have e : ((s.data.toList.drop (lo.getD 0).toNat).take ((hi.getD s.size).toNat - (lo.getD 0).toNat)) = (s.extract (lo.getD 0).toNat (hi.getD s.size).toNat).data.toList := by
          simp [ByteArray.data_extract, List.extract_eq_take_drop]
        rw [e]; exact .str _ (by rw [← e, List.length_take, List.length_drop]; omega)
    · cases h
  · rename_i wd xs o
    simp only at h
    split at h
    · rename_i hc
      obtain ⟨ht, hm, h0, h1, h2⟩ := hc
      obtain ⟨e, hu, hz⟩ := underlying_of_sliceI ht
      simp only [Option.some.injEq] at h; subst h
      -- the value's length and capacity
      obtain ⟨base, len, cap, rfl, hlen, hcap⟩ : ∃ base len cap, v = .slice base len cap ∧ xs.length = len ∧ len ≤ cap := by
        cases hx with
        | snil => exact ⟨_, 0, 0, rfl, rfl, Nat.le_refl _⟩
        | slice _ hb hl hc hS => exact ⟨_, _, _, rfl, hl, hc.1⟩
      subst hlen
      have hmm : mx.getD cap = mx.getD cap := rfl
      have key := sliceBounds_ok (E := E) (w := w) (isSlice := true) (len := xs.length) (cap := cap) (kl := kl) (kh := kh) (km := km) (lo := lo) (hi := hi) (mx := mx) rfl rfl rfl h0 h1
        (by rcases hm with rfl | ⟨rfl, _⟩ <;> simp <;> omega) (by rcases hm with rfl | ⟨rfl, _⟩ <;> simp <;> omega) (by rcases hm with rfl | ⟨rfl, h⟩ <;> simp; cases hi <;> simp_all)
      generalize hl' : lo.getD 0 = l at *
      generalize hh' : hi.getD xs.length = hh at *
      generalize hm' : (mx.getD cap).toNat = m at *
      refine ⟨.slice (if m = l.toNat then base else base.map (·.add (l.toNat * wd))) (hh.toNat - l.toNat) (m - l.toNat), ?_, ?_, ?_, ?_⟩
      · simp [Instr.sliceAt, run_underlying hu, Instr.slice, key, run_sizeT hz]
      · have hle : hh.toNat ≤ m := by
          rcases hm with rfl | ⟨rfl, _⟩ <;> simp at hm' <;> omega
        cases hx with
        | snil =>
          have hh0 : hh.toNat = 0 := by simp at h2; omega
          have hl0 : l.toNat = 0 := by omega
          have hm0 : m = 0 := by
            rcases hm with rfl | ⟨rfl, _⟩ <;> simp at hm' <;> omega
          rw [hh0, hl0, hm0]
          simp only [List.take_nil, List.drop_nil, if_true, Nat.sub_self]
          exact .snil _ _ _
        | slice _ hb hl hc hS =>
          rename_i b off cells
          have hlen : ((xs.drop l.toNat).take (hh.toNat - l.toNat)).length = hh.toNat - l.toNat := by simp; omega
          by_cases hml : m = l.toNat
          · have h00 : hh.toNat - l.toNat = 0 := by omega
            rw [if_pos hml, h00, hml]
            simp only [List.take_zero, Nat.sub_self]
            exact .slice _ hb rfl ⟨Nat.le_refl _, Nat.zero_le _⟩ (.nil _ _)
          · rw [if_neg hml]
            simp only [Option.map_some, addr_add]
            refine .slice _ hb hlen ⟨by omega, by have := hc.2; omega⟩ ?_
            rw [← List.drop_drop]
            exact (hS.drop _).take _
      · intro b
        cases hmx : mx with
        | none => simp [cnt]
        | some z =>
          have : m = hh.toNat := by rcases hm with h | ⟨h, _⟩ <;> simp_all
          simp only [Option.isSome_some, cnt]
          unfold cntTip
          split
          · rename_i e
            simp only [Value.slice.injEq] at e
            rw [if_neg]; omega
          · rfl
      · cases hmx : mx with
        | none => simp [own]
        | some z =>
          have : m = hh.toNat := by rcases hm with h | ⟨h, _⟩ <;> simp_all
          simp only [Option.isSome_some, own]
          unfold ownTip
          split
          · rename_i e
            simp only [Value.slice.injEq] at e
            intro hlt; omega
          · trivial
    · cases h
  · cases h

theorem lenA_sound {t ty : TypeId} {ts : List TypeId} {x r : AVal} {v : Value} (hx : Rep Γ x v) (h : lenA E t x = some r) : ∃ u, (Builtin.len_ ⟨t :: ts⟩ ty #[v]).run E.P w = .ok u w ∧ Rep Γ r u := by
  unfold lenA at h
  split at h
  · cases hx with
    | str s hsn =>
    split at h
    · rename_i ht
      simp only [Option.some.injEq] at h; subst h
      have e : (s.data.toList.length : Int) = s.size := by rw [Array.length_toList]; rfl
      rw [e]
      exact ⟨.int .i64 s.size, by simp [Builtin.len_, run_underlying (underlying_of_str ht), goInt], .int _ _⟩
    · cases h
  · rename_i wd xs o
    split at h
    · rename_i ht
      obtain ⟨e, hu⟩ : ∃ e, E.P.underlying t = some (.slice e) := by unfold isSliceT at ht; split at ht <;> simp_all
      simp only [Option.some.injEq] at h; subst h
      obtain ⟨base, len, cap, rfl, hlen⟩ : ∃ base len cap, v = .slice base len cap ∧ xs.length = len := by
        cases hx with
        | snil => exact ⟨_, 0, 0, rfl, rfl⟩
        | slice _ hb hl hc hS => exact ⟨_, _, _, rfl, hl⟩
      rw [hlen]
      exact ⟨.int .i64 len, by simp [Builtin.len_, run_underlying hu, goInt], .int _ _⟩
    · cases h
  · cases h

theorem RepL.map_rd {F : Nat → Nat} {st : St} {af : List AVal} {a : Act} (hs : Sim E F Γ st w af a.tmps.toList) (t : TypeId) (l : List Operand) : RepL Γ (l.map (rd E af t)) (l.map a.eval) := by
  induction l with
  | nil => exact .nil
  | cons x l ih => exact .cons (hs.rd t x) ih

theorem bytesOf_spec {Γ : Ghost} : ∀ {xs : List AVal} {l : List UInt8} {cs : List Value}, bytesOf xs = some l → RepS Γ 1 xs cs → ∃ ns : List Int, ns.length = xs.length ∧ (∀ j, j < ns.length → cs[j]? = some (.int .u8 (ns.getD j 0))) ∧ l = ns.map bchr
  | [], l, cs, h, _ => by simp [bytesOf] at h; subst h; exact ⟨[], rfl, by simp, rfl⟩
  | x :: xs, l, cs, h, hr => by
    cases hr with
    | cons hx hw t =>
      rename_i v cs
      unfold bytesOf at h
      split at h
      · rename_i e; cases e
      · rename_i n xs' e
        cases e
        cases hx
        cases hb : bytesOf xs with
        | none => simp [hb] at h
        | some l' =>
          simp [hb] at h; subst h
          obtain ⟨ns, h1, h2, h3⟩ := bytesOf_spec hb t
          refine ⟨n :: ns, by simp [h1], ?_, by simp [h3]⟩
          intro j hj
          have ec : (Value.int IntKind.u8 n).cells.toList = [.int .u8 n] := rfl
          rw [ec]
          cases j with
          | zero => simp
          | succ j => simpa using h2 j (by simpa using hj)
      · cases h
theorem u8T_spec {P : Program} {t : TypeId} (h : u8T P t = true) : ∃ e, P.underlying t = some (.slice e) ∧ P.underlying e = some (.int .u8) := by
  unfold u8T at h
  split at h
  · rename_i e he
    split at h
    · rename_i h2; exact ⟨e, he, h2⟩
    · cases h
  · cases h
theorem convB_sound {F : Nat → Nat} {st : St} {af : List AVal} {a : Act} {s d : TypeId} {o : Operand} {r : AVal} (hs : Sim E F Γ st w af a.tmps.toList) (h : convB E s d (rd E af s o) = some r) : ∃ u, (convert s d (a.eval o)).run E.P w = .ok u w ∧ Rep Γ r u := by
  have hx := hs.rd s o
  generalize rd E af s o = x at *
  generalize a.eval o = v at *
  unfold convB at h
  split at h
  · rename_i wd xs ow
    unfold strOf at h
    split at h
    · rename_i l hg hb
      simp only [Bool.and_eq_true] at hg
      simp only [Option.some.injEq] at h; subst h
      obtain ⟨e, h1, h2⟩ := u8T_spec hg.1
      have h3 := underlying_of_str hg.2
      cases hx with
      | snil _ _ ad =>
        simp [bytesOf] at hb; subst hb
        cases ad with
        | some ad =>
          have hl : (loadCells ad 0).run E.P w = .ok (([] : List Int).map (Value.int .u8)).toArray w := run_loadCells_list (P := E.P) w ad [] (fun j v hj => by simp at hj)
          refine ⟨.string ByteArray.empty, ?_, Rep.str (Γ := Γ) ByteArray.empty (Nat.zero_le _)⟩
          rw [run_convert_bytes_string w s d e (some ad) 0 0 h1 h2 h3, run_bytesToString w ad 0 0 [] hl]
          rfl
        | none =>
        exact ⟨_, run_convert_bytes_nil w s e h1 h2 0 0 d h3, Rep.str (Γ := Γ) ByteArray.empty (Nat.zero_le _)⟩
      | slice _ hb' hl hc hr =>
        rename_i b off len cap cells
        have hr0 := hr
        have hwd : wd = 1 ∨ xs = [] := by
          generalize cells.drop off = cs0 at hr
          cases xs with
          | nil => exact .inr rfl
          | cons x xs =>
            cases hr with
            | cons hx hw t =>
              unfold bytesOf at hb
              split at hb
              · rename_i e'; cases e'
              · rename_i n xs' e'; cases e'; cases hx; exact .inl hw.1.symm
              · cases hb
        have hr1 : RepS Γ 1 xs (cells.drop off) := by
          rcases hwd with rfl | rfl
          · exact hr0
          · exact .nil _ _
        obtain ⟨ns, n1, n2, n3⟩ := bytesOf_spec hb hr1
        obtain ⟨arr, e', fz, hh, ds, hds⟩ := hs.com_ok _ _ hb'
        have hcell : ∀ i, i < len → w.cell? ⟨b, off + i, none⟩ = some (.int .u8 (ns.getD i 0)) := by
          intro i hi
          have q := n2 i (by omega)
          have q1 : cells[off + i]? = some (.int .u8 (ns.getD i 0)) := by rw [← List.getElem?_drop]; exact q
          have q2 : arr.toList[off + i]? = some (.int .u8 (ns.getD i 0)) := by
            rw [hds, List.getElem?_append_left (List.getElem?_eq_some_iff.1 q1).1]; exact q1
          simp only [World.cell?, hh]
          simpa using q2
        have key := run_convert_bytes_arg w s e h1 h2 b off len cap ns (by omega) hcell d h3
        refine ⟨_, key, ?_⟩
        have hsz : (strOfNums ns).data.toList = l := by rw [strOfNums_data, n3]; rfl
        rw [← hsz]
        exact .str _ (by rw [strOfNums_data, List.length_map]; omega)
    · cases h
  · rename_i k n
    split at h
    · rename_i hg
      simp only [Bool.and_eq_true] at hg
      simp only [Option.some.injEq] at h; subst h
      cases hx
      refine ⟨_, run_convert_int_string w s d k n (by unfold knownT at hg; exact hg.1) (underlying_of_str hg.2), ?_⟩
      exact .str _ (by
        have := encode_size_le n
        have e1 : (Utf8.encode n).data.toList.length = (Utf8.encode n).size := by rw [Array.length_toList]; rfl
        rw [e1]; unfold maxN; omega)
    · exact convA_sound hx h
  · exact convA_sound hx h
theorem pureVal_sound {F : Nat → Nat} {st : St} {af : List AVal} {a : Act} {o : Oper} {r : AVal} (hs : Sim E F Γ st w af a.tmps.toList) (h : pureVal E o af = some r) :
    ∃ v, (execOp a.eval o).run E.P w = .ok (.value v) w ∧ Rep Γ r v := by
  unfold pureVal at h
  split at h
  · -- pick
    rename_i c x y hop
    have hc := hs.rd 0 c
    split at h
    · rename_i t e
      rw [e] at hc
      simp only [Option.some.injEq] at h; subst h
      cases hc' : a.eval c <;> rw [hc'] at hc <;> cases hc
      refine ⟨if t then a.eval x else a.eval y, by simp [execOp, hop, hc', asBool], ?_⟩
      cases t
      · exact hs.rd _ y
      · exact hs.rd _ x
    · cases h
  · -- nilCheck
    rename_i x hop
    have hx := hs.rd 0 x
    generalize hv : a.eval x = v at hx
    unfold nilCheckA at h
    split at h
    · rename_i e; rw [e] at hx; simp only [Option.some.injEq] at h; subst h
      refine ⟨v, ?_, hx⟩
      cases hx; simp [execOp, hop, hv]
    · rename_i e; rw [e] at hx; simp only [Option.some.injEq] at h; subst h
      refine ⟨v, ?_, hx⟩
      cases hx; simp [execOp, hop, hv]
    · rename_i e; rw [e] at hx; simp only [Option.some.injEq] at h; subst h
      refine ⟨v, ?_, hx⟩
      cases hx; simp [execOp, hop, hv]
    · cases h
  · -- binOp
    rename_i op t x y u hop
    obtain ⟨v, hv, hr⟩ := binA_sound (w := w) (ox := x) (oy := y) (hs.rd t x) (hs.rd t y) h
    refine ⟨v, ?_, hr⟩
    simp only [execOp, hop]
    rw [Sem.run_bind, hv]; rfl
  · -- unOp
    rename_i op t x hop
    obtain ⟨v, hv, hr⟩ := unA_sound (w := w) (E := E) (hs.rd 0 x) h
    exact ⟨v, by simp [execOp, hop, hv], hr⟩
  · -- convert
    rename_i s d x hop
    obtain ⟨v, hv, hr⟩ := convB_sound (w := w) hs h
    exact ⟨v, by simp [execOp, hop, hv], hr⟩
  · -- makeFunc
    rename_i f p q hop
    simp only [Option.some.injEq] at h; subst h
    refine ⟨.func f (p.map a.eval) (q.map a.eval), by simp [execOp, hop, Instr.makeFunc], .fn ?_ ?_⟩
    · rw [Array.toList_map]; exact RepL.map_rd hs 0 _
    · rw [Array.toList_map]; exact RepL.map_rd hs 0 _
  · -- fieldAddr
    rename_i s x f hop
    obtain ⟨v, hv, hr⟩ := fieldAddrA_sound (w := w) (hs.rd 0 x) h
    exact ⟨v, by simp [execOp, hop, hv], hr⟩
  · -- field
    rename_i s x f hop
    obtain ⟨v, hv, hr⟩ := fieldA_sound (w := w) (hs.rd s x) h
    exact ⟨v, by simp [execOp, hop, hv], hr⟩
  · -- indexAddr
    rename_i t x i hop
    obtain ⟨v, hv, hr⟩ := indexAddrA_sound (w := w) (hs.rd t x) (hs.rd 0 i) h
    exact ⟨v, by simp [execOp, hop, hv], hr⟩
  · -- index
    rename_i t x i hop
    obtain ⟨v, hv, hr⟩ := indexA_sound (w := w) (hs.rd t x) (hs.rd 0 i) h
    exact ⟨v, by simp [execOp, hop, hv], hr⟩
  · -- len
    rename_i x t ts hop
    obtain ⟨v, hv, hr⟩ := lenA_sound (w := w) (ty := o.type) (ts := ts) (hs.rd t x) h
    refine ⟨v, ?_, hr⟩
    have e : (Array.map a.eval #[x]) = #[a.eval x] := by simp
    simp [execOp, hop, resolve, invoke, builtin, e, hv]
  · -- min
    rename_i x y ts hop
    have hx := hs.rd 0 x
    have hy := hs.rd 0 y
    unfold minA at h
    split at h
    · rename_i k p k' q e1 e2
      rw [e1] at hx; rw [e2] at hy
      simp only [Option.some.injEq] at h; subst h
      cases hx' : a.eval x <;> rw [hx'] at hx <;> cases hx
      cases hy' : a.eval y <;> rw [hy'] at hy <;> cases hy
      refine ⟨.int k (if q < p then q else p), ?_, .int _ _⟩
      have e : (Array.map a.eval #[x, y]) = #[a.eval x, a.eval y] := by simp
      simp [execOp, hop, resolve, invoke, builtin, e, hx', hy', run_min_int2]
    · cases h
  · -- max
    rename_i x y ts hop
    have hx := hs.rd 0 x
    have hy := hs.rd 0 y
    unfold maxA at h
    split at h
    · rename_i k p k' q e1 e2
      rw [e1] at hx; rw [e2] at hy
      simp only [Option.some.injEq] at h; subst h
      cases hx' : a.eval x <;> rw [hx'] at hx <;> cases hx
      cases hy' : a.eval y <;> rw [hy'] at hy <;> cases hy
      refine ⟨.int k (if q > p then q else p), ?_, .int _ _⟩
      have e : (Array.map a.eval #[x, y]) = #[a.eval x, a.eval y] := by simp
      simp [execOp, hop, resolve, invoke, builtin, e, hx', hy', run_max_int2]
    · cases h
  · cases h
end
end Go.VM
