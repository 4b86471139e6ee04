/- What decompiled functions are made of, and how a walk follows one. -/
import Derived.Test.YtdbeiialamganaaVMStep
set_option linter.unusedVariables false
namespace Go.VM

def grd {α : Type} (c : Prop) [Decidable c] (x : Option α) : Option α := if c then x else none
def joinK {α β : Type} (k : α → Option β) (body : (α → Option β) → Option β) : Option β := body k
theorem grd_some {α : Type} {c : Prop} [Decidable c] {x : Option α} {r : α} (h : grd c x = some r) : c ∧ x = some r := by
  unfold grd at h; split at h
  · exact ⟨by assumption, h⟩
  · cases h
theorem joinK_some {α β : Type} {k : α → Option β} {body : (α → Option β) → Option β} {r : β} (h : joinK k body = some r) : ∃ k' : α → Option β, (∀ x y, k' x = some y → k x = some y) ∧ body k' = some r := ⟨k, fun _ _ h => h, h⟩
theorem ite_some {α : Type} {c : Bool} {x y : Option α} {r : α} (h : (if c = true then x else y) = some r) : (c = true ∧ x = some r) ∨ (c = false ∧ y = some r) := by
  cases c
  · exact .inr ⟨rfl, h⟩
  · exact .inl ⟨rfl, h⟩
theorem bind_some {α β : Type} {x : Option α} {f : α → Option β} {r : β} (h : Option.bind x f = some r) : ∃ y, x = some y ∧ f y = some r := by
  cases x with
  | none => cases h
  | some y => exact ⟨y, rfl, h⟩

def letL {α β : Type} (x : α) (f : α → Option β) : Option β := f x
theorem letL_some {α β : Type} {x : α} {f : α → Option β} {r : β} (h : letL x f = some r) : ∃ y, x = y ∧ f y = some r := ⟨x, rfl, h⟩
theorem letL_elim {α β : Type} {x : α} {f : α → Option β} {r : β} {P : Prop} (h : letL x f = some r) (k : ∀ y, x = y → f y = some r → P) : P := k x rfl h
/-- an element, a part -/
def idx {α : Type} (l : List α) (i : Int) : Option α := if 0 ≤ i then l[i.toNat]? else none
def sub {α : Type} (l : List α) (a b : Int) : Option (List α) := if 0 ≤ a ∧ a ≤ b ∧ b ≤ l.length then some ((l.drop a.toNat).take (b.toNat - a.toNat)) else none
theorem idx_map {α β : Type} (f : α → β) (l : List α) (i : Int) : idx (l.map f) i = (idx l i).map f := by
  unfold idx; split <;> simp
theorem sub_map {α β : Type} (f : α → β) (l : List α) (a b : Int) : sub (l.map f) a b = (sub l a b).map (List.map f) := by
  unfold sub; simp only [List.length_map]; split <;> simp [List.map_take, List.map_drop]
/-- what grows by append -/
def fitsA (n b : Nat) : Prop := n * b ≤ 140737488355328 ∧ n ≤ 4611686018427387904
instance (n b : Nat) : Decidable (fitsA n b) := by unfold fitsA; infer_instance
/-- a text's length -/
def fitsS (n : Nat) : Prop := n ≤ 4611686018427387904
instance (n : Nat) : Decidable (fitsS n) := by unfold fitsS; infer_instance
/-- numbers -/
def wr (k : IntKind) (n : Int) : Int := k.wrap n
def bandI (k : IntKind) (a b : Int) : Int := k.wrap (BitVec.ofInt k.bits a &&& BitVec.ofInt k.bits b).toNat
def borI (k : IntKind) (a b : Int) : Int := k.wrap (BitVec.ofInt k.bits a ||| BitVec.ofInt k.bits b).toNat
def bxorI (k : IntKind) (a b : Int) : Int := k.wrap (BitVec.ofInt k.bits a ^^^ BitVec.ofInt k.bits b).toNat
def bandNotI (k : IntKind) (a b : Int) : Int := k.wrap (BitVec.ofInt k.bits a &&& ~~~ BitVec.ofInt k.bits b).toNat
def shlI (k : IntKind) (x y : Int) : Int := k.wrap (x * 2 ^ min y.toNat k.bits)
def shrI (k : IntKind) (x y : Int) : Int := x.fdiv (2 ^ min y.toNat k.bits)

section
variable {E : Env} {st : St} {af : List AVal}

def idxR (e : Option Nat) (w : Nat) (y : Option AVal) : Option AVal :=
  match y with
  | some y => if e = some w ∧ (cellsA y).length = w then some (.cptr (cellsA y)) else none
  | none => none
theorem ia_slice {t : TypeId} {w : Nat} {xs : List AVal} {o : Bool} {k : IntKind} {n : Int} : indexAddrA E t (.slice w xs o) (.int k n) = idxR (sliceI E.P t) w (idx xs n) := by
  simp only [indexAddrA, idxR, idx]
  by_cases h1 : sliceI E.P t = some w <;> by_cases h2 : 0 ≤ n <;> simp [h1, h2] <;> cases xs[n.toNat]? <;> simp
theorem idxR_some {e : Option Nat} {w : Nat} {y : AVal} : idxR e w (some y) = if e = some w ∧ (cellsA y).length = w then some (.cptr (cellsA y)) else none := rfl
def idxS (b : Bool) (x : Option UInt8) : Option AVal := match x with | some c => if b = true then some (.int .u8 c.toNat) else none | none => none
theorem in_str {t : TypeId} {s : List UInt8} {k : IntKind} {n : Int} : indexA E t (.str s) (.int k n) = idxS (isStrT E.P t) (idx s n) := by
  simp only [indexA, idxS, idx]
  cases isStrT E.P t <;> by_cases h2 : 0 ≤ n <;> simp [h2] <;> cases s[n.toNat]? <;> simp
theorem idxS_some {c : UInt8} : idxS true (some c) = some (.int .u8 (bord c)) := rfl
def subS (b : Bool) (x : Option (List UInt8)) : Option AVal := match x with | some s => if b = true then some (.str s) else none | none => none
theorem sl_str {t : TypeId} {s : List UInt8} {lo hi : Option Int} : sliceA E t (.str s) lo hi none = subS (isStrT E.P t) (sub s (lo.getD 0) (hi.getD s.length)) := by
  simp only [sliceA, subS, sub]
  by_cases h : 0 ≤ lo.getD 0 ∧ lo.getD 0 ≤ hi.getD s.length ∧ hi.getD s.length ≤ s.length
  · rw [if_pos h]
    cases isStrT E.P t
    · rw [if_neg (by simp)]; rfl
    · rw [if_pos ⟨rfl, trivial, h⟩]; rfl
  · rw [if_neg h, if_neg (fun k => h k.2.2)]
theorem subS_some {s : List UInt8} : subS true (some s) = some (.str s) := rfl
def subL (e : Option Nat) (w : Nat) (o : Bool) (x : Option (List AVal)) : Option AVal := match x with | some s => if e = some w then some (.slice w s o) else none | none => none
theorem sl_slice {t : TypeId} {w : Nat} {xs : List AVal} {o : Bool} {lo hi : Option Int} : sliceA E t (.slice w xs o) lo hi none = subL (sliceI E.P t) w false (sub xs (lo.getD 0) (hi.getD xs.length)) := by
  simp only [sliceA, subL, sub]
  by_cases h1 : sliceI E.P t = some w
  · simp [h1]
    by_cases h : 0 ≤ lo.getD 0 ∧ lo.getD 0 ≤ hi.getD xs.length ∧ hi.getD xs.length ≤ xs.length <;> simp [h]
  · simp [h1]; split <;> simp_all
theorem sl_slice3 {t : TypeId} {w : Nat} {xs : List AVal} {o : Bool} {lo : Option Int} {h : Int} : sliceA E t (.slice w xs o) lo (some h) (some h) = subL (sliceI E.P t) w true (sub xs (lo.getD 0) h) := by
  simp only [sliceA, subL, sub]
  by_cases h1 : sliceI E.P t = some w
  · simp [h1]
    by_cases hh : 0 ≤ lo.getD 0 ∧ lo.getD 0 ≤ h ∧ h ≤ xs.length <;> simp [hh]
  · simp [h1]; split <;> simp_all
theorem subL_some {w : Nat} {o : Bool} {s : List AVal} : subL (some w) w o (some s) = some (.slice w s o) := by simp [subL]
def appR (e : Option (Nat × Nat)) (i : Option IntKind) (b : Bool) (wd : Nat) (xs : List AVal) (ys : Option (List AVal)) : Option AVal :=
  match e, ys with
  | some (z, by_), some ys => if z = wd ∧ i = none ∧ b = true ∧ fitsA (xs.length + ys.length) by_ then some (.slice wd (xs ++ ys) true) else none
  | _, _ => none
theorem ap_slice {t0 t1 : TypeId} {wd : Nat} {xs : List AVal} {y : AVal} : appendA E t0 t1 (.slice wd xs true) y = appR (appI E.P t0) (intT E.P t1) (knownT E.P t1) wd xs (srcA wd y) := by
  simp only [appendA, appR]
  rcases appI E.P t0 with _ | ⟨z, b⟩ <;> rcases srcA wd y with _ | ys <;> try rfl
theorem appR_some {wd by_ : Nat} {xs ys : List AVal} : appR (some (wd, by_)) none true wd xs (some ys) = if fitsA (xs.length + ys.length) by_ then some (.slice wd (xs ++ ys) true) else none := by simp [appR]
theorem srcA_slice {wd : Nat} {ys : List AVal} {o : Bool} : srcA wd (.slice wd ys o) = some ys := by simp [srcA]
theorem srcA_str {l : List UInt8} : srcA 1 (.str l) = some ((l.map bord).map (.int .u8)) := by simp [srcA, bord]
theorem str_add {a b : List UInt8} : strBin .add a b = if fitsS (a.length + b.length) then some (.str (a ++ b)) else none := by simp only [strBin, maxN]; by_cases h : a.length + b.length ≤ 4611686018427387904 <;> simp [h, fitsS]

theorem mget_eq {i : Nat} {c : List AVal} {m : List (Nat × List AVal)} : mget ((i, c) :: m) i = some c := by simp [mget]
theorem mget_ne {i j : Nat} {c : List AVal} {m : List (Nat × List AVal)} (h : i ≠ j) : mget ((j, c) :: m) i = mget m i := by simp [mget, h]
theorem mset_eq {i : Nat} {c x : List AVal} {m : List (Nat × List AVal)} : mset ((i, c) :: m) i x = (i, x) :: m := by simp [mset]
theorem mset_ne {i j : Nat} {c x : List AVal} {m : List (Nat × List AVal)} (h : i ≠ j) : mset ((j, c) :: m) i x = (j, c) :: mset m i x := by simp [mset, h]
theorem keysLt_cons {n i : Nat} {c : List AVal} {m : List (Nat × List AVal)} (h : keysLt n ((i, c) :: m)) : i < n ∧ keysLt n m := by
  have h1 : i < n := by
    rcases Nat.lt_or_ge i n with h' | h'
    · exact h'
    · have := h i h'; simp [mget] at this
  refine ⟨h1, fun j hj => ?_⟩
  have := h j hj
  rwa [mget_ne (by omega)] at this

theorem ACall.of {f : FuncId} {args args' : List AVal} {Q Q' : AVal → St → Prop} (hc : ACall E f args' st Q') (ha : args = args') (hq : ∀ r st', st.next ≤ st'.next → Q' r st' → Q r st') : ACall E f args st Q := by
  subst ha; exact hc.mono hq
def retOf : List AVal → AVal
  | [r] => r
  | rs => .tuple rs
theorem retPost_r {fn : Func} {Q : AVal → St → Prop} {xs : List AVal} {st' : St} {m : List (Nat × List AVal)} (h : resL E fn.results.toList af st = some (xs, st')) (hm : m.Sublist st'.m)
    (hq : Q (retOf xs) { st' with m := m }) : retPost E fn Q .ret af st := by
  unfold retPost; rw [h]; exact ⟨m, hm, hq⟩
theorem retPost_n {fn : Func} {Q : AVal → St → Prop} {xs : List AVal} {st' : St} {m : List (Nat × List AVal)} (h : resL E fn.results.toList af st = some (xs, st')) (hm : m.Sublist st'.m)
    (hq : Q (retOf xs) { st' with m := m }) : retPost E fn Q .normal af st := by
  unfold retPost; rw [h]; exact ⟨m, hm, hq⟩
theorem AWp.congr {c : Code} {Q : APost} {af' : List AVal} (h : af = af') (k : AWp E c Q af' st) : AWp E c Q af st := h ▸ k
theorem awp_cond_t {Q : APost} {c : Operand} {x y : Code} {b : Bool} (hc : rd E af 0 c = .bool b) (hb : b = true) (h : AWp E x Q af st) : AWp E (.cond c x y) Q af st :=
  awp_cond b hc (by rw [if_pos hb]; exact h)
theorem awp_cond_f {Q : APost} {c : Operand} {x y : Code} {b : Bool} (hc : rd E af 0 c = .bool b) (hb : b = false) (h : AWp E y Q af st) : AWp E (.cond c x y) Q af st :=
  awp_cond b hc (by rw [if_neg (by simp [hb])]; exact h)

/-- the store's order does not matter -/
theorem cntM_perm {Γ : Ghost} {w : World} {b : Nat} {m m' : List (Nat × List AVal)} (h : m.Perm m') : cntM Γ w b m = cntM Γ w b m' := by
  induction h with
  | nil => rfl
  | cons x _ ih => simp only [cntM, ih]
  | swap x y l => simp only [cntM]; omega
  | trans _ _ i1 i2 => exact i1.trans i2
theorem Sim.perm {F : Nat → Nat} {Γ : Ghost} {w : World} {tm : List Value} {m m' : List (Nat × List AVal)} {n : Nat} (hs : Sim E F Γ ⟨m, n⟩ w af tm) (h : m.Perm m') : Sim E F Γ ⟨m', n⟩ w af tm :=
  { hs with
    box_ok := fun p hp => hs.box_ok p (h.mem_iff.2 hp)
    keys := (h.map (·.1)).nodup_iff.1 hs.keys
    bx_F := fun p b hp => hs.bx_F p b (h.mem_iff.2 hp)
    tok := fun b => by rw [← cntM_perm h]; exact hs.tok b }
theorem Sim.stripBox {F : Nat → Nat} {Γ : Ghost} {w : World} {a : Act} {i : Nat} {cs : List AVal} (hs : Sim E F Γ st w af a.tmps.toList) (hg : mget st.m i = some cs) : Sim E F Γ { st with m := mset st.m i (stripL cs) } w af a.tmps.toList := by
  obtain ⟨b, arr, e, hb⟩ := hs.box hg
  obtain ⟨lo, hi, hh, hf⟩ := hb.heap
  exact (hs.setBox (w' := w) (cs' := stripL cs) (arr' := arr) (lo := lo) (hi := hi) hg hb hh hf (fun _ _ => rfl) rfl rfl rfl rfl hb.rep.strip (ownL_strip _ _ _ _) hb.one
          (fun n => by rw [cntL_strip]; have := hs.tok n; omega)).1
theorem awp_stripBox {c : Code} {Q : APost} {i : Nat} {cs : List AVal} (hg : mget st.m i = some cs) (h : AWp E c Q af { st with m := mset st.m i (stripL cs) }) : AWp E c Q af st :=
  ⟨fun F Γ w a hd hs => h.go F Γ w a hd (hs.stripBox hg)⟩
theorem awp_stripSlot {c : Code} {Q : APost} (i : Tmp) (h : AWp E c Q (stripAt af (.tmp i)) st) : AWp E c Q af st :=
  ⟨fun F Γ w a hd hs => h.go F Γ w a hd (hs.stripAt (.tmp i))⟩
theorem AWp.nodup {c : Code} {Q : APost} (h : (st.m.map (·.1)).Nodup → AWp E c Q af st) : AWp E c Q af st :=
  ⟨fun F Γ w a hd hs => (h hs.keys).go F Γ w a hd hs⟩
theorem AWp.congr2 {c : Code} {Q : APost} {af' : List AVal} {st' : St} (h : af = af') (h2 : st = st') (k : AWp E c Q af' st') : AWp E c Q af st := h ▸ h2 ▸ k
def mdel : List (Nat × List AVal) → Nat → List (Nat × List AVal)
  | [], _ => []
  | (j, c) :: m, i => if i = j then m else (j, c) :: mdel m i
theorem mdel_perm : ∀ {m : List (Nat × List AVal)} {i : Nat} {c : List AVal}, mget m i = some c → m.Perm ((i, c) :: mdel m i)
  | [], _, _, h => by simp [mget] at h
  | (j, d) :: m, i, c, h => by
    simp only [mget] at h
    simp only [mdel]
    split at h
    · rename_i e; subst e; simp only [Option.some.injEq] at h; subst h; simp
    · rename_i e
      rw [if_neg e]
      exact ((mdel_perm h).cons _).trans (List.Perm.swap _ _ _)
theorem mset_perm : ∀ {m : List (Nat × List AVal)} {i : Nat} {c x : List AVal}, mget m i = some c → ((i, x) :: mdel m i).Perm (mset m i x)
  | [], _, _, _, h => by simp [mget] at h
  | (j, d) :: m, i, c, x, h => by
    simp only [mget] at h
    simp only [mdel, mset]
    split at h
    · rename_i e; subst e; simp
    · rename_i e
      rw [if_neg e, if_neg e]
      exact (List.Perm.swap _ _ _).trans ((mset_perm h).cons _)
theorem mget_mdel : ∀ {m : List (Nat × List AVal)} {i j : Nat}, i ≠ j → mget (mdel m i) j = mget m j
  | [], _, _, _ => rfl
  | (k, d) :: m, i, j, h => by
    simp only [mdel]
    split
    · rename_i e; subst e; simp only [mget]; rw [if_neg (fun e => h e.symm)]
    · simp only [mget]; rw [mget_mdel h]
theorem mset_mdel : ∀ {m : List (Nat × List AVal)} {i j : Nat} {x : List AVal}, i ≠ j → mset (mdel m i) j x = mdel (mset m j x) i
  | [], _, _, _, _ => rfl
  | (k, d) :: m, i, j, x, h => by
    by_cases e : i = k
    · subst e; simp only [mdel, if_true, mset]; rw [if_neg (fun e => h e.symm)]; simp [mdel]
    · by_cases e2 : j = k
      · subst e2; simp [mdel, mset, e]
      · simp only [mdel, mset, if_neg e, if_neg e2]; rw [mset_mdel h]

/-- a box that the caller hands over stands in front -/
theorem ACall.front {f : FuncId} {args : List AVal} {m : List (Nat × List AVal)} {n i : Nat} {c : List AVal} {Q : AVal → St → Prop} (hi : mget m i = some c)
    (h : i < n → ACall E f args ⟨(i, c) :: mdel m i, n⟩ fun r st' => ∃ c', st'.m = (i, c') :: mdel m i ∧ Q r ⟨mset m i c', st'.next⟩) : ACall E f args ⟨m, n⟩ Q := by
  refine ACall.known fun _ hk => ?_
  have hin : i < n := by
    rcases Nat.lt_or_ge i n with h' | h'
    · exact h'
    · have := hk i h'; simp only at this; rw [this] at hi; cases hi
  constructor
  intro F Γ w cargs hs
  refine ((h hin).go F Γ w cargs (hs.perm (mdel_perm hi))).mono ?_
  rintro e w' ⟨v, he, Γ', r, ⟨m', n'⟩, h1, h2, h3, c', hm, hq⟩
  simp only at hm
  subst hm
  exact ⟨v, he, Γ', r, ⟨mset m i c', n'⟩, h1, h2, h3.perm (mset_perm hi), hq⟩
end
end Go.VM
