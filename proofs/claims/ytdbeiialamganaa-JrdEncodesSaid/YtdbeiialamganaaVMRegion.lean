/- Regions, calls, functions. -/
import Derived.Laws.RangeString
import Derived.Laws.RangeAny
import Derived.Lib.OthersKept
import Derived.Test.YtdbeiialamganaaVMMem4
set_option linter.unusedVariables false
namespace Go.VM

def isMv (mv : List Tmp) (dst : Option Tmp) : Bool := match dst with | some d => mv.contains d | none => false
/-- one operation that is no call of a function; mv: the slots whose loads take the token along -/
def decodeAt (s : List UInt8) (pos : Nat) : Nat × Nat := Utf8.decode ⟨s.toArray⟩ pos
def nextA (s : List UInt8) (pos : Nat) (t : Tmp) (d : Option Tmp) (af : List AVal) : List AVal :=
  if decide (pos < s.length) = true then putA (af.set t (.iter s (pos + (decodeAt s pos).2))) d (.tuple [.bool true, .int .i64 pos, .int .i32 (decodeAt s pos).1])
  else putA af d (.tuple [.bool false])
def stepOp (E : Env) (mv : List Tmp) (o : Oper) (af : List AVal) (st : St) : Option (List AVal × St) :=
  match o.op with
  | .move x => if isMv mv o.dst = true then some (putA (stripAt af x) o.dst (rd E af o.type x), st) else some (putA af o.dst (rd E af o.type x).strip, st)
  | .assign x => some (putA (stripAt af x) o.dst (rd E af o.type x), st)
  | .alloc t => (zeroA E.P t).map fun z => (putA af o.dst (.ptr st.next 0), { m := (st.next, cellsA z) :: st.m, next := st.next + 1 })
  | .box t x => if okBox (rd E af t x) = true then some (putA (stripAt af x) o.dst (.ptr st.next 0), { m := (st.next, cellsA (rd E af t x)) :: st.m, next := st.next + 1 }) else none
  | .build t ⟨ps⟩ => (buildA E t (rdParts E (fieldT E.P t) af ps).2).map fun r => (putA (rdParts E (fieldT E.P t) af ps).1 o.dst r, st)
  | .buildSlice t len ⟨ps⟩ => (buildSliceA E t len (rdParts E (fun _ => fieldT E.P t 0) af ps).2).map fun r => (putA af o.dst r, st)
  | .load t x =>
    if isMv mv o.dst = true then (loadMv E t (rd E af 0 x) st).map fun p => (putA af o.dst p.1, p.2)
    else (loadA E t (rd E af 0 x) st).map fun r => (putA af o.dst r.strip, st)
  | .store t x y => if o.dst.isNone = true then (storeA E t (rd E af 0 x) (rd E af t y) st).map fun st' => (stripAt af y, st') else none
  | .extract (.tmp t) n =>
    match af.getD t .any with
    | .tuple vs => (vs[n]?).map fun r => (putA (af.set t (.tuple (vs.set n r.strip))) o.dst r, st)
    | _ => none
  | .range t x =>
    match rd E af t x with
    | .str s => if isStrT E.P t = true then some (putA af o.dst (.iter s 0), st) else none
    | _ => none
  | .next (.tmp t) true =>
    match af.getD t .any with
    | .iter s pos => some (nextA s pos t o.dst af, st)
    | _ => none
  | .slice t x lo hi mx =>
    match rdo E af lo, rdo E af hi, rdo E af mx with
    | some l, some h, some m => (sliceA E t (rd E af t x) l h m).map fun r => (putA af o.dst r, st)
    | _, _, _ => none
  | .call { callee := .builtin .append, args := ⟨[x, y]⟩, argTypes := ⟨t0 :: t1 :: _⟩ } => (appendA E t0 t1 (rd E af t0 x) (rd E af t1 y)).map fun r => (putA (stripAt af x) o.dst r, st)
  | _ => (pureVal E o af).map fun r => (putA af o.dst r.strip, st)

section
variable {E : Env} {F : Nat → Nat} {Γ : Ghost} {st : St} {w : World} {af : List AVal} {a : Act}

theorem set_getDV (vs : List Value) (t : Nat) (d : Value) : vs.set t (vs.getD t d) = vs := by
  apply List.ext_getElem?
  intro i
  rw [List.getElem?_set]
  split
  · rename_i e
    subst e
    split
    · rename_i h; simp [List.getD, List.getElem?_eq_getElem h]
    · rename_i h; rw [List.getElem?_eq_none (Nat.le_of_not_lt h)]
  · rfl
theorem cntM_lt (hs : Sim E F Γ st w af a.tmps.toList) {b : Nat} (h : 0 < cntM Γ w b st.m) : b < w.heap.size := by
  have : ∀ m, (∀ p, p ∈ m → p ∈ st.m) → 0 < cntM Γ w b m → b < w.heap.size := by
    intro m
    induction m with
    | nil => intro _ h; simp [cntM] at h
    | cons p m ih =>
      intro hm h
      rw [cntM] at h
      obtain ⟨k, arr, e', hb⟩ := hs.box_ok p (hm p (by simp))
      obtain ⟨lo, hi, h3, h4⟩ := hb.heap
      have hc' : cntB Γ w b p = cntL b p.2 arr.toList := by simp [cntB, hb.bx, hcells, h3]
      rcases Nat.lt_or_ge 0 (cntL b p.2 arr.toList) with h' | h'
      · exact (ownL_com _ _ hb.own h').1
      · exact ih (fun q hq => hm q (List.mem_cons_of_mem _ hq)) (by omega)
  exact this st.m (fun _ h => h) h
/-- the heap changes where nothing is looked at -/
theorem Sim.elsewhere (hs : Sim E F Γ st w af a.tmps.toList) {w' : World} {b : Nat} (hk : ∀ n, n < w.heap.size → n ≠ b → w'.heap[n]? = w.heap[n]?) (hz : w.heap.size ≤ w'.heap.size)
    (h1 : Γ.com b = none) (h2 : ∀ i, i ∈ st.m.map (·.1) → Γ.bx i ≠ some b) (h3 : cntL b af a.tmps.toList = 0) (h4 : cntM Γ w b st.m = 0) : Sim E F Γ st w' af a.tmps.toList := by
  have kb : ∀ p, p ∈ st.m → ∀ k, Γ.bx p.1 = some k → w'.heap[k]? = w.heap[k]? := fun p hp k hk' =>
    hk k (hs.bx_lt _ _ hk') (fun e => h2 p.1 (List.mem_map_of_mem hp) (by rw [hk', e]))
  have oneb : ∀ p, p ∈ st.m → cntB Γ w b p = 0 := by
    intro p hp
    have : ∀ m, p ∈ m → cntB Γ w b p ≤ cntM Γ w b m := by
      intro m
      induction m with
      | nil => intro h; simp at h
      | cons q m ih => intro h; rw [cntM]; rcases List.mem_cons.1 h with rfl | h; · omega
                       · have := ih h; omega
    have := this st.m hp; omega
  refine { hs with com_ok := ?_, box_ok := ?_, bx_lt := ?_, F_lt := ?_, own := ?_, tok := ?_ }
  · intro n cs h
    obtain ⟨ar, e', fz, q2, q3⟩ := hs.com_ok n cs h
    exact ⟨ar, e', fz, by rw [hk n (hs.com_lt h) (fun e => by subst e; rw [h1] at h; cases h)]; exact q2, q3⟩
  · intro p hp
    obtain ⟨k, ar, e', hb⟩ := hs.box_ok p hp
    obtain ⟨lo, hi, q3, q4⟩ := hb.heap
    have hc' : cntB Γ w b p = cntL b p.2 ar.toList := by simp [cntB, hb.bx, hcells, q3]
    have h0 := oneb p hp
    refine ⟨k, ar, e', hb.bx, ⟨lo, hi, by rw [kb p hp k hb.bx]; exact q3, q4⟩, hb.rep, ownL_keep _ _ hb.own fun n hn => ?_, hb.com, hb.one⟩
    exact ⟨hk n (ownL_com _ _ hb.own hn).1 (fun e => by subst e; omega), rfl⟩
  · intro i n h; have := hs.bx_lt i n h; omega
  · intro n hn; exact hs.F_lt n (by omega)
  · exact ownL_keep _ _ hs.own fun n hn => ⟨hk n (ownL_com _ _ hs.own hn).1 (fun e => by subst e; omega), rfl⟩
  · intro n
    rw [cntM_keep (w := w) fun p hp => ⟨rfl, kb p hp⟩]
    exact hs.tok n
theorem Sim.newIter (hs : Sim E F Γ st w af a.tmps.toList) (sb : ByteArray) (p : Nat) : Sim E F Γ st (w.iter sb p) af a.tmps.toList ∧ Ext F Γ w Γ (w.iter sb p) := by
  have hold : ∀ n, n < w.heap.size → (w.iter sb p).heap[n]? = w.heap[n]? := fun n hn => alloc_old (.stringIter sb p) hn
  have hsz : (w.iter sb p).heap.size = w.heap.size + 1 := by simp [World.iter]
  refine ⟨hs.elsewhere (b := w.heap.size) (fun n hn _ => hold n hn) (by omega) (hs.com_none (Nat.le_refl _)) (fun i hi h => ?_) ?_ ?_, ⟨Γ.le_refl, fun n hn => ⟨hold n (hs.F_of hn), rfl⟩, by omega, rfl, rfl, rfl⟩⟩
  · have := hs.bx_lt _ _ h; omega
  · rcases Nat.lt_or_ge 0 (cntL w.heap.size af a.tmps.toList) with h | h
    · have := (ownL_com _ _ hs.own h).1; omega
    · omega
  · rcases Nat.lt_or_ge 0 (cntM Γ w w.heap.size st.m) with h | h
    · have := cntM_lt hs h; omega
    · omega
theorem Sim.iterTo (hs : Sim E F Γ st w af a.tmps.toList) {t : Tmp} {s : List UInt8} {pos : Nat} (hx : af.getD t .any = .iter s pos) {b : Nat} {sb : ByteArray} (hv : a.tmps.toList.getD t undef = .pointer (some ⟨b, 0, none⟩))
    (hsb : sb.data.toList = s) (hh : w.heap[b]? = some (.stringIter sb pos)) (pos' : Nat) : Sim E F Γ st (w.iterAt b sb pos') (af.set t (.iter s pos')) a.tmps.toList ∧ Ext F Γ w Γ (w.iterAt b sb pos') := by
  have e := cntL_setStrip b af a.tmps.toList t undef hs.rep.length
  rw [hx, hv] at e
  have e1 : cnt b (.iter s pos) (.pointer (some ⟨b, 0, none⟩)) = 1 := by simp [cnt, cntIt]
  rw [e1] at e
  have e2 : (AVal.iter s pos).strip = .any := by simp [AVal.strip]
  rw [e2] at e
  have tk := hs.tok b
  have hlt : b < w.heap.size := (Array.getElem?_eq_some_iff.1 hh).1
  have hold : ∀ n, n ≠ b → (w.iterAt b sb pos').heap[n]? = w.heap[n]? := fun n hn => by
    simp only [World.iterAt]
    rw [Array.getElem?_setIfInBounds_ne (fun e => hn e.symm)]
  have hsz : (w.iterAt b sb pos').heap.size = w.heap.size := by simp [World.iterAt]
  have hnew : (w.iterAt b sb pos').heap[b]? = some (.stringIter sb pos') := by simp [World.iterAt, hlt]
  have hs0 : Sim E F Γ st w (af.set t .any) a.tmps.toList := by
    have := hs.stripAt (.tmp t)
    simpa only [VM.stripAt, hx, e2] using this
  have hcom : Γ.com b = none := by
    cases hc : Γ.com b with
    | none => rfl
    | some cs => obtain ⟨ar, e', fz, q2, _⟩ := hs.com_ok b cs hc; rw [hh] at q2; cases q2
  have s1 : Sim E F Γ st (w.iterAt b sb pos') (af.set t .any) a.tmps.toList := hs0.elsewhere (b := b) (fun n _ hn => hold n hn) (by omega) hcom (fun i hi h => by
    obtain ⟨p, hp, rfl⟩ := List.mem_map.1 hi
    obtain ⟨k, ar, e', hb⟩ := hs.box_ok p hp
    obtain ⟨lo, hh2, q3, _⟩ := hb.heap
    have := hb.bx; rw [h] at this; cases this
    rw [hh] at q3; cases q3) (by omega) (by omega)
  refine ⟨?_, ⟨Γ.le_refl, fun n hn => ⟨hold n (fun e => by subst e; omega), rfl⟩, by omega, rfl, rfl, rfl⟩⟩
  have hset : a.tmps.toList = a.tmps.toList.set t (.pointer (some ⟨b, 0, none⟩)) := by rw [← hv, set_getDV]
  have hss : af.set t (.iter s pos') = (af.set t .any).set t (.iter s pos') := by rw [List.set_set]
  rw [hss]
  have h5 : ∀ n, cntL n ((af.set t .any).set t (.iter s pos')) a.tmps.toList ≤ cntL n (af.set t .any) a.tmps.toList + cnt n (.iter s pos') (.pointer (some ⟨b, 0, none⟩)) := fun n => by
    have := cntL_set_le n (af.set t .any) a.tmps.toList t (.iter s pos') (.pointer (some ⟨b, 0, none⟩))
    rw [← hset] at this
    exact this
  refine { s1 with rep := ?_, own := ?_, tok := ?_ }
  · have := s1.rep.set t (x := .iter s pos') (v := .pointer (some ⟨b, 0, none⟩)) (.iter _ _ _)
    rwa [← hset] at this
  · have := s1.own.set t (x := .iter s pos') (v := .pointer (some ⟨b, 0, none⟩)) (by simp only [VM.own]; exact ⟨b, sb, rfl, hsb, hnew⟩)
    rwa [← hset] at this
  · intro n
    have q1 := h5 n
    have q2 := s1.tok n
    by_cases hn : n = b
    · subst hn
      have q3 : cntM Γ (w.iterAt n sb pos') n st.m = 0 := by
        rw [cntM_keep (w := w) fun p hp => ⟨rfl, fun k hk => hold k (fun e => by
          subst e
          obtain ⟨k2, ar, e', hb⟩ := hs.box_ok p hp
          obtain ⟨lo, hh2, q3, _⟩ := hb.heap
          have := hb.bx; rw [hk] at this; cases this
          rw [hh] at q3; cases q3)⟩]
        omega
      have q4 : cnt n (.iter s pos') (.pointer (some ⟨n, 0, none⟩)) = 1 := by simp [cnt, cntIt]
      omega
    · have q4 : cnt n (.iter s pos') (.pointer (some ⟨b, 0, none⟩)) = 0 := by simp [cnt, cntIt]; exact fun e => hn e.symm
      omega
theorem bytes_of_toList {b : ByteArray} {s : List UInt8} (h : b.data.toList = s) : b = ⟨s.toArray⟩ := by
  subst h; simp
theorem range_step (hs : Sim E F Γ st w af a.tmps.toList) {o : Oper} {t : TypeId} {x : Operand} {s : List UInt8} (hop : o.op = .range t x) (hx : rd E af t x = .str s) (ht : isStrT E.P t = true) :
    ∃ nx w' a' Γ', Stepped E F Γ st w a o (putA af o.dst (.iter s 0)) st nx w' a' Γ' := by
  have hr := hs.rd t x
  rw [hx] at hr
  generalize hv : a.eval x = v at hr
  cases hr
  rename_i sb hn
  have hrun := run_range_string (P := E.P) w t sb (underlying_of_str ht)
  refine ⟨.value (.pointer (some ⟨w.heap.size, 0, none⟩)), w.iter sb 0, a.put o.dst (.pointer (some ⟨w.heap.size, 0, none⟩)), Γ, ?_, fun K Q hk => hk, put_defers _ _ _, ?_, Nat.le_refl _, ?_⟩
  · simp only [execOp, hop, hv]; rw [Sem.run_bind, hrun]; rfl
  · exact (hs.newIter sb 0).2
  · refine (hs.newIter sb 0).1.put o.dst (.iter _ _ _) ?_ ?_
    · simp only [VM.own]; exact ⟨_, sb, rfl, rfl, World.iter_heap w sb 0⟩
    · intro b
      have h1 := hs.tok b
      have h2 := (hs.newIter sb 0).1.tok b
      simp only [cnt, cntIt]
      split
      · rename_i e
        have h3 : F b = 0 := hs.F_lt b (by omega)
        have h4 : cntL b af a.tmps.toList = 0 := by
          rcases Nat.lt_or_ge 0 (cntL b af a.tmps.toList) with h | h
          · have := (ownL_com _ _ hs.own h).1; omega
          · omega
        have h5 : cntM Γ (w.iter sb 0) b st.m = 0 := by
          rw [cntM_keep (Γ := Γ) (w := w) (w' := w.iter sb 0) fun p hp => ⟨rfl, fun k hk => alloc_old (.stringIter sb 0) (hs.bx_lt _ _ hk)⟩]
          rcases Nat.lt_or_ge 0 (cntM Γ w b st.m) with h | h
          · have := cntM_lt hs h; omega
          · omega
        omega
      · omega
theorem next_step (hs : Sim E F Γ st w af a.tmps.toList) {o : Oper} {t : Tmp} {s : List UInt8} {pos : Nat} (hop : o.op = .next (.tmp t) true) (hx : af.getD t .any = .iter s pos) :
    ∃ nx w' a' Γ', Stepped E F Γ st w a o (nextA s pos t o.dst af) st nx w' a' Γ' := by
  have ho := hs.own.get hs.rep.length t undef
  rw [hx] at ho
  simp only [VM.own] at ho
  obtain ⟨b, sb, hv, hsb, hh⟩ := ho
  have hev : a.eval (.tmp t) = .pointer (some ⟨b, 0, none⟩) := by simp only [Act.eval, Array.getD_toList']; exact hv
  have hlen : sb.size = s.length := by rw [← hsb, Array.length_toList]; rfl
  unfold nextA
  split
  · rename_i hlt
    have hlt : pos < sb.size := by rw [hlen]; simpa using hlt
    have hrun := Go.Lib.run_next_any_at (P := E.P) w b sb pos o.type hh hlt
    have hde : Utf8.decode sb pos = decodeAt s pos := by rw [bytes_of_toList hsb]; rfl
    rw [hde] at hrun
    obtain ⟨s1, x1⟩ := hs.iterTo (t := t) hx hv hsb hh (pos + (decodeAt s pos).2)
    refine ⟨.value (.tuple #[.bool true, .int .i64 pos, .int .i32 (decodeAt s pos).1]), w.iterAt b sb (pos + (decodeAt s pos).2), a.put o.dst (.tuple #[.bool true, .int .i64 pos, .int .i32 (decodeAt s pos).1]), Γ, ?_, fun K Q hk => hk, put_defers _ _ _, x1, Nat.le_refl _, ?_⟩
    · simp only [execOp, hop, hev]; rw [Sem.run_bind, hrun]; rfl
    · refine s1.put o.dst (r := .tuple [.bool true, .int .i64 pos, .int .i32 (decodeAt s pos).1]) (.tuple (.cons (.bool _) (.cons (.int _ _) (.cons (.int _ _) .nil)))) (by simp [VM.own, ownL]) fun n => ?_
      have := s1.tok n
      simp only [cnt, cntL]; omega
  · rename_i hlt
    have hlt : ¬ pos < sb.size := by rw [hlen]; simpa using hlt
    have hrun := Go.Lib.run_next_end_at (P := E.P) w b sb pos o.type hh hlt
    refine ⟨.value (.tuple #[.bool false]), w, a.put o.dst (.tuple #[.bool false]), Γ, ?_, fun K Q hk => hk, put_defers _ _ _, Ext.refl _ _ _, Nat.le_refl _, ?_⟩
    · simp only [execOp, hop, hev]; rw [Sem.run_bind, hrun]; rfl
    · refine hs.put o.dst (r := .tuple [.bool false]) (.tuple (.cons (.bool _) .nil)) (by simp [VM.own, ownL]) fun n => ?_
      have := hs.tok n
      simp only [cnt, cntL]; omega
theorem stepOp_sound (hs : Sim E F Γ st w af a.tmps.toList) {mv : List Tmp} {o : Oper} {af' : List AVal} {st' : St} (h : stepOp E mv o af st = some (af', st')) :
    ∃ nx w' a' Γ', Stepped E F Γ st w a o af' st' nx w' a' Γ' := by
  unfold stepOp at h
  split at h
  · rename_i x hop
    split at h
    · simp only [Option.some.injEq, Prod.mk.injEq] at h; obtain ⟨rfl, rfl⟩ := h
      exact move_step hs (.inl hop)
    · simp only [Option.some.injEq, Prod.mk.injEq] at h; obtain ⟨rfl, rfl⟩ := h
      exact ⟨.value (a.eval x), w, a.put o.dst (a.eval x), Γ, by simp [execOp, hop], fun K Q hk => hk, put_defers _ _ _, Ext.refl _ _ _, Nat.le_refl _, hs.putStrip o.dst (hs.rd o.type x)⟩
  · rename_i x hop
    simp only [Option.some.injEq, Prod.mk.injEq] at h; obtain ⟨rfl, rfl⟩ := h
    exact move_step hs (.inr hop)
  · rename_i t hop
    cases hz : zeroA E.P t with
    | none => simp [hz] at h
    | some z =>
      simp only [hz, Option.map_some, Option.some.injEq, Prod.mk.injEq] at h; obtain ⟨rfl, rfl⟩ := h
      exact alloc_step hs hop hz
  · rename_i t x hop
    split at h
    · rename_i hx
      simp only [Option.some.injEq, Prod.mk.injEq] at h; obtain ⟨rfl, rfl⟩ := h
      exact boxop_step hs hop hx
    · cases h
  · rename_i t ps hop
    cases hz : buildA E t (rdParts E (fieldT E.P t) af ps).2 with
    | none => simp [hz] at h
    | some z =>
      simp only [hz, Option.map_some, Option.some.injEq, Prod.mk.injEq] at h; obtain ⟨rfl, rfl⟩ := h
      exact build_step hs hop hz
  · rename_i t len ps hop
    cases hz : buildSliceA E t len (rdParts E (fun _ => fieldT E.P t 0) af ps).2 with
    | none => simp [hz] at h
    | some z =>
      simp only [hz, Option.map_some, Option.some.injEq, Prod.mk.injEq] at h; obtain ⟨rfl, rfl⟩ := h
      exact buildSlice_step hs hop hz
  · rename_i t x hop
    split at h
    · cases hz : loadMv E t (rd E af 0 x) st with
      | none => simp [hz] at h
      | some z =>
        obtain ⟨r, s⟩ := z
        simp only [hz, Option.map_some, Option.some.injEq, Prod.mk.injEq] at h; obtain ⟨rfl, rfl⟩ := h
        exact loadMv_step hs hop hz
    · cases hz : loadA E t (rd E af 0 x) st with
      | none => simp [hz] at h
      | some z =>
        simp only [hz, Option.map_some, Option.some.injEq, Prod.mk.injEq] at h; obtain ⟨rfl, rfl⟩ := h
        exact load_step hs hop hz
  · rename_i t x y hop
    split at h
    · rename_i hd
      cases hz : storeA E t (rd E af 0 x) (rd E af t y) st with
      | none => simp [hz] at h
      | some z =>
        simp only [hz, Option.map_some, Option.some.injEq, Prod.mk.injEq] at h; obtain ⟨rfl, rfl⟩ := h
        exact store_step hs hop (by simpa using hd) hz
    · cases h
  · rename_i t n hop
    split at h
    · rename_i vs hv
      cases hz : vs[n]? with
      | none => simp [hz] at h
      | some z =>
        simp only [hz, Option.map_some, Option.some.injEq, Prod.mk.injEq] at h; obtain ⟨rfl, rfl⟩ := h
        exact extract_step hs hop hv hz
    · cases h
  · rename_i t x hop
    split at h
    · rename_i s hx
      split at h
      · rename_i ht
        simp only [Option.some.injEq, Prod.mk.injEq] at h; obtain ⟨rfl, rfl⟩ := h
        exact range_step hs hop hx ht
      · cases h
    · cases h
  · rename_i t hop
    split at h
    · rename_i s pos hx
      simp only [Option.some.injEq, Prod.mk.injEq] at h; obtain ⟨rfl, rfl⟩ := h
      exact next_step hs hop hx
    · cases h
  · rename_i t x lo hi mx hop
    split at h
    · rename_i l hh m h1 h2 h3
      cases hz : sliceA E t (rd E af t x) l hh m with
      | none => simp [hz] at h
      | some z =>
        simp only [hz, Option.map_some, Option.some.injEq, Prod.mk.injEq] at h; obtain ⟨rfl, rfl⟩ := h
        exact slice_step hs hop h1 h2 h3 hz
    · cases h
  · rename_i x y t0 t1 ts hop
    cases hz : appendA E t0 t1 (rd E af t0 x) (rd E af t1 y) with
    | none => simp [hz] at h
    | some z =>
      simp only [hz, Option.map_some, Option.some.injEq, Prod.mk.injEq] at h; obtain ⟨rfl, rfl⟩ := h
      exact append_step hs hop hz
  · cases hz : pureVal E o af with
    | none => simp [hz] at h
    | some z =>
      simp only [hz, Option.map_some, Option.some.injEq, Prod.mk.injEq] at h; obtain ⟨rfl, rfl⟩ := h
      exact pure_step hs hz
end

def rdL (E : Env) (af : List AVal) : List Operand → List TypeId → List AVal
  | [], _ => []
  | x :: xs, [] => rd E af 0 x :: rdL E af xs []
  | x :: xs, t :: ts => rd E af t x :: rdL E af xs ts
def callable (P : Program) (g : FuncId) : Bool :=
  match P.funcs[g]? with
  | some fn => fn.name != "runtime.NumGoroutine" && fn.body.isSome
  | none => false

/-- one operation, calls among them -/
def opWp (E : Env) (mv : List Tmp) (o : Oper) (af : List AVal) (st : St) (K : List AVal → St → Prop) : Prop :=
  match o.op with
  | .call { callee := .value f, args, argTypes } =>
    match rd E af 0 f with
    | .fn (.func g) p q => callable E.P g = true ∧ ACall E g (stripL (p ++ rdL E af args.toList argTypes.toList ++ q)) st fun r st' => K (putA af o.dst r) st'
    | _ => False
  | _ =>
    match stepOp E mv o af st with
    | some (af', st') => K af' st'
    | none => False

/-- what an operation's rule must give -/
def OpOK (E : Env) (o : Oper) (af : List AVal) (st : St) (K : List AVal → St → Prop) : Prop :=
  ∀ (F : Nat → Nat) (Γ : Ghost) (w : World) (a : Act), a.defers = [] → Sim E F Γ st w af a.tmps.toList → ∀ (K' : Act → World → Prop) (Qx : Exit → Act → World → Prop),
    (∀ Γ' af' st' a' w', Ext F Γ w Γ' w' → st.next ≤ st'.next → a'.defers = [] → Sim E F Γ' st' w' af' a'.tmps.toList → K af' st' → K' a' w') → o.wp E.P a w K' Qx

section
variable {E : Env} {F : Nat → Nat} {Γ : Ghost} {st : St} {w : World} {af : List AVal} {a : Act}

theorem RepL.append {xs ys : List AVal} {us vs : List Value} (h : RepL Γ xs us) (k : RepL Γ ys vs) : RepL Γ (xs ++ ys) (us ++ vs) := by
  induction xs generalizing us with
  | nil => cases h; exact k
  | cons x xs ih => cases h with | cons h t => exact .cons h (ih t)
theorem rdL_rep (hs : Sim E F Γ st w af a.tmps.toList) : ∀ (xs : List Operand) (ts : List TypeId), RepL Γ (rdL E af xs ts) (xs.map a.eval)
  | [], _ => .nil
  | x :: xs, [] => .cons (hs.rd _ x) (rdL_rep hs xs [])
  | x :: xs, t :: ts => .cons (hs.rd _ x) (rdL_rep hs xs ts)

/-- the caller's frame set aside: its tokens go to the outside -/
theorem Sim.aside (hs : Sim E F Γ st w af a.tmps.toList) {xs : List AVal} {vs : List Value} (hr : RepL Γ xs vs) : Sim E (fun b => F b + cntL b af a.tmps.toList) Γ st w (stripL xs) vs := by
  refine { hs with bx_F := ?_, F_lt := ?_, rep := hr.strip, own := ownL_strip _ _ _ _, tok := ?_ }
  · intro p b hp hb
    have h1 := hs.bx_F p b hp hb
    have h2 : cntL b af a.tmps.toList = 0 := by
      rcases Nat.lt_or_ge 0 (cntL b af a.tmps.toList) with h | h
      · obtain ⟨b', arr, e, hk⟩ := hs.box_ok p hp
        have := hk.bx; rw [hb] at this; cases this
        rcases (ownL_com _ _ hs.own h).2 with ⟨c, hc⟩ | ⟨s0, p0, hc⟩
        · rw [hk.com] at hc; cases hc
        · obtain ⟨lo, hi, hh, _⟩ := hk.heap; rw [hh] at hc; cases hc
      · omega
    show F b + cntL b af a.tmps.toList = 0
    omega
  · intro b hb
    have h1 := hs.F_lt b hb
    have h2 : cntL b af a.tmps.toList = 0 := by
      rcases Nat.lt_or_ge 0 (cntL b af a.tmps.toList) with h | h
      · have := (ownL_com _ _ hs.own h).1; omega
      · omega
    show F b + cntL b af a.tmps.toList = 0
    omega
  · intro b
    have := hs.tok b
    rw [cntL_strip]
    omega
/-- the caller's frame taken up again -/
theorem Sim.back (hs : Sim E F Γ st w af a.tmps.toList) {Γ' : Ghost} {st' : St} {w' : World} {r : AVal} {v : Value} (hx : Ext (fun b => F b + cntL b af a.tmps.toList) Γ w Γ' w') (h : Sim E (fun b => F b + cntL b af a.tmps.toList) Γ' st' w' [r] [v]) (dst : Option Tmp) :
    Sim E F Γ' st' w' (putA af dst r) (a.put dst v).tmps.toList := by
  have hown : ownL Γ' w' af a.tmps.toList := ownL_keep _ _ hs.own fun b hb => hx.keep b (by show 1 ≤ F b + cntL b af a.tmps.toList; omega)
  have hmid : Sim E F Γ' st' w' af a.tmps.toList := by
    refine { h with bx_F := ?_, F_lt := ?_, rep := hs.rep.mono hx.le, own := hown, tok := ?_ }
    · intro p b hp hb; have := h.bx_F p b hp hb; omega
    · intro b hb; have := h.F_lt b hb; omega
    · intro b; have := h.tok b; omega
  have hr : Rep Γ' r v := by have := h.rep; cases this; assumption
  have ho : VM.own Γ' w' r v := by have := h.own; rw [ownL] at this; exact this.1
  refine hmid.put dst hr ho fun b => ?_
  have := h.tok b
  have e : cntL b [r] [v] = cnt b r v := by simp [cntL]
  rw [e] at this
  omega

theorem opWp_sound {mv : List Tmp} {o : Oper} {K : List AVal → St → Prop} (h : opWp E mv o af st K) : OpOK E o af st K := by
  intro F Γ w a hd hs K' Qx hK
  unfold opWp at h
  split at h
  · rename_i f args ts hop
    have hf := hs.rd 0 f
    split at h
    · rename_i g p q e
      rw [e] at hf
      generalize hfv : a.eval f = fv at hf
      cases hf with
      | fn hp hq =>
        rename_i vp vq
        obtain ⟨hcall, hac⟩ := h
        have hargs := rdL_rep hs args.toList ts.toList
        have hall := hp.append (hargs.append hq)
        rw [← List.append_assoc] at hall
        have hrun : (execOp a.eval o).run E.P w = .ok (.enter g (vp ++ args.map a.eval ++ vq)) w := by
          unfold callable at hcall
          split at hcall
          · rename_i fn hfn
            simp only [Bool.and_eq_true, bne_iff_ne, ne_eq] at hcall
            have hb : fn.body.isNone = false := by have := hcall.2; cases hfb : fn.body <;> simp_all
            simp only [execOp, hop, resolve, hfv, Deferred.ofValue, Sem.run_bind, Sem.run_pure, Result.andThen_ok, invoke, callFunc, run_program, hfn]
            have hname : (fn.name == "runtime.NumGoroutine") = false := by simpa using hcall.1
            simp only [hname, hb, Bool.false_eq_true, if_false]
            rfl
          · cases hcall
        have key := hac.go (fun b => F b + cntL b af a.tmps.toList) Γ w (vp ++ args.map a.eval ++ vq) (by
          have e2 : (vp ++ args.map a.eval ++ vq).toList = vp.toList ++ (args.toList.map a.eval ++ vq.toList) := by simp
          rw [e2, ← List.append_assoc]
          refine hs.aside ?_
          rw [← List.append_assoc] at hall
          exact hall)
        unfold Oper.wp
        rw [hrun, Oper.upon_enter]
        refine key.mono ?_
        rintro e' w' ⟨v, rfl, Γ', r, st', x1, n1, s1, q1⟩
        exact hK Γ' _ st' (a.put o.dst v) w' (x1.less fun b => by omega) n1 (by rw [put_defers]; exact hd) (hs.back x1 s1 o.dst) q1
    · cases h
  · split at h
    · rename_i af' st' hst
      obtain ⟨nx, w', a', Γ', hp⟩ := stepOp_sound hs hst
      unfold Oper.wp
      rw [hp.run]
      exact hp.upon _ _ (hK Γ' af' st' a' w' hp.ext hp.next (by rw [hp.defers]; exact hd) hp.sim h)
    · cases h

/-- is an operation with a guard wanted? what was passed over yields nothing -/
def gd (x : AVal) (want : Bool) : Option Bool :=
  match x with
  | .bool b => some (b == want)
  | .tuple [] => some false
  | _ => none
def gdA (ops : Array Oper) (af : List AVal) (j : Nat) (want : Bool) : Option Bool :=
  match (ops[j]?).bind (·.dst) with
  | some d => gd (af.getD d .any) want
  | none => none
/-- operations in their order -/
def opsWp (E : Env) (mv : List Tmp) (ops : Array Oper) : List Oper → (List AVal → St → Prop) → List AVal → St → Prop
  | [], K, af, st => K af st
  | o :: rest, K, af, st =>
    match o.guard with
    | none => opWp E mv o af st (opsWp E mv ops rest K)
    | some (j, want) =>
      match gdA ops af j want with
      | some true => opWp E mv o af st (opsWp E mv ops rest K)
      | some false => opsWp E mv ops rest K (putA af o.dst (.tuple [])) st
      | none => False

theorem gdA_sound (hs : Sim E F Γ st w af a.tmps.toList) {ops : Array Oper} {j : Nat} {want t : Bool} (h : gdA ops af j want = some t) : (yielded ops a.tmps j == some want) = t := by
  unfold gdA at h
  split at h
  · rename_i d hd
    have hr := hs.rep.get d undef
    unfold yielded
    rw [hd]
    simp only [Option.bind_some]
    unfold gd at h
    have hlt : d < a.tmps.size := by
      rcases Nat.lt_or_ge d a.tmps.size with h' | h'
      · exact h'
      · have : af.length = a.tmps.size := by rw [hs.rep.length, Array.length_toList]
        rw [List.getD, List.getElem?_eq_none (by omega)] at h
        simp at h
    have e : a.tmps.toList.getD d undef = a.tmps[d] := by simp [List.getD, hlt]
    rw [e] at hr
    rw [Array.getElem?_eq_getElem hlt]
    generalize a.tmps[d] = v at hr
    split at h
    · rename_i b hb
      rw [hb] at hr
      cases hr
      simp only [Option.some.injEq] at h
      simpa using h
    · rename_i hb
      rw [hb] at hr
      cases hr
      simp only [Option.some.injEq] at h
      subst h
      rfl
    · cases h
  · cases h
theorem wanted_guard {ops : Array Oper} {o : Oper} {tmps : Array Value} {j : Nat} {want : Bool} (hg : o.guard = some (j, want)) : Region.wanted o (yielded ops tmps) = (yielded ops tmps j == some want) := by
  simp [Region.wanted, hg]
theorem Sim.skipped (hs : Sim E F Γ st w af a.tmps.toList) (d : Option Tmp) : Sim E F Γ st w (putA af d (.tuple [])) (a.put d undef).tmps.toList :=
  hs.put d (r := .tuple []) (v := undef) (.tuple .nil) (by simp [VM.own, undef, ownL]) fun n => by
    have := hs.tok n
    simp only [cnt, undef, cntL]; omega

theorem opsWp_sound {mv : List Tmp} {ops : Array Oper} {Qc : Exit → Act → World → Prop} : ∀ (rest : List Oper) (i : Nat), ops.toList.drop i = rest → ∀ {K : List AVal → St → Prop} {F : Nat → Nat} {Γ : Ghost} {st : St} {w : World} {af : List AVal} {a : Act},
    a.defers = [] → Sim E F Γ st w af a.tmps.toList → opsWp E mv ops rest K af st →
    (∀ Γ' af' st' a' w', Ext F Γ w Γ' w' → st.next ≤ st'.next → a'.defers = [] → Sim E F Γ' st' w' af' a'.tmps.toList → K af' st' → Qc .normal a' w') →
    wpOps E.P ops Qc (List.range' i rest.length) a w := by
  intro rest
  induction rest with
  | nil => intro i hi K F Γ st w af a hd hs h hK; exact hK Γ af st a w (Ext.refl _ _ _) (Nat.le_refl _) hd hs h
  | cons o rest ih =>
    intro i hi K F Γ st w af a hd hs h hK
    have hoi : ops[i]? = some o := by
      have : ops.toList[i]? = some o := by
        have := congrArg (·[0]?) hi
        simpa using this
      simpa using this
    have hi' : ops.toList.drop (i + 1) = rest := by
      rw [← List.tail_drop, hi]; rfl
    rw [List.length_cons, List.range'_succ]
    simp only [wpOps, hoi]
    have go : opWp E mv o af st (opsWp E mv ops rest K) → o.wp E.P a w (wpOps E.P ops Qc (List.range' (i + 1) rest.length)) Qc := fun h =>
      opWp_sound h F Γ w a hd hs _ _ fun Γ' af' st' a' w' x1 n1 d1 s1 k1 =>
        ih (i + 1) hi' d1 s1 k1 fun Γ2 af2 st2 a2 w2 x2 n2 d2 s2 k2 => hK Γ2 af2 st2 a2 w2 (x1.trans x2) (Nat.le_trans n1 n2) d2 s2 k2
    simp only [opsWp] at h
    split at h
    · rename_i hg
      rw [if_pos (by simp [Region.wanted, hg])]
      exact .inl (go h)
    · rename_i j want hg
      split at h
      · rename_i hgd
        rw [if_pos (by rw [wanted_guard hg, gdA_sound hs hgd])]
        exact .inl (go h)
      · rename_i hgd
        rw [if_neg (by rw [wanted_guard hg, gdA_sound hs hgd]; simp)]
        exact ih (i + 1) hi' (by rw [put_defers]; exact hd) (hs.skipped o.dst) h fun Γ2 af2 st2 a2 w2 x2 n2 d2 s2 k2 => hK Γ2 af2 st2 a2 w2 x2 n2 d2 s2 k2
      · cases h

theorem awp_region {Q : APost} {id : Nat} {ops : Array Oper} (mv : List Tmp) (h : opsWp E mv ops ops.toList (fun af st => Q .normal af st) af st) : AWp E (.region id ops false) Q af st := by
  constructor
  intro F Γ w a hd hs
  refine wp_region ?_
  have key := opsWp_sound (Qc := lift E F Γ w st.next Q) ops.toList 0 rfl hd hs h fun Γ' af' st' a' w' x1 n1 d1 s1 k1 => ⟨trivial, d1, Γ', af', st', x1, n1, s1, k1⟩
  rw [Array.length_toList, ← List.range_eq_range'] at key
  exact key

theorem awp_cond {Q : APost} {c : Operand} {x y : Code} (b : Bool) (hb : rd E af 0 c = .bool b) (h : if b = true then AWp E x Q af st else AWp E y Q af st) : AWp E (.cond c x y) Q af st := by
  constructor
  intro F Γ w a hd hs
  have hr := hs.rd 0 c
  rw [hb] at hr
  generalize hv : a.eval c = v at hr
  cases hr
  refine wp_cond hv ?_
  cases b
  · exact h.go F Γ w a hd hs
  · exact h.go F Γ w a hd hs

/-- a store with fewer boxes -/
theorem Sim.fewer (hs : Sim E F Γ st w af a.tmps.toList) {m : List (Nat × List AVal)} (hm : m.Sublist st.m) : Sim E F Γ { st with m := m } w af a.tmps.toList := by
  have hle : ∀ n, cntM Γ w n m ≤ cntM Γ w n st.m := by
    intro n
    generalize st.m = m' at hm
    induction hm with
    | slnil => exact Nat.le_refl _
    | cons p _ ih => rw [cntM]; omega
    | cons_cons p _ ih => rw [cntM, cntM]; omega
  refine { hs with box_ok := fun p hp => hs.box_ok p (hm.subset hp), keys := (hm.map _).nodup hs.keys, bx_F := fun p b hp hb => hs.bx_F p b (hm.subset hp) hb, tok := fun n => ?_ }
  have := hle n
  have := hs.tok n
  simp only
  omega
theorem awp_fewer {Q : APost} {c : Code} {m : List (Nat × List AVal)} (hm : m.Sublist st.m) (h : AWp E c Q af { st with m := m }) : AWp E c Q af st :=
  ⟨fun F Γ w a hd hs => h.go F Γ w a hd (hs.fewer hm)⟩

/-- the results of a function, taken out of their slots and cells -/
def resCell (E : Env) (t : TypeId) (addr : AVal) (st : St) : Option (AVal × St) :=
  match addr with
  | .ptr i 0 =>
    match mget st.m i with
    | some cs =>
      if knownT E.P t = true then
        if isAggT E.P t = true then (if sizeT E.P t = some cs.length then some (.agg cs, { st with m := mset st.m i (stripL cs) }) else none)
        else match cs with
          | [c] => some (c, { st with m := mset st.m i (stripL cs) })
          | _ => none
      else none
    | none => none
  | _ => none
def resL (E : Env) : List ResultVar → List AVal → St → Option (List AVal × St)
  | [], af, st => some ([], st)
  | .tmp t :: rs, af, st => (resL E rs (stripAt af (.tmp t)) st).map fun p => (af.getD t .any :: p.1, p.2)
  | .cell i t :: rs, af, st =>
    match resCell E t (af.getD i .any) st with
    | some (r, st') => (resL E rs af st').map fun p => (r :: p.1, p.2)
    | none => none
def retPost (E : Env) (fn : Func) (Q : AVal → St → Prop) : APost := fun e af st =>
  match e with
  | .normal | .ret =>
    match resL E fn.results.toList af st with
    | some (rs, st') => ∃ m, m.Sublist st'.m ∧ Q (match rs with | [r] => r | rs => .tuple rs) { st' with m := m }
    | none => False
  | _ => False
end
end Go.VM
