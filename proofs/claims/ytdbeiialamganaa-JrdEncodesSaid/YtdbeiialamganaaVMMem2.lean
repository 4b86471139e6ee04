/- Loads and stores. -/
import Derived.Test.YtdbeiialamganaaVMMem
set_option linter.unusedVariables false
namespace Go.VM

theorem mset_mem {m : List (Nat × List AVal)} {i : Nat} {x : List AVal} (hk : (m.map (·.1)).Nodup) {p : Nat × List AVal} (h : p ∈ mset m i x) : (p = (i, x) ∧ ∃ c, (i, c) ∈ m) ∨ (p ∈ m ∧ p.1 ≠ i) := by
  induction m with
  | nil => simp [mset] at h
  | cons q m ih =>
    obtain ⟨j, c⟩ := q
    simp only [List.map_cons, List.nodup_cons] at hk
    simp only [mset] at h
    split at h
    · rename_i e; subst e
      rcases List.mem_cons.1 h with rfl | h
      · exact .inl ⟨rfl, c, by simp⟩
      · refine .inr ⟨List.mem_cons_of_mem _ h, fun e => hk.1 ?_⟩
        exact List.mem_map.2 ⟨p, h, e⟩
    · rename_i e
      rcases List.mem_cons.1 h with rfl | h
      · exact .inr ⟨by simp, fun e' => e e'.symm⟩
      · rcases ih hk.2 h with ⟨h1, c', h2⟩ | ⟨h1, h2⟩
        · exact .inl ⟨h1, c', List.mem_cons_of_mem _ h2⟩
        · exact .inr ⟨List.mem_cons_of_mem _ h1, h2⟩
theorem cntM_mset {Γ Γ' : Ghost} {w w' : World} {b : Nat} {m : List (Nat × List AVal)} {i : Nat} {cs x : List AVal} (hk : (m.map (·.1)).Nodup) (hg : mget m i = some cs)
    (ho : ∀ p, p ∈ m → p.1 ≠ i → cntB Γ' w' b p = cntB Γ w b p) : cntM Γ' w' b (mset m i x) + cntB Γ w b (i, cs) = cntM Γ w b m + cntB Γ' w' b (i, x) := by
  induction m with
  | nil => simp [mget] at hg
  | cons q m ih =>
    obtain ⟨j, c⟩ := q
    simp only [List.map_cons, List.nodup_cons] at hk
    simp only [mget] at hg
    simp only [mset]
    split at hg
    · rename_i e; subst e
      simp only [Option.some.injEq] at hg; subst hg
      rw [if_pos rfl]
      simp only [cntM]
      have : cntM Γ' w' b m = cntM Γ w b m := by
        have hm : ∀ p, p ∈ m → p.1 ≠ i := fun p hp e => hk.1 (List.mem_map.2 ⟨p, hp, e⟩)
        clear ih
        induction m with
        | nil => rfl
        | cons p m ih2 =>
          rw [cntM, cntM, ho p (by simp) (hm p (by simp)), ih2 ?_ ?_ ?_]
          · intro q hq
            rcases List.mem_cons.1 hq with rfl | hq
            · exact ho _ (by simp)
            · exact ho q (List.mem_cons_of_mem _ (List.mem_cons_of_mem _ hq))
          · simp only [List.map_cons, List.mem_cons, not_or, List.nodup_cons] at hk; exact ⟨hk.1.2, hk.2.2⟩
          · exact fun q hq => hm q (List.mem_cons_of_mem _ hq)
      omega
    · rename_i e
      rw [if_neg e]
      simp only [cntM]
      have h1 := ih hk.2 hg (fun p hp => ho p (List.mem_cons_of_mem _ hp))
      have h2 := ho (j, c) (by simp) (fun h => e h.symm)
      omega
theorem mset_mset (m : List (Nat × List AVal)) (i : Nat) (x y : List AVal) : mset (mset m i x) i y = mset m i y := by
  induction m with
  | nil => rfl
  | cons p m ih =>
    obtain ⟨j, c⟩ := p
    simp only [mset]
    split
    · rename_i e; simp [mset, e]
    · rename_i e; simp [mset, e, ih]
theorem mget_mset_same {m : List (Nat × List AVal)} {i : Nat} {c x : List AVal} (h : mget m i = some c) : mget (mset m i x) i = some x := by
  induction m with
  | nil => simp [mget] at h
  | cons p m ih =>
    obtain ⟨j, d⟩ := p
    simp only [mget] at h
    simp only [mset]
    split
    · rename_i e; simp [mget, e]
    · rename_i e; rw [if_neg e] at h; simp [mget, e, ih h]
theorem mset_self {m : List (Nat × List AVal)} {i : Nat} {c : List AVal} (h : mget m i = some c) : mset m i c = m := by
  induction m with
  | nil => rfl
  | cons p m ih =>
    obtain ⟨j, d⟩ := p
    simp only [mget] at h
    simp only [mset]
    split
    · rename_i e; rw [if_pos e] at h; simp at h; subst h; subst e; rfl
    · rename_i e; rw [if_neg e] at h; rw [ih h]

/-- cells written from a place on -/
def putCells (cs : List AVal) (off : Nat) : List AVal → List AVal
  | [] => cs
  | c :: r => putCells (cs.set off c) (off + 1) r

section
variable {E : Env} {F : Nat → Nat} {Γ : Ghost} {st : St} {w : World} {af : List AVal} {a : Act}

theorem Sim.box {tm : List Value} (hs : Sim E F Γ st w af tm) {i : Nat} {cs : List AVal} (h : mget st.m i = some cs) : ∃ b arr e, BoxOK Γ w (i, cs) b arr e := hs.box_ok _ (mget_mem h)

theorem setCell_heap (w : World) (b off : Nat) (v : Value) {arr : Array Value} {e : TypeId} {fz : Nat × Nat} (h : w.heap[b]? = some (.cells arr e fz)) :
    (w.setCell ⟨b, off, none⟩ v).heap[b]? = some (.cells (arr.setIfInBounds off v) e fz) := by
  simp [World.setCell, Array.getElem?_modify, h]
theorem setCell_other (w : World) (b off k : Nat) (v : Value) (h : k ≠ b) : (w.setCell ⟨b, off, none⟩ v).heap[k]? = w.heap[k]? := by
  simp only [World.setCell, Array.getElem?_modify]
  rw [if_neg (fun e => h e.symm)]

/-- the store of a box turned: the box of number i holds other cells now -/
theorem Sim.setBox (hs : Sim E F Γ st w af a.tmps.toList) {i b : Nat} {cs cs' : List AVal} {arr arr' : Array Value} {e : TypeId} {lo hi : Nat} {w' : World} (hg : mget st.m i = some cs) (hb : BoxOK Γ w (i, cs) b arr e)
    (hw : w'.heap[b]? = some (.cells arr' e (lo, hi))) (hf : ∀ j, j < arr'.size → ¬ (lo ≤ j ∧ j < hi)) (hk : ∀ k, k ≠ b → w'.heap[k]? = w.heap[k]?) (hz : w'.heap.size = w.heap.size) (ho : w'.os = w.os) (hou : w'.output = w.output) (hta : w'.tape = w.tape)
    (hr : RepL Γ cs' arr'.toList) (hown : ownL Γ w cs' arr'.toList) (h1 : ∀ v, v ∈ arr'.toList → v.oneCell' = true)
    (ht : ∀ n, F n + cntL n af a.tmps.toList + cntL n cs' arr'.toList + cntM Γ w n st.m ≤ 1 + cntL n cs arr.toList) :
    Sim E F Γ { st with m := mset st.m i cs' } w' af a.tmps.toList ∧ Ext F Γ w Γ w' := by
  have comb : ∀ n cs0, Γ.com n = some cs0 → n ≠ b := fun n cs0 h e => by subst e; rw [hb.com] at h; cases h
  have keep : ∀ n, Held Γ w n → w'.heap[n]? = w.heap[n]? ∧ Γ.com n = Γ.com n := fun n h => ⟨hk n (by
    rcases h with ⟨c, h⟩ | ⟨s, p, h⟩
    · exact comb n c h
    · intro e
      obtain ⟨lo0, hi0, hh0, _⟩ := hb.heap
      rw [e, hh0] at h; cases h), rfl⟩
  have hFb : F b = 0 := hs.bx_F (i, cs) b (mget_mem hg) hb.bx
  obtain ⟨lo0, hi0, hh0, _⟩ := hb.heap
  have oth : ∀ p, p ∈ st.m → p.1 ≠ i → ∀ k, Γ.bx p.1 = some k → k ≠ b := fun p hp hne k hk' e => by
    rw [e] at hk'; exact hne (hs.inj _ _ _ hk' hb.bx)
  refine ⟨?_, ⟨Γ.le_refl, fun n hn => ⟨hk n (fun e => by subst e; omega), rfl⟩, by omega, ho, hou, hta⟩⟩
  refine { com_ok := ?_, box_ok := ?_, keys := ?_, inj := hs.inj, bx_lt := ?_, bx_next := hs.bx_next, bx_F := ?_, F_lt := ?_, glob := hs.glob, rep := hs.rep, own := ?_, tok := ?_ }
  · intro n c h
    obtain ⟨ar, e', fz, h2, h3⟩ := hs.com_ok n c h
    exact ⟨ar, e', fz, by rw [hk n (comb n c h)]; exact h2, h3⟩
  · intro p hp
    rcases mset_mem hs.keys hp with ⟨rfl, _⟩ | ⟨hp, hne⟩
    · exact ⟨b, arr', e, hb.bx, ⟨lo, hi, hw, hf⟩, hr, ownL_keep _ _ hown fun n hn => keep n (ownL_com _ _ hown hn).2, hb.com, h1⟩
    · obtain ⟨k, ar, e', hp'⟩ := hs.box_ok p hp
      obtain ⟨l2, h2, h3, h4⟩ := hp'.heap
      exact ⟨k, ar, e', hp'.bx, ⟨l2, h2, by rw [hk k (oth p hp hne k hp'.bx)]; exact h3, h4⟩, hp'.rep, ownL_keep _ _ hp'.own fun n hn => keep n (ownL_com _ _ hp'.own hn).2, hp'.com, hp'.one⟩
  · rw [mset_keys]; exact hs.keys
  · intro j n h; rw [hz]; exact hs.bx_lt j n h
  · intro p n hp hn
    rcases mset_mem hs.keys hp with ⟨rfl, c, hc⟩ | ⟨hp, hne⟩
    · exact hs.bx_F (i, c) n hc hn
    · exact hs.bx_F p n hp hn
  · intro n hn; rw [hz] at hn; exact hs.F_lt n hn
  · exact ownL_keep _ _ hs.own fun n hn => keep n (ownL_com _ _ hs.own hn).2
  · intro n
    have e1 := cntM_mset (Γ := Γ) (Γ' := Γ) (w := w) (w' := w') (b := n) (x := cs') hs.keys hg (fun p hp hne => cntB_keep rfl fun k hkk => hk k (oth p hp hne k hkk))
    have e2 : cntB Γ w n (i, cs) = cntL n cs arr.toList := by simp only [cntB, hb.bx, hcells, hh0]
    have e3 : cntB Γ w' n (i, cs') = cntL n cs' arr'.toList := by simp only [cntB, hb.bx, hcells, hw]
    have := ht n
    simp only
    omega

theorem store_cells {cells : List AVal} : ∀ {vs : List Value} {k off : Nat} {st : St} {w : World} {cs : List AVal} {i b base : Nat}, Sim E F Γ st w af a.tmps.toList → RepL Γ cells vs → ownL Γ w cells vs → (∀ v, v ∈ vs → v.oneCell' = true) →
    mget st.m i = some cs → Γ.bx i = some b → base + k = off → off + cells.length ≤ cs.length → (∀ n, F n + cntL n af a.tmps.toList + cntL n cells vs + cntM Γ w n st.m ≤ 1) →
    ∃ w', (storeCells ⟨b, base, none⟩ vs k).run E.P w = .ok () w' ∧ Sim E F Γ { st with m := mset st.m i (putCells cs off cells) } w' af a.tmps.toList ∧ Ext F Γ w Γ w' := by
  induction cells with
  | nil =>
    intro vs k off st w cs i b base hs hr ho h1 hg hbx he hl ht
    cases hr
    refine ⟨w, by simp [storeCells], ?_, Ext.refl _ _ _⟩
    rw [putCells, mset_self hg]; exact hs
  | cons c cells ih =>
    intro vs k off st w cs i b base hs hr ho h1 hg hbx he hl ht
    cases hr with
    | cons hc hr =>
      rename_i v vs
      rw [ownL] at ho
      obtain ⟨b', arr, e, hb⟩ := hs.box hg
      have : b' = b := by have := hb.bx; rw [hbx] at this; exact (Option.some.inj this).symm
      subst this
      obtain ⟨lo, hi, hh, hf⟩ := hb.heap
      have hlen : cs.length = arr.size := by rw [hb.rep.length, Array.length_toList]
      simp only [List.length_cons] at hl
      have hoff : off < arr.size := by omega
      have hcell : w.cell? ⟨b', off, none⟩ = some arr[off] := by
        simp only [World.cell?, hh]; simp [hoff]
      have hfz : w.frozen? ⟨b', off, none⟩ = false := by
        have := hf off hoff
        simp only [World.frozen?, hh]
        simp only [Bool.and_eq_false_imp, decide_eq_true_eq, decide_eq_false_iff_not]
        intro h h2; exact this ⟨h, h2⟩
      have hst : (store ⟨b', off, none⟩ v).run E.P w = .ok () (w.setCell ⟨b', off, none⟩ v) := by
        rw [run_store _ _ _ _ _ (h1 v (by simp)), hcell, hfz]; rfl
      have hset : (arr.setIfInBounds off v).toList = arr.toList.set off v := by simp
      obtain ⟨s1, x1⟩ := hs.setBox (w' := w.setCell ⟨b', off, none⟩ v) (cs' := cs.set off c) (arr' := arr.setIfInBounds off v) (lo := lo) (hi := hi) hg hb (setCell_heap w b' off v hh) (by simpa using hf) (fun k hk => setCell_other w b' off k v hk)
        (by simp) rfl rfl rfl (by rw [hset]; exact hb.rep.set off hc) (by rw [hset]; exact hb.own.set off ho.1)
        (by rw [hset]; intro u hu; rcases List.mem_or_eq_of_mem_set hu with h | h
            · exact hb.one u h
            · subst h; exact h1 _ (by simp))
        (fun n => by
          rw [hset]
          have := cntL_set_le n cs arr.toList off c v
          have h2 := ht n
          rw [cntL] at h2
          omega)
      have hown' : ownL Γ (w.setCell ⟨b', off, none⟩ v) cells vs := ownL_keep _ _ ho.2 fun n hn => by
        rcases (ownL_com _ _ ho.2 hn).2 with ⟨c0, hc0⟩ | ⟨s0, p0, hc0⟩
        · exact ⟨setCell_other w b' off n v (fun e => by subst e; rw [hb.com] at hc0; cases hc0), rfl⟩
        · exact ⟨setCell_other w b' off n v (fun e => by subst e; rw [hh] at hc0; cases hc0), rfl⟩
      have ht' : ∀ n, F n + cntL n af a.tmps.toList + cntL n cells vs + cntM Γ (w.setCell ⟨b', off, none⟩ v) n (mset st.m i (cs.set off c)) ≤ 1 := by
        intro n
        have oth : ∀ p, p ∈ st.m → p.1 ≠ i → ∀ k, Γ.bx p.1 = some k → k ≠ b' := fun p hp hne k hk e => by
          rw [e] at hk; exact hne (hs.inj _ _ _ hk hb.bx)
        have e1 := cntM_mset (Γ := Γ) (Γ' := Γ) (w := w) (w' := w.setCell ⟨b', off, none⟩ v) (b := n) (x := cs.set off c) hs.keys hg (fun p hp hne => cntB_keep rfl fun k hkk => setCell_other w b' off k v (oth p hp hne k hkk))
        have e2 : cntB Γ w n (i, cs) = cntL n cs arr.toList := by simp only [cntB, hb.bx, hcells, hh]
        have e3 : cntB Γ (w.setCell ⟨b', off, none⟩ v) n (i, cs.set off c) = cntL n (cs.set off c) (arr.toList.set off v) := by simp only [cntB, hb.bx, hcells, setCell_heap w b' off v hh, hset]
        have := cntL_set_le n cs arr.toList off c v
        have h2 := ht n
        rw [cntL] at h2
        omega
      obtain ⟨w', r2, s2, x2⟩ := ih (k := k + 1) (off := off + 1) (base := base) s1 hr hown' (fun u hu => h1 u (List.mem_cons_of_mem _ hu)) (mget_mset_same hg) hbx (by omega) (by simp; omega) ht'
      refine ⟨w', ?_, ?_, x1.trans x2⟩
      · simp only [storeCells, addr_add, he, Sem.run_bind, hst, Result.andThen_ok]
        exact r2
      · simp only [mset_mset] at s2
        exact s2

def storeA (E : Env) (t : TypeId) (addr v : AVal) (st : St) : Option St :=
  match addr with
  | .ptr i off =>
    match mget st.m i with
    | some cs => if okBox v = true ∧ sizeT E.P t = some (cellsA v).length ∧ off + (cellsA v).length ≤ cs.length then some { st with m := mset st.m i (putCells cs off (cellsA v)) } else none
    | none => none
  | _ => none

theorem store_step (hs : Sim E F Γ st w af a.tmps.toList) {o : Oper} {t : TypeId} {x y : Operand} {st' : St} (hop : o.op = .store t x y) (hd : o.dst = none) (h : storeA E t (rd E af 0 x) (rd E af t y) st = some st') :
    ∃ nx w' a' Γ', Stepped E F Γ st w a o (stripAt af y) st' nx w' a' Γ' := by
  have hx := hs.rd 0 x
  generalize rd E af 0 x = ax at *
  generalize hv : a.eval x = vx at hx
  unfold storeA at h
  split at h
  · rename_i i off
    cases hx with
    | ptr hbx =>
    rename_i b
    split at h
    · rename_i cs hg
      split at h
      · rename_i hc
        obtain ⟨hok, hz, hl⟩ := hc
        simp only [Option.some.injEq] at h; subst h
        have hr := hs.rd t y
        have ho := hs.rd_own t y
        have hsz : (a.eval y).cells.size = (cellsA (rd E af t y)).length := by rw [(hr.cellsOK hok).length, Array.length_toList]
        obtain ⟨w', r1, s1, x1⟩ := store_cells (cells := cellsA (rd E af t y)) (k := 0) (base := off) (hs.stripAt y) (hr.cellsOK hok) (own_cells hr hok ho) (hr.one hok) hg hbx (by simp) hl
          (fun n => by rw [cnt_cells hr hok]; have := hs.rd_cnt t y n; have := hs.tok n; omega)
        refine ⟨.skip, w', a.put o.dst undef, Γ, ?_, fun K Q hk => hk, put_defers _ _ _, x1, Nat.le_refl _, ?_⟩
        · simp only [execOp, hop, hv, Instr.storeAt, Instr.sureAddr]
          simp [storeVar, run_sizeT hz, hsz, r1]
        · rw [hd]; exact s1
      · cases h
    · cases h
  · cases h

/-- what a place holds -/
def cellsAt (st : St) : AVal → Option (List AVal)
  | .ptr i off => (mget st.m i).map (·.drop off)
  | .cptr cs => some cs
  | _ => none
def loadA (E : Env) (t : TypeId) (addr : AVal) (st : St) : Option AVal :=
  match cellsAt st addr, sizeT E.P t with
  | some cs, some z => if knownT E.P t then partA cs 0 z (isAggT E.P t) else none
  | _, _ => none

theorem load_run {t : TypeId} {cs : List AVal} {vs : List Value} {b off z : Nat} {r : AVal} (hr : RepL Γ cs vs) (h1 : ∀ v, v ∈ vs → v.oneCell' = true) (hc : ∀ j v, vs[j]? = some v → w.cell? ⟨b, off + j, none⟩ = some v) (hk : knownT E.P t = true) (hz : sizeT E.P t = some z)
    (h : partA cs 0 z (isAggT E.P t) = some r) : ∃ u, (Instr.loadAt t (.pointer (some ⟨b, off, none⟩))).run E.P w = .ok u w ∧ Rep Γ r u := by
  have ha := run_isAggT (w := w) hk
  unfold partA at h
  split at h
  · rename_i hg
    rw [hg] at ha
    split at h
    · rename_i hl
      simp only [Option.some.injEq] at h; subst h
      have hlen : (vs.take z).length = z := by rw [List.length_take, ← hr.length]; omega
      have key := run_loadCells_list (P := E.P) w ⟨b, off, none⟩ (vs.take z) (fun j v hj => by
        rw [addr_add]
        apply hc
        rw [List.getElem?_take] at hj
        split at hj
        · exact hj
        · cases hj)
      rw [hlen] at key
      refine ⟨.agg (vs.take z).toArray, ?_, .agg ?_ ?_⟩
      · simp [Instr.loadAt, Instr.sureAddr, loadVar, ha, run_sizeT hz, key]
      · simp only [List.drop_zero]; exact hr.take z
      · intro v hv; exact h1 v (List.mem_of_mem_take (by simpa using hv))
    · cases h
  · rename_i hg
    rw [Bool.not_eq_true] at hg
    rw [hg] at ha
    obtain ⟨v, hv, hrep⟩ := hr.get? h
    have hc0 := hc 0 v hv
    rw [Nat.add_zero] at hc0
    exact ⟨v, by simp [Instr.loadAt, Instr.sureAddr, loadVar, ha, run_load, hc0], hrep⟩

/-- the memory behind a place -/
theorem cellsAt_sound (hs : Sim E F Γ st w af a.tmps.toList) {x : AVal} {v : Value} {cs : List AVal} (hx : Rep Γ x v) (h : cellsAt st x = some cs) :
    ∃ b off vs, v = .pointer (some ⟨b, off, none⟩) ∧ RepL Γ cs vs ∧ (∀ v, v ∈ vs → v.oneCell' = true) ∧ ∀ j u, vs[j]? = some u → w.cell? ⟨b, off + j, none⟩ = some u := by
  unfold cellsAt at h
  split at h
  · rename_i i off
    cases hx with
    | ptr hbx =>
    rename_i b
    cases hg : mget st.m i with
    | none => simp [hg] at h
    | some c =>
      simp only [hg, Option.map_some, Option.some.injEq] at h; subst h
      obtain ⟨b', arr, e, hb⟩ := hs.box hg
      have : b' = b := by have := hb.bx; rw [hbx] at this; exact (Option.some.inj this).symm
      subst this
      obtain ⟨lo, hi, hh, hf⟩ := hb.heap
      refine ⟨b', off, arr.toList.drop off, rfl, hb.rep.drop off, fun v hv => hb.one v (List.mem_of_mem_drop hv), fun j u hj => ?_⟩
      rw [List.getElem?_drop] at hj
      simp only [World.cell?, hh]
      simpa using hj
  · simp only [Option.some.injEq] at h; subst h
    cases hx with
    | cptr hb hd hr ho =>
      rename_i b off cells vs rest
      obtain ⟨arr, e, fz, hh, ds, hds⟩ := hs.com_ok _ _ hb
      refine ⟨b, off, vs, rfl, hr, ho, fun j u hj => ?_⟩
      have h1 : cells[off + j]? = some u := by
        rw [← List.getElem?_drop, hd, List.getElem?_append_left (List.getElem?_eq_some_iff.1 hj).1]; exact hj
      have h2 : arr.toList[off + j]? = some u := by
        rw [hds, List.getElem?_append_left (List.getElem?_eq_some_iff.1 h1).1]; exact h1
      simp only [World.cell?, hh]
      simpa using h2
  · cases h

theorem load_step (hs : Sim E F Γ st w af a.tmps.toList) {o : Oper} {t : TypeId} {x : Operand} {r : AVal} (hop : o.op = .load t x) (h : loadA E t (rd E af 0 x) st = some r) :
    ∃ nx w' a' Γ', Stepped E F Γ st w a o (putA af o.dst r.strip) st nx w' a' Γ' := by
  unfold loadA at h
  split at h
  · rename_i cs z hc hz
    split at h
    · rename_i hk
      obtain ⟨b, off, vs, hv, hr, h1, hcell⟩ := cellsAt_sound hs (hs.rd 0 x) hc
      obtain ⟨u, hu, hrep⟩ := load_run hr h1 hcell hk hz h
      exact ⟨.value u, w, _, Γ, by simp [execOp, hop, hv, hu], fun K Q hk => hk, put_defers _ _ _, Ext.refl _ _ _, Nat.le_refl _, hs.putStrip o.dst hrep⟩
    · cases h
  · cases h

/-- a load that takes the token along: of one cell -/
def loadMv (E : Env) (t : TypeId) (addr : AVal) (st : St) : Option (AVal × St) :=
  match addr with
  | .ptr i off =>
    match mget st.m i with
    | some cs =>
      if knownT E.P t = true ∧ isAggT E.P t = false then
        match cs[off]? with
        | some r => some (r, { st with m := mset st.m i (cs.set off r.strip) })
        | none => none
      else none
    | none => none
  | _ => none

theorem loadMv_step (hs : Sim E F Γ st w af a.tmps.toList) {o : Oper} {t : TypeId} {x : Operand} {r : AVal} {st' : St} (hop : o.op = .load t x) (h : loadMv E t (rd E af 0 x) st = some (r, st')) :
    ∃ nx w' a' Γ', Stepped E F Γ st w a o (putA af o.dst r) st' nx w' a' Γ' := by
  have hx := hs.rd 0 x
  generalize rd E af 0 x = ax at *
  generalize hv : a.eval x = vx at hx
  unfold loadMv at h
  split at h
  · rename_i i off
    cases hx with
    | ptr hbx =>
    rename_i b
    split at h
    · rename_i cs hg
      split at h
      · rename_i hc
        split at h
        · rename_i r' hr'
          simp only [Option.some.injEq, Prod.mk.injEq] at h
          obtain ⟨rfl, rfl⟩ := h
          obtain ⟨b', arr, e, hb⟩ := hs.box hg
          have : b' = b := by have := hb.bx; rw [hbx] at this; exact (Option.some.inj this).symm
          subst this
          obtain ⟨lo, hi, hh, hf⟩ := hb.heap
          obtain ⟨u, hu, hrep⟩ := hb.rep.get? hr'
          have hgd : cs.getD off .any = r' := by simp [List.getD, hr']
          have hgu : arr.toList.getD off undef = u := by simp only [List.getD, hu, Option.getD_some]
          have hown : VM.own Γ w r' u := by
            have := hb.own.get hb.rep.length off undef
            rw [hgd, hgu] at this; exact this
          have hcs := fun n => cntL_setStrip n cs arr.toList off undef hb.rep.length
          simp only [hgd, hgu] at hcs
          have hrl := hb.rep.setStrip off
          have hol := hb.own.setStrip off
          rw [hgd] at hrl hol
          obtain ⟨s1, x1⟩ := hs.setBox (w' := w) (cs' := cs.set off r'.strip) (arr' := arr) (lo := lo) (hi := hi) hg hb hh hf (fun _ _ => rfl) rfl rfl rfl rfl hrl hol hb.one
            (fun n => by have := hcs n; have := hs.tok n; omega)
          have hcell : w.cell? ⟨b', off, none⟩ = some u := by
            simp only [World.cell?, hh]; simpa using hu
          have ha := run_isAggT (w := w) hc.1
          rw [hc.2] at ha
          refine ⟨.value u, w, a.put o.dst u, Γ, ?_, fun K Q hk => hk, put_defers _ _ _, x1, Nat.le_refl _, ?_⟩
          · simp [execOp, hop, hv, Instr.loadAt, Instr.sureAddr, loadVar, ha, run_load, hcell]
          · refine s1.put o.dst hrep hown fun n => ?_
            have e1 := cntM_mset (Γ := Γ) (Γ' := Γ) (w := w) (w' := w) (b := n) (x := cs.set off r'.strip) hs.keys hg (fun p hp hne => rfl)
            have e2 : cntB Γ w n (i, cs) = cntL n cs arr.toList := by simp only [cntB, hb.bx, hcells, hh]
            have e3 : cntB Γ w n (i, cs.set off r'.strip) = cntL n (cs.set off r'.strip) arr.toList := by simp only [cntB, hb.bx, hcells, hh]
            have := hcs n
            have := hs.tok n
            simp only
            omega
        · cases h
      · cases h
    · cases h
  · cases h

/-- one component of a tuple, with its token -/
theorem extract_step (hs : Sim E F Γ st w af a.tmps.toList) {o : Oper} {t n : Nat} {vs : List AVal} {r : AVal} (hop : o.op = .extract (.tmp t) n) (ht : rd E af 0 (.tmp t) = .tuple vs) (hn : vs[n]? = some r) :
    ∃ nx w' a' Γ', Stepped E F Γ st w a o (putA (af.set t (.tuple (vs.set n r.strip))) o.dst r) st nx w' a' Γ' := by
  have hr := hs.rd 0 (.tmp t)
  have ho := hs.rd_own 0 (.tmp t)
  have hcn := fun b => hs.rd_cnt 0 (.tmp t) b
  rw [ht] at hr ho hcn
  generalize hv : a.eval (.tmp t) = v at *
  cases hr with
  | tuple hr =>
    rename_i arr
    simp only [VM.own] at ho
    simp only [cnt] at hcn
    obtain ⟨u, hu, hrep⟩ := hr.get? hn
    have hgd : vs.getD n .any = r := by simp [List.getD, hn]
    have hgu : arr.toList.getD n undef = u := by simp only [List.getD, hu, Option.getD_some]
    have hown : VM.own Γ w r u := by
      have := ho.get hr.length n undef
      rw [hgd, hgu] at this; exact this
    have hcs := fun b => cntL_setStrip b vs arr.toList n undef hr.length
    simp only [hgd, hgu] at hcs
    have hrl := hr.setStrip n
    have hol := ho.setStrip n
    rw [hgd] at hrl hol
    -- the tuple put back without that token
    have hts := (hs.stripAt (.tmp t)).put (some t) (r := .tuple (vs.set n r.strip)) (v := .tuple arr) (.tuple hrl) (by simp only [VM.own]; exact hol) (fun b => by
      simp only [cnt]; have := hcs b; have := hcn b; have := hs.tok b; omega)
    have hsame : (a.put (some t) (.tuple arr)).tmps.toList = a.tmps.toList := by
      rw [put_toList]
      simp only [Act.eval, Array.getD_toList'] at hv
      apply List.ext_getElem?
      intro k
      rw [List.getElem?_set]
      split
      · rename_i e; subst e
        split
        · rename_i hlt
          rw [← hv]
          simp [List.getD, List.getElem?_eq_getElem hlt]
        · rename_i hlt
          rw [List.getElem?_eq_none (by omega)]
      · rfl
    have hset : putA (stripAt af (.tmp t)) (some t) (.tuple (vs.set n r.strip)) = af.set t (.tuple (vs.set n r.strip)) := by
      simp [putA, VM.stripAt]
    rw [hsame, hset] at hts
    refine ⟨.value u, w, a.put o.dst u, Γ, ?_, fun K Q hk => hk, put_defers _ _ _, Ext.refl _ _ _, Nat.le_refl _, ?_⟩
    · simp [execOp, hop, hv, Instr.extract, (by simpa using hu : arr[n]? = some u)]
    · refine hts.put o.dst hrep hown fun b => ?_
      have h3 : cntL b (af.set t (.tuple (vs.set n r.strip))) a.tmps.toList ≤ cntL b (VM.stripAt af (.tmp t)) a.tmps.toList + cntL b (vs.set n r.strip) arr.toList := by
        have := cntL_set_le b (VM.stripAt af (.tmp t)) a.tmps.toList t (.tuple (vs.set n r.strip)) (.tuple arr)
        rw [← put_toList, hsame] at this
        have e : (VM.stripAt af (.tmp t)).set t (.tuple (vs.set n r.strip)) = af.set t (.tuple (vs.set n r.strip)) := by simp [VM.stripAt]
        rw [e] at this
        simpa [cnt] using this
      have := hcs b
      have := hcn b
      have := hs.tok b
      omega
end
end Go.VM
