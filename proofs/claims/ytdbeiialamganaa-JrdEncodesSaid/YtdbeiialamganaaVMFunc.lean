/- A function's contract from its body. -/
import Derived.Test.YtdbeiialamganaaVMRegion
set_option linter.unusedVariables false
namespace Go.VM

section
variable {E : Env} {F : Nat → Nat} {Γ : Ghost} {st : St} {w : World} {af : List AVal} {a : Act}

theorem resCell_sound (hs : Sim E F Γ st w af a.tmps.toList) {t : TypeId} {x : AVal} {v : Value} {r : AVal} {st' : St} (hx : Rep Γ x v) (h : resCell E t x st = some (r, st')) :
    ∃ u, (do loadVar t (← asAddr v) : Sem Value).run E.P w = .ok u w ∧ Rep Γ r u ∧ VM.own Γ w r u ∧ Sim E F Γ st' w af a.tmps.toList ∧ st'.next = st.next ∧ ∀ b, cnt b r u + cntM Γ w b st'.m = cntM Γ w b st.m := by
  unfold resCell at h
  split at h
  · rename_i i
    cases hx with
    | ptr hbx =>
    rename_i b
    split at h
    · rename_i cs hg
      split at h
      · rename_i hk
        obtain ⟨b', arr, e, hb⟩ := hs.box hg
        have : b' = b := by have := hb.bx; rw [hbx] at this; exact (Option.some.inj this).symm
        subst this
        obtain ⟨lo, hi, hh, hf⟩ := hb.heap
        have hlen : cs.length = arr.size := by rw [hb.rep.length, Array.length_toList]
        obtain ⟨s1, x1⟩ := hs.setBox (w' := w) (cs' := stripL cs) (arr' := arr) (lo := lo) (hi := hi) hg hb hh hf (fun _ _ => rfl) rfl rfl rfl rfl hb.rep.strip (ownL_strip _ _ _ _) hb.one
          (fun n => by rw [cntL_strip]; have := hs.tok n; omega)
        have hcnt : ∀ n, cntL n cs arr.toList + cntM Γ w n (mset st.m i (stripL cs)) = cntM Γ w n st.m := by
          intro n
          have e1 := cntM_mset (Γ := Γ) (Γ' := Γ) (w := w) (w' := w) (b := n) (x := stripL cs) hs.keys hg (fun p hp hne => rfl)
          have e2 : cntB Γ w n (i, cs) = cntL n cs arr.toList := by simp only [cntB, hb.bx, hcells, hh]
          have e3 : cntB Γ w n (i, stripL cs) = 0 := by simp only [cntB, hb.bx, hcells, hh, cntL_strip]
          omega
        have hcell : ∀ j u, arr.toList[j]? = some u → w.cell? ⟨b', 0 + j, none⟩ = some u := by
          intro j u hj
          simp only [World.cell?, hh, Nat.zero_add]; simpa using hj
        have ha := run_isAggT (w := w) hk
        split at h
        · rename_i hag
          rw [hag] at ha
          split at h
          · rename_i hz
            simp only [Option.some.injEq, Prod.mk.injEq] at h; obtain ⟨rfl, rfl⟩ := h
            have key := run_loadCells_list (P := E.P) w ⟨b', 0, none⟩ arr.toList (fun j v hj => by rw [addr_add]; exact hcell j v hj)
            rw [← hb.rep.length] at key
            refine ⟨.agg arr, ?_, .agg hb.rep hb.one, by simpa [VM.own] using hb.own, s1, rfl, fun n => by simpa [cnt] using hcnt n⟩
            simp [asAddr, loadVar, ha, run_sizeT hz, key]
          · cases h
        · rename_i hag
          rw [Bool.not_eq_true] at hag
          rw [hag] at ha
          split at h
          · rename_i c
            simp only [Option.some.injEq, Prod.mk.injEq] at h; obtain ⟨rfl, rfl⟩ := h
            obtain ⟨u, hu, hrep⟩ := hb.rep.get? (i := 0) (x := c) rfl
            have h1 : arr.toList = [u] := by
              have : arr.toList.length = 1 := by rw [Array.length_toList, ← hlen]; rfl
              match hal : arr.toList, this with
              | [x], _ => rw [hal] at hu; simpa using hu
            refine ⟨u, ?_, hrep, ?_, s1, rfl, fun n => ?_⟩
            · have := hcell 0 u hu
              simp only [Nat.add_zero] at this
              simp [asAddr, loadVar, ha, run_load, this]
            · have := hb.own; rw [h1, ownL] at this; exact this.1
            · have := hcnt n
              rw [h1] at this
              simpa [cntL] using this
          · cases h
      · cases h
    · cases h
  · cases h

theorem cntM_sub {m m' : List (Nat × List AVal)} (h : m.Sublist m') (n : Nat) : cntM Γ w n m ≤ cntM Γ w n m' := by
  induction h with
  | slnil => exact Nat.le_refl _
  | cons p _ ih => rw [cntM]; omega
  | cons_cons p _ ih => rw [cntM, cntM]; omega
def resOne (tmps : Array Value) (r : ResultVar) : Sem Value :=
  match r with
  | .tmp t => pure (tmps.getD t undef)
  | .cell i t => do loadVar t (← asAddr (tmps.getD i undef))
theorem resL_sound (rs : List ResultVar) : ∀ {af : List AVal} {st : St} {xs : List AVal} {st' : St}, Sim E F Γ st w af a.tmps.toList → resL E rs af st = some (xs, st') →
    ∃ vs, (rs.mapM (resOne a.tmps)).run E.P w = .ok vs w ∧ RepL Γ xs vs ∧ ownL Γ w xs vs ∧ st'.next = st.next ∧
      ∃ af', Sim E F Γ st' w af' a.tmps.toList ∧ ∀ b, cntL b af' a.tmps.toList + cntL b xs vs + cntM Γ w b st'.m = cntL b af a.tmps.toList + cntM Γ w b st.m := by
  induction rs with
  | nil =>
    intro af st xs st' hs h
    simp only [resL, Option.some.injEq, Prod.mk.injEq] at h; obtain ⟨rfl, rfl⟩ := h
    exact ⟨[], by simp, .nil, by simp [ownL], rfl, af, hs, fun b => by simp [cntL]⟩
  | cons x rs ih =>
    intro af st xs st' hs h
    cases x with
    | tmp t =>
      simp only [resL] at h
      cases hr : resL E rs (stripAt af (.tmp t)) st with
      | none => simp [hr] at h
      | some p =>
        simp only [hr, Option.map_some, Option.some.injEq, Prod.mk.injEq] at h; obtain ⟨rfl, rfl⟩ := h
        obtain ⟨vs, r1, r2, r3, r4, af', r5, r6⟩ := ih (hs.stripAt (.tmp t)) hr
        refine ⟨a.tmps.getD t undef :: vs, ?_, .cons (hs.rd 0 (.tmp t)) r2, ?_, r4, af', r5, fun b => ?_⟩
        · rw [List.mapM_cons, Sem.run_bind]; simp only [resOne, Sem.run_pure, Result.andThen_ok]; rw [Sem.run_bind, r1]; rfl
        · rw [ownL]; exact ⟨hs.rd_own 0 (.tmp t), r3⟩
        · have := r6 b
          have := hs.rd_cnt 0 (.tmp t) b
          simp only [rd, Act.eval] at this
          rw [cntL]
          omega
    | cell i t =>
      simp only [resL] at h
      split at h
      · rename_i r st1 hc
        cases hr : resL E rs af st1 with
        | none => simp [hr] at h
        | some p =>
          simp only [hr, Option.map_some, Option.some.injEq, Prod.mk.injEq] at h; obtain ⟨rfl, rfl⟩ := h
          obtain ⟨u, c1, c2, c3, c4, c5, c6⟩ := resCell_sound hs (hs.rd 0 (.tmp i)) hc
          obtain ⟨vs, r1, r2, r3, r4, af', r5, r6⟩ := ih c4 hr
          refine ⟨u :: vs, ?_, .cons c2 r2, by rw [ownL]; exact ⟨c3, r3⟩, by omega, af', r5, fun b => ?_⟩
          · rw [List.mapM_cons, Sem.run_bind]
            simp only [Act.eval] at c1
            simp only [resOne]
            rw [c1]; simp only [Result.andThen_ok]; rw [Sem.run_bind, r1]; rfl
          · have := r6 b
            have := c6 b
            rw [cntL]
            omega
      · cases h

theorem acall_of {f : FuncId} {fn : Func} {c : Code} {args : List AVal} {Q : AVal → St → Prop} (hf : E.P.funcs[f]? = some fn) (hb : fn.body = some c)
    (h : AWp E c (retPost E fn Q) (args ++ List.replicate (fn.ntmps - args.length) .any) st) : ACall E f args st Q := by
  constructor
  intro F Γ w cargs hs
  have hlen : args.length = cargs.size := by rw [hs.rep.length, Array.length_toList]
  have hrepl : ∀ n, RepL Γ (List.replicate n .any) (List.replicate n undef) ∧ ownL Γ w (List.replicate n .any) (List.replicate n undef) ∧ ∀ b, cntL b (List.replicate n .any) (List.replicate n undef) = 0 := by
    intro n
    induction n with
    | zero => exact ⟨.nil, by simp [ownL], fun b => by simp [cntL]⟩
    | succ n ih => exact ⟨.cons (.any _) ih.1, by rw [List.replicate_succ, List.replicate_succ, ownL]; exact ⟨by simp [VM.own], ih.2.1⟩, fun b => by rw [List.replicate_succ, List.replicate_succ, cntL, ih.2.2 b]; simp [cnt]⟩
  have happ : ∀ (xs : List AVal) (vs : List Value), xs.length = vs.length → ownL Γ w xs vs → ∀ n, ownL Γ w (xs ++ List.replicate n .any) (vs ++ List.replicate n undef) ∧ ∀ b, cntL b (xs ++ List.replicate n .any) (vs ++ List.replicate n undef) = cntL b xs vs := by
    intro xs
    induction xs with
    | nil => intro vs hl _ n; cases vs with
      | nil => exact ⟨(hrepl n).2.1, fun b => by rw [List.nil_append, List.nil_append, (hrepl n).2.2 b]; simp [cntL]⟩
      | cons _ _ => simp at hl
    | cons x xs ih => intro vs hl ho n; cases vs with
      | nil => simp at hl
      | cons v vs =>
        rw [ownL] at ho
        obtain ⟨i1, i2⟩ := ih vs (by simpa using hl) ho.2 n
        exact ⟨by rw [List.cons_append, List.cons_append, ownL]; exact ⟨ho.1, i1⟩, fun b => by rw [List.cons_append, List.cons_append, cntL, cntL, i2 b]⟩
  have htm : (cargs ++ Array.replicate (fn.ntmps - cargs.size) undef).toList = cargs.toList ++ List.replicate (fn.ntmps - args.length) undef := by
    rw [Array.toList_append, Array.toList_replicate, hlen]
  refine calls_of_wp hf hb (wp_mono (h.go F Γ w { tmps := cargs ++ Array.replicate (fn.ntmps - cargs.size) undef, defers := [] } rfl ?_) ?_)
  · simp only
    rw [htm]
    obtain ⟨o1, o2⟩ := happ args cargs.toList hs.rep.length hs.own (fn.ntmps - args.length)
    exact { hs with rep := hs.rep.append (hrepl _).1, own := o1, tok := fun b => by rw [o2 b]; exact hs.tok b }
  · intro e a' w' hq
    obtain ⟨h0, hd, Γ', af', st', x1, n1, s1, q1⟩ := hq
    have fin : (match resL E fn.results.toList af' st' with
        | some (rs, st') => ∃ m, m.Sublist st'.m ∧ Q (match rs with | [r] => r | rs => .tuple rs) { st' with m := m }
        | none => False) → ∃ v, (results fn a'.tmps).run E.P w' = .ok v w' ∧ ∃ v1, Ending.returned v = .returned v1 ∧ ∃ Γ' r st', Ext F Γ w Γ' w' ∧ st.next ≤ st'.next ∧ Sim E F Γ' st' w' [r] [v1] ∧ Q r st' := by
      intro q
      split at q
      · rename_i rs st2 hres
        obtain ⟨m, hm, hQ⟩ := q
        obtain ⟨vs, r1, r2, r3, r4, af2, r5, r6⟩ := resL_sound fn.results.toList s1 hres
        have hrun : (results fn a'.tmps).run E.P w' = .ok (if h : vs.toArray.size = 1 then vs.toArray[0] else .tuple vs.toArray) w' := by
          have e : results fn a'.tmps = (do
            let vs ← fn.results.mapM (resOne a'.tmps)
            pure (if h : vs.size = 1 then vs[0] else .tuple vs)) := rfl
          rw [e, Array.mapM_eq_mapM_toList, Sem.run_bind, Sem.run_map, r1]
          rfl
        refine ⟨_, hrun, _, rfl, Γ', _, { st2 with m := m }, x1, by show st.next ≤ st2.next; omega, ?_, hQ⟩
        have s2 := r5.fewer hm
        have hcm : ∀ n, cntM Γ' w' n m ≤ cntM Γ' w' n st2.m := fun n => cntM_sub hm n
        have htok : ∀ b, F b + cntL b rs vs + cntM Γ' w' b m ≤ 1 := by
          intro b
          have := r6 b
          have := s1.tok b
          have := hcm b
          omega
        cases r2 with
        | nil =>
          simp only [List.size_toArray, List.length_nil]
          exact { s2 with rep := .cons (.tuple .nil) .nil, own := by simp [ownL, VM.own], tok := fun b => by have := htok b; simpa [cntL, cnt] using this }
        | cons hr t =>
          cases t with
          | nil =>
            simp only [List.size_toArray, List.length_cons, List.length_nil, Nat.zero_add, dite_true]
            exact { s2 with rep := .cons hr .nil, own := r3, tok := htok }
          | cons hy t =>
            rename_i x v y u xs us
            have hne : ¬ ((v :: u :: us : List Value).toArray.size = 1) := by simp
            rw [dif_neg hne]
            have hrp : RepL Γ' (x :: y :: xs) (v :: u :: us) := .cons hr (.cons hy t)
            exact { s2 with rep := .cons (.tuple (by simpa using hrp)) .nil, own := by rw [ownL]; exact ⟨by simpa [VM.own] using r3, by simp [ownL]⟩, tok := fun b => by have := htok b; simpa [cntL, cnt] using this }
      · cases q
    cases e with
    | normal => obtain ⟨v, hr, hR⟩ := fin q1; exact ⟨hd, v, hr, hR⟩
    | ret => obtain ⟨v, hr, hR⟩ := fin q1; exact ⟨hd, v, hr, hR⟩
    | exit id => exact q1.elim
    | goto l => exact h0.elim
    | panic c => exact h0.elim
    | outgrown => exact h0.elim
end
end Go.VM
