/- Struct, array and slice literals. -/
import Derived.Test.YtdbeiialamganaaVMMem3
set_option linter.unusedVariables false
namespace Go.VM

/-- the parts of a literal, read one after the other, each moved out of its slot -/
def rdParts (E : Env) (ty : Nat → TypeId) : List AVal → List (Nat × Operand) → List AVal × List (Nat × AVal)
  | af, [] => (af, [])
  | af, (i, x) :: r => ((rdParts E ty (stripAt af x) r).1, (i, rd E af (ty i) x) :: (rdParts E ty (stripAt af x) r).2)

def partsRep (Γ : Ghost) (w : World) : List (Nat × AVal) → List (Nat × Value) → Prop
  | [], [] => True
  | (i, x) :: ps, (j, v) :: us => i = j ∧ Rep Γ x v ∧ own Γ w x v ∧ partsRep Γ w ps us
  | _, _ => False
def cntP (b : Nat) : List (Nat × AVal) → List (Nat × Value) → Nat
  | (_, x) :: ps, (_, v) :: us => cnt b x v + cntP b ps us
  | _, _ => 0
def fillA (place : Nat → Option (Nat × Nat)) (cs : List AVal) : List (Nat × AVal) → Option (List AVal)
  | [] => some cs
  | (i, x) :: rest =>
    match place i with
    | some (off, size) => if okBox x = true ∧ (cellsA x).length = size ∧ off + size ≤ cs.length then fillA place (putCells cs off (cellsA x)) rest else none
    | none => none

def fieldT (P : Program) (t : TypeId) (i : Nat) : TypeId :=
  match P.underlying t with
  | some (.struct fs) => (fs[i]?.map (·.type)).getD 0
  | some (.array _ e) => e
  | some (.slice e) => e
  | _ => 0
def placeA (P : Program) (t : TypeId) : Option (Nat → Option (Nat × Nat)) :=
  match P.underlying t with
  | some (.struct fs) => (fs.toList.mapM fun f => (P.info? f.type).map fun i => (f.offset, i.size)).map fun l i => l[i]?
  | some (.array _ e) => (P.info? e).map fun ie i => some (i * ie.size, ie.size)
  | _ => none
def placeAt (P : Program) (t : TypeId) (i : Nat) : Option (Nat × Nat) := (placeA P t).bind (· i)
def buildA (E : Env) (t : TypeId) (ps : List (Nat × AVal)) : Option AVal :=
  match zeroA E.P t, (placeA E.P t).isSome with
  | some (.agg cs), true => (fillA (placeAt E.P t) cs ps).map .agg
  | _, _ => none

theorem zeroA_spec {P : Program} {t : TypeId} {z : AVal} (h : zeroA P t = some z) : ∃ i v, P.info? t = some i ∧ i.zero = some v ∧ constRep z v = true := by
  unfold zeroA at h
  split at h
  · rename_i i hi
    split at h
    · rename_i v hv
      simp only at h
      split at h
      · rename_i hc
        simp only [Option.some.injEq] at h
        subst h
        exact ⟨i, v, hi, hv, hc⟩
      · cases h
    · cases h
  · cases h

section
variable {E : Env} {F : Nat → Nat} {Γ : Ghost} {st : St} {w : World} {af : List AVal} {a : Act}

theorem fold_put (off : Nat) : ∀ (l : List Value) (k : Nat) (cs : Array Value), ((l.zipIdx k).foldl (fun cs x => cs.setIfInBounds (off + x.2) x.1) cs).toList = putV cs.toList (off + k) l := by
  intro l
  induction l with
  | nil => intro k cs; rfl
  | cons v l ih =>
    intro k cs
    simp only [List.zipIdx_cons, List.foldl_cons, putV]
    rw [ih (k + 1)]
    simp [Nat.add_assoc]

theorem RepL.putV {xs cs : List AVal} {us vs : List Value} (h : RepL Γ cs vs) (k : RepL Γ xs us) (off : Nat) : RepL Γ (putCells cs off xs) (VM.putV vs off us) := by
  induction xs generalizing cs us vs off with
  | nil => cases k; exact h
  | cons x xs ih =>
    cases k with
    | cons hx t => exact ih (h.set off hx) t (off + 1)
theorem ownL.putV {xs cs : List AVal} {us vs : List Value} (h : ownL Γ w cs vs) (hl : xs.length = us.length) (k : ownL Γ w xs us) (off : Nat) : ownL Γ w (putCells cs off xs) (VM.putV vs off us) := by
  induction xs generalizing cs us vs off with
  | nil => cases us with
    | nil => exact h
    | cons _ _ => simp at hl
  | cons x xs ih =>
    cases us with
    | nil => simp at hl
    | cons u us =>
      rw [ownL] at k
      exact ih (h.set off k.1) (by simpa using hl) k.2 (off + 1)
theorem cntL_putV_le (b : Nat) {xs cs : List AVal} {us vs : List Value} (hl : xs.length = us.length) (off : Nat) : cntL b (putCells cs off xs) (VM.putV vs off us) ≤ cntL b cs vs + cntL b xs us := by
  induction xs generalizing cs us vs off with
  | nil => cases us with
    | nil => simp [putCells, VM.putV]
    | cons _ _ => simp at hl
  | cons x xs ih =>
    cases us with
    | nil => simp at hl
    | cons u us =>
      have h1 := ih (cs := cs.set off x) (vs := vs.set off u) (us := us) (by simpa using hl) (off + 1)
      have h2 := cntL_set_le b cs vs off x u
      rw [cntL]
      simp only [putCells, VM.putV]
      omega
theorem putV_mem {l us : List Value} {off : Nat} {v : Value} (h : v ∈ VM.putV l off us) : v ∈ l ∨ v ∈ us := by
  induction us generalizing l off with
  | nil => exact .inl h
  | cons u us ih =>
    rcases ih h with h | h
    · rcases List.mem_or_eq_of_mem_set h with h | h
      · exact .inl h
      · subst h; exact .inr (by simp)
    · exact .inr (List.mem_cons_of_mem _ h)

theorem fillA_sound {place : Nat → Option (Nat × Nat)} {ps : List (Nat × AVal)} : ∀ {us : List (Nat × Value)} {cs cs' : List AVal} {arr : Array Value}, RepL Γ cs arr.toList → ownL Γ w cs arr.toList → (∀ v, v ∈ arr.toList → v.oneCell' = true) → partsRep Γ w ps us → fillA place cs ps = some cs' →
    ∃ arr', Instr.fill place arr us = some arr' ∧ RepL Γ cs' arr'.toList ∧ ownL Γ w cs' arr'.toList ∧ (∀ v, v ∈ arr'.toList → v.oneCell' = true) ∧ ∀ b, cntL b cs' arr'.toList ≤ cntL b cs arr.toList + cntP b ps us := by
  induction ps with
  | nil =>
    intro us cs cs' arr hr ho h1 hp h
    cases us with
    | nil =>
      simp only [fillA, Option.some.injEq] at h; subst h
      exact ⟨arr, rfl, hr, ho, h1, fun b => by simp⟩
    | cons u us => simp [partsRep] at hp
  | cons p ps ih =>
    intro us cs cs' arr hr ho h1 hp h
    obtain ⟨i, x⟩ := p
    cases us with
    | nil => simp [partsRep] at hp
    | cons u us =>
      obtain ⟨j, v⟩ := u
      simp only [partsRep] at hp
      obtain ⟨rfl, hx, hox, hp⟩ := hp
      simp only [fillA] at h
      split at h
      · rename_i off size hpl
        split at h
        · rename_i hc
          obtain ⟨hok, hsz, hfit⟩ := hc
          have hxc := hx.cellsOK hok
          have hvs : v.cells.size = size := by rw [← hsz, hxc.length, Array.length_toList]
          have hlen : cs.length = arr.size := by rw [hr.length, Array.length_toList]
          have hfold : (v.cells.zipIdx.foldl (fun cs x => cs.setIfInBounds (off + x.2) x.1) arr).toList = VM.putV arr.toList off v.cells.toList := by
            rw [← Array.foldl_toList, Array.toList_zipIdx]
            exact fold_put off v.cells.toList 0 arr
          generalize hga : v.cells.zipIdx.foldl (fun cs x => cs.setIfInBounds (off + x.2) x.1) arr = arr1 at hfold
          have hr1 : RepL Γ (putCells cs off (cellsA x)) arr1.toList := by rw [hfold]; exact hr.putV hxc off
          have ho1 : ownL Γ w (putCells cs off (cellsA x)) arr1.toList := by rw [hfold]; exact ho.putV hxc.length (own_cells hx hok hox) off
          obtain ⟨arr', q1, q2, q3, q4, q5⟩ := ih hr1 ho1 (by rw [hfold]; intro u hu; rcases putV_mem hu with hu | hu
                                                              · exact h1 u hu
                                                              · exact hx.one hok u hu) hp h
          refine ⟨arr', ?_, q2, q3, q4, fun b => ?_⟩
          · rw [Instr.fill]
            simp only [hpl]
            rw [if_neg (by simp only [hvs, ne_eq, not_true_eq_false, decide_false, Bool.false_or, decide_eq_true_eq]; omega)]
            rw [← q1, ← hga]
          · have e1 := q5 b
            have e2 := cntL_putV_le b (cs := cs) (vs := arr.toList) hxc.length off
            rw [← hfold] at e2
            have e3 := cnt_cells hx hok b
            simp only [cntP]
            omega
        · cases h
      · cases h

theorem rdParts_sound (ty : Nat → TypeId) : ∀ (ps : List (Nat × Operand)) {af : List AVal}, Sim E F Γ st w af a.tmps.toList →
    Sim E F Γ st w (rdParts E ty af ps).1 a.tmps.toList ∧ partsRep Γ w (rdParts E ty af ps).2 (ps.map fun p => (p.1, a.eval p.2)) ∧
      ∀ b, cntL b (rdParts E ty af ps).1 a.tmps.toList + cntP b (rdParts E ty af ps).2 (ps.map fun p => (p.1, a.eval p.2)) = cntL b af a.tmps.toList := by
  intro ps
  induction ps with
  | nil => intro af hs; exact ⟨hs, trivial, fun b => by simp [rdParts, cntP]⟩
  | cons p ps ih =>
    intro af hs
    obtain ⟨i, x⟩ := p
    obtain ⟨h1, h2, h3⟩ := ih (hs.stripAt x)
    refine ⟨h1, ⟨rfl, hs.rd _ x, hs.rd_own _ x, h2⟩, fun b => ?_⟩
    have := h3 b
    have := hs.rd_cnt (ty i) x b
    simp only [rdParts, List.map_cons, cntP]
    omega

theorem build_step (hs : Sim E F Γ st w af a.tmps.toList) {o : Oper} {t : TypeId} {ps : List (Nat × Operand)} {r : AVal} (hop : o.op = .build t ⟨ps⟩) (h : buildA E t (rdParts E (fieldT E.P t) af ps).2 = some r) :
    ∃ nx w' a' Γ', Stepped E F Γ st w a o (putA (rdParts E (fieldT E.P t) af ps).1 o.dst r) st nx w' a' Γ' := by
  obtain ⟨h1, h2, h3⟩ := rdParts_sound (fieldT E.P t) ps hs
  unfold buildA at h
  split at h
  · rename_i cs hz hpl
    obtain ⟨i, zv, hi, hzv, hcr⟩ := zeroA_spec hz
    have hzc := constRep_sound Γ w _ _ hcr
    obtain ⟨arr, rfl⟩ : ∃ arr, zv = .agg arr := by
      have := hzc.rep; cases this; exact ⟨_, rfl⟩
    cases hf : fillA (placeAt E.P t) cs (rdParts E (fieldT E.P t) af ps).2 with
    | none => simp [hf] at h
    | some cs' =>
      simp only [hf, Option.map_some, Option.some.injEq] at h; subst h
      have hrep := hzc.rep
      cases hrep with
      | agg hr h1c =>
        obtain ⟨arr', q1, q2, q3, q4, q5⟩ := fillA_sound hr (by have := hzc.own; simpa [VM.own] using this) h1c h2 hf
        have hb : E.P.built t (ps.map fun p => (p.1, a.eval p.2)) = some arr' := by
          unfold Program.built
          unfold placeA at hpl
          rw [hi]
          split at hpl
          · rename_i fs hu
            cases hm : fs.toList.mapM (fun f => (E.P.info? f.type).map fun i => (f.offset, i.size)) with
            | none => rw [hm] at hpl; simp at hpl
            | some l =>
              have e : placeAt E.P t = fun i => l[i]? := by
                funext i; simp [placeAt, placeA, hu, hm]
              rw [e] at q1
              simp only [hu, hzv, hm, Value.cells]
              simpa using q1
          · rename_i n e hu
            cases hie : E.P.info? e with
            | none => rw [hie] at hpl; simp at hpl
            | some ie =>
              have e' : placeAt E.P t = fun i => some (i * ie.size, ie.size) := by
                funext i; simp [placeAt, placeA, hu, hie]
              rw [e'] at q1
              simp only [hu, hzv, hie, Value.cells]
              exact q1
          · simp at hpl
        have hparts : (Array.map (fun x => (x.fst, a.eval x.snd)) ⟨ps⟩).toList = ps.map fun p => (p.1, a.eval p.2) := by simp
        have hrun := run_build w t (Array.map (fun x => (x.fst, a.eval x.snd)) ⟨ps⟩) arr' (by rw [hparts]; exact hb)
        refine ⟨.value (.agg arr'), w, a.put o.dst (.agg arr'), Γ, ?_, fun K Q hk => hk, put_defers _ _ _, Ext.refl _ _ _, Nat.le_refl _, ?_⟩
        · simp only [execOp, hop]
          rw [Sem.run_bind, hrun]; rfl
        · refine h1.put o.dst (.agg q2 q4) (by simp only [VM.own]; exact q3) fun b => ?_
          have e1 := q5 b
          have e2 := h3 b
          have e3 := hzc.cnt b
          simp only [cnt] at e3 ⊢
          have := hs.tok b
          omega
  · cases h

/-- a slice literal with all its elements, in order -/
def buildSliceA (E : Env) (t : TypeId) (len : Nat) (ps : List (Nat × AVal)) : Option AVal :=
  match appI E.P t with
  | some (z, _) =>
    if len * z ≤ 16777216 ∧ len ≤ maxN ∧ ps.map (·.1) = List.range len ∧ (ps.all fun p => okBox p.2 && (cellsA p.2).length == z) = true then some (.slice z (ps.map fun p => p.2.strip) true) else none
  | none => none

theorem fill_all {z : Nat} : ∀ {ps : List (Nat × AVal)} {us : List (Nat × Value)} {k n : Nat} {pre rest : List Value} {arr : Array Value}, arr.toList = pre ++ rest → pre.length = k * z → rest.length = n * z → ps.map (·.1) = List.range' k n → partsRep Γ w ps us → (∀ p, p ∈ ps → okBox p.2 = true ∧ (cellsA p.2).length = z) →
    ∃ arr' new, Instr.fill (fun i => some (i * z, z)) arr us = some arr' ∧ arr'.toList = pre ++ new ∧ RepS Γ z (ps.map fun p => p.2.strip) new ∧ new.length = n * z ∧ ∀ v, v ∈ new → v.oneCell' = true := by
  intro ps
  induction ps with
  | nil =>
    intro us k n pre rest arr harr hpre hrest hidx hp hok
    have hn : n = 0 := by have := congrArg List.length hidx; simpa using this.symm
    subst hn
    cases us with
    | nil =>
      have : rest = [] := List.eq_nil_of_length_eq_zero (by simpa using hrest)
      subst this
      exact ⟨arr, [], rfl, harr, .nil _ _, by simp, by simp⟩
    | cons u us => simp [partsRep] at hp
  | cons p ps ih =>
    intro us k n pre rest arr harr hpre hrest hidx hp hok
    obtain ⟨i, x⟩ := p
    cases us with
    | nil => simp [partsRep] at hp
    | cons u us =>
      obtain ⟨j, v⟩ := u
      simp only [partsRep] at hp
      obtain ⟨rfl, hx, hox, hp⟩ := hp
      cases n with
      | zero => simp at hidx
      | succ n =>
        simp only [List.map_cons, List.range'_succ, List.cons.injEq] at hidx
        obtain ⟨rfl, hidx⟩ := hidx
        obtain ⟨hokx, hzx⟩ := hok (i, x) (by simp)
        have hxc := hx.cellsOK hokx
        have hvs : v.cells.size = z := by rw [← hzx, hxc.length, Array.length_toList]
        have hsize : arr.size = (i + (n + 1)) * z := by rw [← Array.length_toList, harr, List.length_append, hpre, hrest, ← Nat.add_mul]
        have hzr : z ≤ rest.length := by rw [hrest, Nat.succ_mul]; omega
        have hfold : (v.cells.zipIdx.foldl (fun cs x => cs.setIfInBounds (i * z + x.2) x.1) arr).toList = pre ++ v.cells.toList ++ rest.drop z := by
          rw [← Array.foldl_toList, Array.toList_zipIdx, fold_put (i * z) v.cells.toList 0 arr, harr, Nat.add_zero, ← hpre]
          rw [putV_append _ _ _ (by rw [Array.length_toList, hvs]; exact hzr), Array.length_toList, hvs]
        generalize hga : v.cells.zipIdx.foldl (fun cs x => cs.setIfInBounds (i * z + x.2) x.1) arr = arr1 at hfold
        obtain ⟨arr', new, q1, q2, q3, q4, q5⟩ := ih (k := i + 1) (n := n) (pre := pre ++ v.cells.toList) (rest := rest.drop z) hfold (by rw [List.length_append, hpre, Array.length_toList, hvs, Nat.succ_mul]) (by rw [List.length_drop, hrest, Nat.succ_mul]; omega) hidx hp (fun q hq => hok q (List.mem_cons_of_mem _ hq))
        refine ⟨arr', v.cells.toList ++ new, ?_, by rw [q2, List.append_assoc], ?_, by rw [List.length_append, q4, Array.length_toList, hvs, Nat.succ_mul]; omega, ?_⟩
        · rw [Instr.fill]
          simp only
          rw [if_neg]
          · rw [← q1, ← hga]
          · simp only [hvs, ne_eq, not_true_eq_false, decide_false, Bool.false_or, decide_eq_true_eq, Nat.not_lt, hsize, Nat.add_mul, Nat.succ_mul]
            omega
        · exact .cons hx.strip ⟨hvs, hx.one hokx⟩ q3
        · intro u hu
          rcases List.mem_append.1 hu with hu | hu
          · exact hx.one hokx u hu
          · exact q5 u hu

theorem buildSlice_step (hs : Sim E F Γ st w af a.tmps.toList) {o : Oper} {t : TypeId} {len : Nat} {ps : List (Nat × Operand)} {r : AVal} (hop : o.op = .buildSlice t len ⟨ps⟩) (h : buildSliceA E t len (rdParts E (fun _ => fieldT E.P t 0) af ps).2 = some r) :
    ∃ nx w' a' Γ', Stepped E F Γ st w a o (putA af o.dst r) st nx w' a' Γ' := by
  obtain ⟨h1, h2, h3⟩ := rdParts_sound (fun _ => fieldT E.P t 0) ps hs
  generalize hps : (rdParts E (fun _ => fieldT E.P t 0) af ps).2 = qs at *
  unfold buildSliceA at h
  split at h
  · rename_i z by_ hap
    split at h
    · rename_i hc
      obtain ⟨hsz, hln, hidx, hall⟩ := hc
      simp only [Option.some.injEq] at h; subst h
      obtain ⟨e, i, zv, hu, hi, hz, hzs, his, hib⟩ := appI_spec hap
      have hok : ∀ p, p ∈ qs → okBox p.2 = true ∧ (cellsA p.2).length = z := by
        intro p hp
        have := List.all_eq_true.1 hall p hp
        simp only [Bool.and_eq_true, beq_iff_eq] at this
        exact this
      have hqlen : qs.length = len := by have := congrArg List.length hidx; simpa using this
      -- the cells to begin with
      generalize hzero : (if len * z = 0 then (#[] : Array Value) else zv.cells) = zero
      have hfill := fill_all (Γ := Γ) (w := w) (z := z) (ps := qs) (us := ps.map fun p => (p.1, a.eval p.2)) (k := 0) (n := len) (pre := []) (rest := ((Array.range (len * z)).map (fun j => zero[j % zero.size]!)).toList) (arr := (Array.range (len * z)).map (fun j => zero[j % zero.size]!)) (by simp) (by simp) (by simp) (by rw [hidx, List.range_eq_range']) h2 hok
      obtain ⟨arr', new, q1, q2, q3, q4, q5⟩ := hfill
      rw [List.nil_append] at q2
      have hrun : (execOp a.eval o).run E.P w = .ok (.value (.slice (some ⟨w.heap.size, 0, none⟩) len len)) (w.alloc (.cells arr' e)) := by
        have hs0 : (sizeOf e).run E.P w = .ok z w := by simp [sizeOf, typeInfo, hi, his]
        have hparts : (Array.map (fun x => (x.fst, a.eval x.snd)) ⟨ps⟩).toList = ps.map fun p => (p.1, a.eval p.2) := by simp
        have hzz : (zeroValue e).run E.P w = .ok zv w := by simp [zeroValue, typeInfo, hi, hz]
        have hsz' : ¬ (len * z > 2 ^ 24) := by omega
        simp only [execOp, hop, Instr.buildSlice]
        rw [Sem.run_bind, Sem.run_bind, run_underlying hu]
        simp only [Result.andThen_ok]
        rw [Sem.run_bind, hs0]
        simp only [Result.andThen_ok, hsz', if_false]
        by_cases hlz : len * z = 0
        · rw [if_pos hlz] at hzero
          subst hzero
          simp only [hlz, if_true, hparts]
          rw [hlz] at q1
          rw [Sem.run_bind, Sem.run_pure]
          simp only [Result.andThen_ok, q1]
          rfl
        · rw [if_neg hlz] at hzero
          subst hzero
          simp only [hlz, if_false, hparts]
          rw [Sem.run_bind, hzz]
          simp only [Result.andThen_ok]
          rw [Sem.run_bind, Sem.run_pure]
          simp only [Result.andThen_ok, q1]
          rfl
      obtain ⟨s2, x2, hcm⟩ := hs.newArr (cells := arr') (e := e) (pre := new) (spare := []) (fz := (0, 0)) (by simpa using q2) q5
      refine ⟨_, _, a.put o.dst _, _, hrun, fun K Q hk => hk, put_defers _ _ _, x2, Nat.le_refl _, ?_⟩
      refine s2.put o.dst (.slice _ (cells := new) (by simp [Ghost.arr]) (by simp [hqlen]) ⟨Nat.le_refl _, hln⟩ (by rw [List.drop_zero]; exact q3.mono x2.le)) ?_ ?_
      · simp only [VM.own, ownTip]; intro hlt; omega
      · intro n
        have := hcm n
        simp only [cnt, cntTip, Nat.lt_irrefl, false_and, if_false]
        omega
    · cases h
  · cases h
end
end Go.VM
