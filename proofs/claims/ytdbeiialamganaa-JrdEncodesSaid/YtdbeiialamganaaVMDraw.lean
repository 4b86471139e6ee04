/- Regions that draw their order: what an operation looks at. -/
import Derived.Test.YtdbeiialamganaaVMRules
set_option linter.unusedVariables false
namespace Go.VM

/-- the slots of an operation's operands -/
def slots (o : Oper) : List Tmp := o.op.operands.toList.filterMap fun | .tmp t => some t | _ => none

theorem notin_slots {o : Oper} {d : Tmp} (h : d ∉ slots o) {x : Operand} (hx : x ∈ o.op.operands) : x ≠ .tmp d := by
  intro e; subst e
  exact h (List.mem_filterMap.2 ⟨.tmp d, by simpa using hx, rfl⟩)

section
variable {E : Env} {af : List AVal} {st : St} {d : Tmp} {v : AVal}

theorem rd_set {t : TypeId} {x : Operand} (h : x ≠ .tmp d) : rd E (af.set d v) t x = rd E af t x := by
  cases x with
  | tmp i =>
    have : d ≠ i := fun e => h (by rw [e])
    simp [rd, List.getD, List.getElem?_set_ne this]
  | _ => rfl
theorem stripAt_set {x : Operand} (h : x ≠ .tmp d) : stripAt (af.set d v) x = (stripAt af x).set d v := by
  cases x with
  | tmp i =>
    have : d ≠ i := fun e => h (by rw [e])
    simp only [stripAt]
    rw [List.set_comm _ _ this]
    congr 2
    simp [List.getD, List.getElem?_set_ne this]
  | _ => rfl
theorem putA_set {dst : Option Tmp} (h : dst ≠ some d) (r : AVal) : putA (af.set d v) dst r = (putA af dst r).set d v := by
  cases dst with
  | none => rfl
  | some e =>
    have : d ≠ e := fun he => h (by rw [he])
    simp only [putA]
    exact List.set_comm _ _ this
theorem rdo_set {x : Option Operand} (h : ∀ y, x = some y → y ≠ .tmp d) : rdo E (af.set d v) x = rdo E af x := by
  cases x with
  | none => rfl
  | some y => simp only [rdo, rd_set (h y rfl)]
theorem rdL_set : ∀ (xs : List Operand) (ts : List TypeId), (∀ x, x ∈ xs → x ≠ .tmp d) → rdL E (af.set d v) xs ts = rdL E af xs ts
  | [], _, _ => rfl
  | x :: xs, [], h => by simp only [rdL, rd_set (h x (by simp)), rdL_set xs [] (fun y hy => h y (List.mem_cons_of_mem _ hy))]
  | x :: xs, t :: ts, h => by simp only [rdL, rd_set (h x (by simp)), rdL_set xs ts (fun y hy => h y (List.mem_cons_of_mem _ hy))]
theorem rdParts_set {ty : Nat → TypeId} : ∀ (ps : List (Nat × Operand)) {af : List AVal}, (∀ p, p ∈ ps → p.2 ≠ .tmp d) → (rdParts E ty (af.set d v) ps).1 = (rdParts E ty af ps).1.set d v ∧ (rdParts E ty (af.set d v) ps).2 = (rdParts E ty af ps).2
  | [], _, _ => ⟨rfl, rfl⟩
  | (i, x) :: ps, af, h => by
    have hx := h (i, x) (by simp)
    obtain ⟨h1, h2⟩ := rdParts_set ps (af := stripAt af x) (fun p hp => h p (List.mem_cons_of_mem _ hp))
    simp only [rdParts, stripAt_set hx, rd_set hx]
    exact ⟨h1, by rw [h2]⟩

theorem pureVal_set {o : Oper} (h : d ∉ slots o) : pureVal E o (af.set d v) = pureVal E o af := by
  have hx := fun x => notin_slots h (x := x)
  unfold pureVal
  split
  · rename_i c x y hop
    simp only [hop, Op.operands] at hx
    rw [rd_set (hx c (by simp)), rd_set (hx x (by simp)), rd_set (hx y (by simp))]
  · rename_i x hop
    simp only [hop, Op.operands] at hx
    rw [rd_set (hx x (by simp))]
  · rename_i op t x y u hop
    simp only [hop, Op.operands] at hx
    rw [rd_set (hx x (by simp)), rd_set (hx y (by simp))]
  · rename_i op t x hop
    simp only [hop, Op.operands] at hx
    rw [rd_set (hx x (by simp))]
  · rename_i s e x hop
    simp only [hop, Op.operands] at hx
    rw [rd_set (hx x (by simp))]
  · rename_i f p q hop
    simp only [hop, Op.operands] at hx
    have e1 : p.toList.map (rd E (af.set d v) 0) = p.toList.map (rd E af 0) := List.map_congr_left fun y hy => rd_set (hx y (by simp; exact .inl (by simpa using hy)))
    have e2 : q.toList.map (rd E (af.set d v) 0) = q.toList.map (rd E af 0) := List.map_congr_left fun y hy => rd_set (hx y (by simp; exact .inr (by simpa using hy)))
    rw [e1, e2]
  · rename_i s x f hop
    simp only [hop, Op.operands] at hx
    rw [rd_set (hx x (by simp))]
  · rename_i s x f hop
    simp only [hop, Op.operands] at hx
    rw [rd_set (hx x (by simp))]
  · rename_i t x i hop
    simp only [hop, Op.operands] at hx
    rw [rd_set (hx x (by simp)), rd_set (hx i (by simp))]
  · rename_i t x i hop
    simp only [hop, Op.operands] at hx
    rw [rd_set (hx x (by simp)), rd_set (hx i (by simp))]
  · rename_i x t ts hop
    simp only [hop, Op.operands, Call.operands] at hx
    rw [rd_set (hx x (by simp))]
  · rename_i x y ts hop
    simp only [hop, Op.operands, Call.operands] at hx
    rw [rd_set (hx x (by simp)), rd_set (hx y (by simp))]
  · rename_i x y ts hop
    simp only [hop, Op.operands, Call.operands] at hx
    rw [rd_set (hx x (by simp)), rd_set (hx y (by simp))]
  · rfl

/-- an operation does not care for a slot that it does not look at -/
theorem stepOp_set {mv : List Tmp} {o : Oper} (h : d ∉ slots o) (hd : o.dst ≠ some d) : stepOp E mv o (af.set d v) st = (stepOp E mv o af st).map fun p => (p.1.set d v, p.2) := by
  have hx := fun x => notin_slots h (x := x)
  unfold stepOp
  split
  · rename_i x hop
    simp only [hop, Op.operands] at hx
    split <;> simp [rd_set (hx x (by simp)), stripAt_set (hx x (by simp)), putA_set hd]
  · rename_i x hop
    simp only [hop, Op.operands] at hx
    simp [rd_set (hx x (by simp)), stripAt_set (hx x (by simp)), putA_set hd]
  · rename_i t hop
    cases zeroA E.P t <;> simp [putA_set hd]
  · rename_i t x hop
    simp only [hop, Op.operands] at hx
    rw [rd_set (hx x (by simp)), stripAt_set (hx x (by simp))]
    split <;> simp [putA_set hd]
  · rename_i t ps hop
    simp only [hop, Op.operands] at hx
    obtain ⟨h1, h2⟩ := rdParts_set (E := E) (v := v) (ty := fieldT E.P t) ps (af := af) (fun p hp => hx p.2 (by simp; exact ⟨p.1, hp⟩))
    rw [h1, h2]
    cases buildA E t (rdParts E (fieldT E.P t) af ps).2 <;> simp [putA_set hd]
  · rename_i t len ps hop
    simp only [hop, Op.operands] at hx
    obtain ⟨h1, h2⟩ := rdParts_set (E := E) (v := v) (ty := fun _ => fieldT E.P t 0) ps (af := af) (fun p hp => hx p.2 (by simp; exact ⟨p.1, hp⟩))
    rw [h2]
    cases buildSliceA E t len (rdParts E (fun _ => fieldT E.P t 0) af ps).2 <;> simp [putA_set hd]
  · rename_i t x hop
    simp only [hop, Op.operands] at hx
    rw [rd_set (hx x (by simp))]
    split
    · cases loadMv E t (rd E af 0 x) st <;> simp [putA_set hd]
    · cases loadA E t (rd E af 0 x) st <;> simp [putA_set hd]
  · rename_i t x y hop
    simp only [hop, Op.operands] at hx
    rw [rd_set (hx x (by simp)), rd_set (hx y (by simp)), stripAt_set (hx y (by simp))]
    split
    · cases storeA E t (rd E af 0 x) (rd E af t y) st <;> simp
    · simp
  · rename_i t n hop
    simp only [hop, Op.operands] at hx
    have ht : d ≠ t := fun e => hx (.tmp t) (by simp) (by rw [e])
    have hg : (af.set d v).getD t .any = af.getD t .any := by simp [List.getD, List.getElem?_set_ne ht]
    rw [hg]
    split
    · rename_i vs hvs
      cases vs[n]? with
      | none => simp
      | some r => simp [List.set_comm _ _ ht, putA_set hd]
    · simp
  · rename_i t x hop
    simp only [hop, Op.operands] at hx
    rw [rd_set (hx x (by simp))]
    split
    · split <;> simp [putA_set hd]
    · simp
  · rename_i t hop
    simp only [hop, Op.operands] at hx
    have ht : d ≠ t := fun e => hx (.tmp t) (by simp) (by rw [e])
    have hg : (af.set d v).getD t .any = af.getD t .any := by simp [List.getD, List.getElem?_set_ne ht]
    rw [hg]
    split
    · unfold nextA
      split <;> simp [List.set_comm _ _ ht, putA_set hd]
    · simp
  · rename_i t x lo hi mx hop
    simp only [hop, Op.operands] at hx
    rw [rd_set (hx x (by simp)), rdo_set (fun y hy => hx y (by simp [hy])), rdo_set (fun y hy => hx y (by simp [hy])), rdo_set (fun y hy => hx y (by simp [hy]))]
    split
    · rename_i l hh m h1 h2 h3
      cases sliceA E t (rd E af t x) l hh m <;> simp [putA_set hd]
    · simp
  · rename_i x y t0 t1 ts hop
    simp only [hop, Op.operands, Call.operands] at hx
    rw [rd_set (hx x (by simp)), rd_set (hx y (by simp)), stripAt_set (hx x (by simp))]
    cases appendA E t0 t1 (rd E af t0 x) (rd E af t1 y) <;> simp [putA_set hd]
  · rw [pureVal_set h]
    cases pureVal E o af <;> simp [putA_set hd]

theorem opWp_set {mv : List Tmp} {o : Oper} {K : List AVal → St → Prop} (h : d ∉ slots o) (hd : o.dst ≠ some d) (hw : opWp E mv o (af.set d v) st K) : opWp E mv o af st fun af' st' => K (af'.set d v) st' := by
  have hx := fun x => notin_slots h (x := x)
  unfold opWp at *
  split at hw
  · rename_i f args ts hop
    simp only [hop, Op.operands, Call.operands] at hx
    rw [rd_set (hx f (by simp))] at hw
    split at hw
    · rename_i g p q e
      refine ⟨hw.1, ?_⟩
      have hw2 := hw.2
      rw [rdL_set _ _ (fun x hxm => hx x (by simp; exact .inr (by simpa using hxm)))] at hw2
      exact hw2.mono fun r st' _ q => by rw [putA_set hd] at q; exact q
    · cases hw
  · rw [stepOp_set h hd] at hw
    cases hs : stepOp E mv o af st with
    | none => rw [hs] at hw; exact hw.elim
    | some p => rw [hs] at hw; exact hw
end

/-- an operation that writes its slot and does nothing else that one could see; the value -/
def slotOp (E : Env) (o : Oper) (af : List AVal) (st : St) : Option AVal :=
  match o.op with
  | .move x => some (rd E af o.type x).strip
  | .load t x => (loadA E t (rd E af 0 x) st).map AVal.strip
  | .slice t x lo hi mx =>
    match rdo E af lo, rdo E af hi, rdo E af mx with
    | some l, some h, some m => sliceA E t (rd E af t x) l h m
    | _, _, _ => none
  | .buildSlice t len ⟨ps⟩ => buildSliceA E t len (rdParts E (fun _ => fieldT E.P t 0) af ps).2
  | .assign _ => none
  | .alloc _ => none
  | .box _ _ => none
  | .build _ _ => none
  | .store _ _ _ => none
  | .extract _ _ => none
  | .range _ _ => none
  | .next _ _ => none
  | .call { callee := .builtin .append, args := _, argTypes := _ } => none
  | _ => (pureVal E o af).map AVal.strip

theorem slotOp_step {E : Env} {o : Oper} {af : List AVal} {st : St} {r : AVal} (h : slotOp E o af st = some r) : stepOp E [] o af st = some (putA af o.dst r, st) := by
  have hm : ∀ dst, isMv [] dst = false := fun dst => by cases dst <;> rfl
  unfold slotOp at h
  unfold stepOp
  split at h
  · rename_i x hop
    simp only [Option.some.injEq] at h; subst h
    simp [hop, hm]
  · rename_i t x hop
    simp only [hop, hm, Bool.false_eq_true, if_false]
    cases hl : loadA E t (rd E af 0 x) st with
    | none => simp [hl] at h
    | some z => simp [hl] at h; subst h; simp
  · rename_i t x lo hi mx hop
    simp only [hop]
    split at h
    · rename_i l hh m h1 h2 h3
      simp [h1, h2, h3, h]
    · cases h
  · rename_i t len ps hop
    simp [hop, h]
  all_goals (try (cases h; done))
  rename_i h1 h2 h3 h4 h5 h6 h7 h8 h9 h10 h12 h13 h11
  split
  · rename_i x hop; exact absurd hop (h1 x)
  · rename_i x hop; exact absurd hop (h5 x)
  · rename_i x hop; exact absurd hop (h6 x)
  · rename_i t x hop; exact absurd hop (h7 t x)
  · rename_i t x hop; exact absurd hop (h8 t _)
  · rename_i t len ps hop; exact absurd hop (h4 t len ps)
  · rename_i t x hop; exact absurd hop (h2 t x)
  · rename_i t x y hop; exact absurd hop (h9 t x y)
  · rename_i t n hop; exact absurd hop (h10 _ n)
  · rename_i t x hop; exact absurd hop (h12 t x)
  · rename_i t hop; exact absurd hop (h13 _ _)
  · rename_i t x lo hi mx hop; exact absurd hop (h3 t x lo hi mx)
  · rename_i x y t0 t1 ts hop; exact absurd hop (h11 _ _)
  · cases hp : pureVal E o af with
    | none => simp [hp] at h
    | some z => simp [hp] at h; subst h; simp

theorem slotOp_set {E : Env} {o : Oper} {af : List AVal} {st : St} {d : Tmp} {v : AVal} (h : d ∉ slots o) : slotOp E o (af.set d v) st = slotOp E o af st := by
  have hx := fun x => notin_slots h (x := x)
  unfold slotOp
  split
  · rename_i x hop
    simp only [hop, Op.operands] at hx
    rw [rd_set (hx x (by simp))]
  · rename_i t x hop
    simp only [hop, Op.operands] at hx
    rw [rd_set (hx x (by simp))]
  · rename_i t x lo hi mx hop
    simp only [hop, Op.operands] at hx
    rw [rd_set (hx x (by simp)), rdo_set (fun y hy => hx y (by simp [hy])), rdo_set (fun y hy => hx y (by simp [hy])), rdo_set (fun y hy => hx y (by simp [hy]))]
  · rename_i t len ps hop
    simp only [hop, Op.operands] at hx
    rw [(rdParts_set (E := E) (v := v) (ty := fun _ => fieldT E.P t 0) ps (af := af) (fun p hp => hx p.2 (by simp; exact ⟨p.1, hp⟩))).2]
  all_goals (first | rfl | rw [pureVal_set h])

/-- the slot of a guard -/
def gslot (ops : Array Oper) (o : Oper) : Option (Option Tmp × Bool) := o.guard.map fun g => ((ops[g.1]?).bind (·.dst), g.2)
def slotG (E : Env) (ops : Array Oper) (o : Oper) (af : List AVal) (st : St) : Option AVal :=
  match o.guard with
  | none => slotOp E o af st
  | some (j, want) =>
    match gdA ops af j want with
    | some true => slotOp E o af st
    | some false => some (.tuple [])
    | none => none
def gWp (E : Env) (mv : List Tmp) (ops : Array Oper) (o : Oper) (af : List AVal) (st : St) (K : List AVal → St → Prop) : Prop :=
  match o.guard with
  | none => opWp E mv o af st K
  | some (j, want) =>
    match gdA ops af j want with
    | some true => opWp E mv o af st K
    | some false => K (putA af o.dst (.tuple [])) st
    | none => False

theorem slots_looks {ops : Array Oper} {o : Oper} {d : Tmp} (h : d ∉ o.looksAt ops) : d ∉ slots o := fun hm => h (List.mem_append_left _ hm)
theorem guard_looks {ops : Array Oper} {o : Oper} {d g j : Nat} {want : Bool} (h : d ∉ o.looksAt ops) (hg : o.guard = some (j, want)) (hd : (ops[j]?).bind (·.dst) = some g) : d ≠ g := fun e => by
  subst e
  exact h (List.mem_append_right _ (by simp [hg, hd]))

theorem gdA_set {ops : Array Oper} {o : Oper} {af : List AVal} {d j : Nat} {want : Bool} {v : AVal} (h : d ∉ o.looksAt ops) (hg : o.guard = some (j, want)) : gdA ops (af.set d v) j want = gdA ops af j want := by
  unfold gdA
  split
  · rename_i g hgd
    have := guard_looks h hg hgd
    have e : (af.set d v).getD g .any = af.getD g .any := by simp [List.getD, List.getElem?_set_ne this]
    rw [e]
  · rfl
theorem slotG_set {E : Env} {ops : Array Oper} {o : Oper} {af : List AVal} {st : St} {d : Tmp} {v : AVal} (h : d ∉ o.looksAt ops) : slotG E ops o (af.set d v) st = slotG E ops o af st := by
  unfold slotG
  split
  · exact slotOp_set (slots_looks h)
  · rename_i j want hg
    rw [gdA_set h hg, slotOp_set (slots_looks h)]
theorem gWp_set {E : Env} {mv : List Tmp} {ops : Array Oper} {o : Oper} {af : List AVal} {st : St} {d : Tmp} {v : AVal} {K : List AVal → St → Prop} (h : d ∉ o.looksAt ops) (hd : o.dst ≠ some d) (hw : gWp E mv ops o (af.set d v) st K) :
    gWp E mv ops o af st fun af' st' => K (af'.set d v) st' := by
  unfold gWp at *
  split at hw
  · exact opWp_set (slots_looks h) hd hw
  · rename_i j want hg
    rw [gdA_set h hg] at hw
    split at hw
    · exact opWp_set (slots_looks h) hd hw
    · rw [putA_set hd] at hw; exact hw
    · exact hw.elim

section
variable {E : Env} {F : Nat → Nat} {Γ : Ghost} {st : St} {w : World} {af : List AVal} {a : Act}

theorem gWp_sound {mv : List Tmp} {ops : Array Oper} {i : Nat} {o : Oper} (ho : ops[i]? = some o) {K : List AVal → St → Prop} {K' : Act → World → Prop} {Qc : Exit → Act → World → Prop} (hd : a.defers = []) (hs : Sim E F Γ st w af a.tmps.toList) (h : gWp E mv ops o af st K)
    (hK : ∀ Γ' af' st' a' w', Ext F Γ w Γ' w' → st.next ≤ st'.next → a'.defers = [] → Sim E F Γ' st' w' af' a'.tmps.toList → K af' st' → K' a' w') : wpOp E.P ops Qc i K' a w := by
  unfold wpOp
  simp only [ho]
  unfold gWp at h
  split at h
  · rename_i hg
    rw [if_pos (by simp [Region.wanted, hg])]
    exact .inl (opWp_sound h F Γ w a hd hs K' Qc hK)
  · rename_i j want hg
    split at h
    · rename_i hgd
      rw [if_pos (by rw [wanted_guard hg, gdA_sound hs hgd])]
      exact .inl (opWp_sound h F Γ w a hd hs K' Qc hK)
    · rename_i hgd
      rw [if_neg (by rw [wanted_guard hg, gdA_sound hs hgd]; simp)]
      exact hK Γ _ st _ w (Ext.refl _ _ _) (Nat.le_refl _) (by rw [put_defers]; exact hd) (hs.skipped o.dst) h
    · cases h

theorem slotG_gWp {mv : List Tmp} {ops : Array Oper} {o : Oper} {r : AVal} (h : slotG E ops o af st = some r) : gWp E [] ops o af st fun af' st' => af' = putA af o.dst r ∧ st' = st := by
  have key : ∀ r, slotOp E o af st = some r → opWp E [] o af st fun af' st' => af' = putA af o.dst r ∧ st' = st := by
    intro r hr
    have hst := slotOp_step hr
    unfold opWp
    split
    · rename_i f args ts hop
      simp [slotOp, hop, pureVal] at hr
    · rw [hst]; exact ⟨rfl, rfl⟩
  unfold slotG at h
  unfold gWp
  split at h
  · exact key r h
  · split at h
    · exact key r h
    · simp only [Option.some.injEq] at h; subst h; exact ⟨rfl, rfl⟩
    · cases h
end
end Go.VM
