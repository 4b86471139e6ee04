/- append. -/
import Derived.Test.YtdbeiialamganaaVMMem2
import Derived.Laws.Append
import Derived.Laws.AppendOwn
set_option linter.unusedVariables false
namespace Go.VM

/-- element size and bytes, for an append -/
def appI (P : Program) (t : TypeId) : Option (Nat × Nat) :=
  match P.underlying t with
  | some (.slice e) =>
    match P.info? e with
    | some i =>
      match i.zero with
      | some z => if z.cells.size = i.size then some (i.size, i.bytes) else none
      | none => none
    | none => none
  | _ => none
theorem appI_spec {P : Program} {t : TypeId} {n b : Nat} (h : appI P t = some (n, b)) : ∃ e i z, P.underlying t = some (.slice e) ∧ P.info? e = some i ∧ i.zero = some z ∧ z.cells.size = n ∧ i.size = n ∧ i.bytes = b := by
  unfold appI at h
  split at h
  · rename_i e hu
    split at h
    · rename_i i hi
      split at h
      · rename_i z hz
        split at h
        · rename_i hc
          simp only [Option.some.injEq, Prod.mk.injEq] at h
          exact ⟨e, i, z, hu, hi, hz, by rw [hc]; exact h.1, h.1, h.2⟩
        · cases h
      · cases h
    · cases h
  · cases h
def srcA (wd : Nat) : AVal → Option (List AVal)
  | .slice w' ys _ => if w' = wd then some ys else none
  | .str l => if wd = 1 then some (l.map fun b => .int .u8 b.toNat) else none
  | _ => none
def appendA (E : Env) (t0 t1 : TypeId) (s y : AVal) : Option AVal :=
  match s with
  | .slice wd xs true =>
    match appI E.P t0, srcA wd y with
    | some (z, by_), some ys => if z = wd ∧ intT E.P t1 = none ∧ knownT E.P t1 = true ∧ (xs.length + ys.length) * by_ ≤ 140737488355328 ∧ xs.length + ys.length ≤ maxN then some (.slice wd (xs ++ ys) true) else none
    | _, _ => none
  | _ => none

theorem RepS.takeCells {Γ : Ghost} {w : Nat} {xs : List AVal} {cs : List Value} (h : RepS Γ w xs cs) : RepS Γ w xs (cs.take (xs.length * w)) := by
  induction xs generalizing cs with
  | nil => exact .nil _ _
  | cons x xs ih =>
    cases h with
    | cons h hw t =>
      rename_i v cs
      have e : (v.cells.toList ++ cs).take ((x :: xs).length * w) = v.cells.toList ++ cs.take (xs.length * w) := by
        have hl : v.cells.toList.length = w := by rw [Array.length_toList, hw.1]
        rw [List.length_cons, Nat.succ_mul, Nat.add_comm, List.take_append, List.take_of_length_le (by omega), hl, Nat.add_sub_cancel_left]
      rw [e]
      exact .cons h hw (ih t)
theorem RepS.takeOne {Γ : Ghost} {w : Nat} {xs : List AVal} {cs : List Value} (h : RepS Γ w xs cs) : ∀ c, c ∈ cs.take (xs.length * w) → c.oneCell' = true := by
  induction xs generalizing cs with
  | nil => intro c hc; simp at hc
  | cons x xs ih =>
    cases h with
    | cons h hw t =>
      rename_i v cs
      intro c hc
      have hl : v.cells.toList.length = w := by rw [Array.length_toList, hw.1]
      rw [List.length_cons, Nat.succ_mul, Nat.add_comm, List.take_append, List.take_of_length_le (by omega), hl, Nat.add_sub_cancel_left] at hc
      rcases List.mem_append.1 hc with hc | hc
      · exact hw.2 c hc
      · exact ih t c hc
theorem RepS.append {Γ : Ghost} {w : Nat} {xs ys : List AVal} {cs ds : List Value} (h : RepS Γ w xs cs) (hl : cs.length = xs.length * w) (k : RepS Γ w ys ds) : RepS Γ w (xs ++ ys) (cs ++ ds) := by
  induction xs generalizing cs with
  | nil =>
    have : cs = [] := List.eq_nil_of_length_eq_zero (by simpa using hl)
    subst this; simpa using k
  | cons x xs ih =>
    cases h with
    | cons h hw t =>
      rename_i v cs
      rw [List.append_assoc]
      refine .cons h hw (ih t ?_)
      simp only [List.length_append, Array.length_toList, hw.1, List.length_cons, Nat.succ_mul] at hl
      omega

section
variable {E : Env} {F : Nat → Nat} {Γ : Ghost} {st : St} {w : World} {af : List AVal} {a : Act}

/-- what an append reads -/
structure Src (E : Env) (Γ : Ghost) (w : World) (wd : Nat) (ys : List AVal) (v : Value) (news : List Value) : Prop where
  len : ∀ w', (Builtin.lenOf v).run E.P w' = .ok ys.length w'
  first : ∀ w', (∀ b o, w'.cell? ⟨b, o, none⟩ = w.cell? ⟨b, o, none⟩) → (Builtin.firstCells wd ys.length v).run E.P w' = .ok news.toArray w'
  rep : RepS Γ wd ys news
  size : news.length = ys.length * wd
  one : ∀ c, c ∈ news → c.oneCell' = true

theorem com_cell (hs : Sim E F Γ st w af a.tmps.toList) {b i : Nat} {cs : List Value} {v : Value} (h : Γ.com b = some cs) (hv : cs[i]? = some v) : w.cell? ⟨b, i, none⟩ = some v := by
  obtain ⟨arr, e, fz, hh, ds, hds⟩ := hs.com_ok _ _ h
  have h2 : arr.toList[i]? = some v := by
    rw [hds, List.getElem?_append_left (List.getElem?_eq_some_iff.1 hv).1]; exact hv
  simp only [World.cell?, hh]
  simpa using h2

theorem src_slice (hs : Sim E F Γ st w af a.tmps.toList) {wd : Nat} {ys : List AVal} {o : Bool} {v : Value} (h : Rep Γ (.slice wd ys o) v) : ∃ news, Src E Γ w wd ys v news := by
  cases h with
  | snil _ _ ad =>
    refine ⟨[], fun w' => by simp [Builtin.lenOf], fun w' _ => ?_, .nil _ _, by simp, by simp⟩
    cases ad with
    | none => simp [Builtin.firstCells]
    | some ad =>
      exact run_firstCells_some (P := E.P) w' wd 0 ad 0 0 [] (by simp) (fun j u hj => by simp at hj)
  | slice _ hb hl hc hS =>
    rename_i b off len cap cells
    have hlen : ((cells.drop off).take (ys.length * wd)).length = ys.length * wd := by rw [List.length_take]; have := hS.len; omega
    refine ⟨(cells.drop off).take (ys.length * wd), fun w' => by simp [Builtin.lenOf, hl], fun w' hw => ?_, hS.takeCells, hlen, hS.takeOne⟩
    refine run_firstCells_some (P := E.P) w' wd ys.length ⟨b, off, none⟩ len cap _ hlen fun j u hj => ?_
    rw [addr_add, hw]
    refine com_cell hs hb ?_
    rw [List.getElem?_take] at hj
    split at hj
    · rw [List.getElem?_drop] at hj; exact hj
    · cases hj

theorem src_str {wd : Nat} {s : ByteArray} (h1 : wd = 1) : Src E Γ w wd (s.data.toList.map fun b => .int .u8 b.toNat) (.string s) (s.data.toList.map fun b => .int .u8 b.toNat) := by
  subst h1
  have hl : s.data.toList.length = s.size := by rw [Array.length_toList]; rfl
  refine ⟨fun w' => by simp only [Builtin.lenOf, List.length_map, hl]; rfl, fun w' _ => ?_, ?_, by simp, by simp [Value.oneCell']⟩
  · simp only [Builtin.firstCells, List.length_map, hl, Sem.run_pure]
    congr 1
    apply Array.ext'
    simp only [Array.toList_map, ByteArray.data_extract, Array.toList_extract, List.extract_eq_take_drop, List.drop_zero, Nat.sub_zero]
    rw [List.take_of_length_le (by omega)]
  · generalize s.data.toList = l
    induction l with
    | nil => exact .nil _ _
    | cons b l ih => exact .cons (v := .int .u8 b.toNat) (.int _ _) ⟨rfl, by simp [Value.cells, Value.oneCell']⟩ ih

theorem srcA_sound (hs : Sim E F Γ st w af a.tmps.toList) {wd : Nat} {y : AVal} {ys : List AVal} {v : Value} (hy : Rep Γ y v) (h : srcA wd y = some ys) : ∃ news, Src E Γ w wd ys v news := by
  unfold srcA at h
  split at h
  · split at h
    · rename_i e; subst e; simp only [Option.some.injEq] at h; subst h; exact src_slice hs hy
    · cases h
  · split at h
    · rename_i e
      simp only [Option.some.injEq] at h; subst h
      cases hy
      exact ⟨_, src_str e⟩
    · cases h
  · cases h

/-- values written from a place on -/
def putV (l : List Value) (off : Nat) : List Value → List Value
  | [] => l
  | v :: r => putV (l.set off v) (off + 1) r
theorem putV_append (cells ds news : List Value) (h : news.length ≤ ds.length) : putV (cells ++ ds) cells.length news = cells ++ news ++ ds.drop news.length := by
  induction news generalizing cells ds with
  | nil => simp [putV]
  | cons v news ih =>
    cases ds with
    | nil => simp at h
    | cons d ds =>
      simp only [putV]
      have e : (cells ++ d :: ds).set cells.length v = (cells ++ [v]) ++ ds := by
        rw [List.set_append_right _ _ (Nat.le_refl _)]; simp
      rw [e]
      have := ih (cells ++ [v]) ds (by simpa using h)
      rw [List.length_append] at this
      simp only [List.length_cons, List.length_nil, Nat.zero_add] at this
      rw [this]; simp

theorem run_storeCells_put {P : Program} {b base : Nat} {e : TypeId} {lo hi : Nat} : ∀ (vs : List Value) (k : Nat) (arr : Array Value) (w : World), w.heap[b]? = some (.cells arr e (lo, hi)) → (∀ j, j < arr.size → ¬ (lo ≤ j ∧ j < hi)) → base + k + vs.length ≤ arr.size → (∀ v, v ∈ vs → v.oneCell' = true) →
    ∃ w' arr', (storeCells ⟨b, base, none⟩ vs k).run P w = .ok () w' ∧ w'.heap[b]? = some (.cells arr' e (lo, hi)) ∧ arr'.toList = putV arr.toList (base + k) vs ∧ arr'.size = arr.size ∧ (∀ n, n ≠ b → w'.heap[n]? = w.heap[n]?) ∧ w'.heap.size = w.heap.size ∧ w'.os = w.os ∧ w'.output = w.output ∧ w'.tape = w.tape := by
  intro vs
  induction vs with
  | nil => intro k arr w hh hf hl h1; exact ⟨w, arr, by simp [storeCells], hh, rfl, rfl, fun _ _ => rfl, rfl, rfl, rfl, rfl⟩
  | cons v vs ih =>
    intro k arr w hh hf hl h1
    simp only [List.length_cons] at hl
    have hoff : base + k < arr.size := by omega
    have hcell : w.cell? ⟨b, base + k, none⟩ = some arr[base + k] := by
      simp only [World.cell?, hh]; simp [hoff]
    have hfz : w.frozen? ⟨b, base + k, none⟩ = false := by
      have := hf _ hoff
      simp only [World.frozen?, hh]
      simp only [Bool.and_eq_false_imp, decide_eq_true_eq, decide_eq_false_iff_not]
      intro h h2; exact this ⟨h, h2⟩
    have hst : (store ⟨b, base + k, none⟩ v).run P w = .ok () (w.setCell ⟨b, base + k, none⟩ v) := by
      rw [run_store _ _ _ _ _ (h1 v (by simp)), hcell, hfz]; rfl
    obtain ⟨w', arr', r, q1, q2, q3, q4, q5, q6, q7, q8⟩ := ih (k + 1) (arr.setIfInBounds (base + k) v) (w.setCell ⟨b, base + k, none⟩ v) (setCell_heap w b _ v hh) (by simpa using hf) (by simp; omega) (fun u hu => h1 u (List.mem_cons_of_mem _ hu))
    refine ⟨w', arr', ?_, q1, ?_, by simpa using q3, fun n hn => (q4 n hn).trans (setCell_other w b _ n v hn), by simpa using q5, q6, q7, q8⟩
    · simp only [storeCells, addr_add, Sem.run_bind, hst, Result.andThen_ok]
      exact r
    · rw [q2]; simp [putV, Nat.add_assoc]

theorem ownTip_cell {Γ : Ghost} {w : World} {wd b off len cap : Nat} (h : ownTip Γ w wd (.slice (some ⟨b, off, none⟩) len cap)) (hlt : len < cap) :
    ∃ arr e lo hi cells, w.heap[b]? = some (.cells arr e (lo, hi)) ∧ (∀ j, j < arr.size → ¬ (lo ≤ j ∧ j < hi)) ∧ Γ.com b = some cells ∧ cells.length = off + len * wd ∧ off + cap * wd ≤ arr.size := by
  obtain ⟨arr, e, lo, hi, cells, h1, h2, _, h3, h4, h5⟩ := h hlt
  exact ⟨arr, e, lo, hi, cells, h1, h2, h3, h4, h5⟩

/-- the ghost of an append in place -/
def Ghost.ext (Γ : Ghost) (b : Nat) (cs : List Value) : Ghost := { Γ with com := fun k => if k = b then some cs else Γ.com k }

theorem cntM_pos {Γ : Ghost} {w : World} {b : Nat} {m : List (Nat × List AVal)} {p : Nat × List AVal} (hp : p ∈ m) : cntB Γ w b p ≤ cntM Γ w b m := by
  induction m with
  | nil => cases hp
  | cons q m ih =>
    rw [cntM]
    rcases List.mem_cons.1 hp with rfl | hp
    · omega
    · have := ih hp; omega

/-- an array grown in place by whoever holds its token -/
theorem Sim.grow (hs : Sim E F Γ st w af a.tmps.toList) {b : Nat} {arr' : Array Value} {e : TypeId} {lo hi : Nat} {cells news rest : List Value} {w' : World} (hcom : Γ.com b = some cells)
    (hw : w'.heap[b]? = some (.cells arr' e (lo, hi))) (harr : arr'.toList = cells ++ news ++ rest) (hk : ∀ k, k ≠ b → w'.heap[k]? = w.heap[k]?) (hz : w'.heap.size = w.heap.size) (ho : w'.os = w.os) (hou : w'.output = w.output) (hta : w'.tape = w.tape)
    (h1 : ∀ v, v ∈ news → v.oneCell' = true) (ht : F b + cntL b af a.tmps.toList + cntM Γ w b st.m = 0) :
    Sim E F (Γ.ext b (cells ++ news)) st w' af a.tmps.toList ∧ Ext F Γ w (Γ.ext b (cells ++ news)) w' ∧ ∀ n, cntM (Γ.ext b (cells ++ news)) w' n st.m = cntM Γ w n st.m := by
  have hle : Γ.le (Γ.ext b (cells ++ news)) := by
    refine ⟨fun k cs h => ?_, fun i k h => h⟩
    by_cases hkb : k = b
    · subst hkb; rw [hcom] at h; cases h; exact ⟨news, by simp [Ghost.ext]⟩
    · exact ⟨[], by simp [Ghost.ext, hkb, h]⟩
  have keep : ∀ n, n ≠ b → w'.heap[n]? = w.heap[n]? ∧ (Γ.ext b (cells ++ news)).com n = Γ.com n := fun n hn => ⟨hk n hn, by simp [Ghost.ext, hn]⟩
  have hbox : ∀ p, p ∈ st.m → ∀ k, Γ.bx p.1 = some k → k ≠ b := by
    intro p hp k hk' e'
    obtain ⟨k', ar, e2, hb⟩ := hs.box_ok p hp
    have h1 := hb.bx; rw [hk'] at h1; cases h1
    have := hb.com; rw [e', hcom] at this; cases this
  have hcm : ∀ n, cntM (Γ.ext b (cells ++ news)) w' n st.m = cntM Γ w n st.m := fun n => cntM_keep fun p hp => ⟨rfl, fun k hkk => hk k (hbox p hp k hkk)⟩
  refine ⟨?_, ⟨hle, fun n hn => keep n (fun e => by subst e; omega), by omega, ho, hou, hta⟩, hcm⟩
  refine { com_ok := ?_, box_ok := ?_, keys := hs.keys, inj := hs.inj, bx_lt := ?_, bx_next := hs.bx_next, bx_F := hs.bx_F, F_lt := ?_, glob := fun g cs h => (hs.glob g cs h).mono hle, rep := hs.rep.mono hle, own := ?_, tok := ?_ }
  · intro n cs h
    by_cases hnb : n = b
    · subst hnb
      simp only [Ghost.ext, if_true, Option.some.injEq] at h; subst h
      exact ⟨arr', e, (lo, hi), hw, rest, harr⟩
    · rw [(keep n hnb).2] at h
      obtain ⟨ar, e', fz, h2, h3⟩ := hs.com_ok n cs h
      exact ⟨ar, e', fz, by rw [hk n hnb]; exact h2, h3⟩
  · intro p hp
    obtain ⟨k, ar, e', hb⟩ := hs.box_ok p hp
    obtain ⟨l2, h2, h3, h4⟩ := hb.heap
    have hkb := hbox p hp k hb.bx
    refine ⟨k, ar, e', hb.bx, ⟨l2, h2, by rw [hk k hkb]; exact h3, h4⟩, hb.rep.mono hle, ownL_keep _ _ hb.own fun n hn => keep n fun e => ?_, by rw [(keep k hkb).2]; exact hb.com, hb.one⟩
    subst e
    have hcb : cntB Γ w n p = cntL n p.2 ar.toList := by simp only [cntB, hb.bx, hcells, h3]
    have := cntM_pos (Γ := Γ) (w := w) (b := n) hp
    omega
  · intro i n h; rw [hz]; exact hs.bx_lt i n h
  · intro n hn; rw [hz] at hn; exact hs.F_lt n hn
  · exact ownL_keep _ _ hs.own fun n hn => keep n fun e => by subst e; omega
  · intro n; rw [hcm n]; exact hs.tok n

/-- the start of an append: the decision between room and growth -/
theorem append_run {P : Program} {w : World} {t0 t1 e ty : TypeId} {ts : List TypeId} {i : TypeInfo} {d : TypeDesc} {base : Option Addr} {len cap n : Nat} {vy : Value}
    (hu : P.underlying t0 = some (.slice e)) (hi : P.info? e = some i) (hd : P.underlying t1 = some d) (hn : intT P t1 = none) (hl : (Builtin.lenOf vy).run P w = .ok n w) (hle : len + n ≤ cap) {news : List Value} (hf : (Builtin.firstCells i.size n vy).run P w = .ok news.toArray w) :
    (Builtin.append_ ⟨t0 :: t1 :: ts⟩ ty #[.slice base len cap, vy]).run P w = (match base with | some a => (storeCells (a.add (len * i.size)) news >>= fun _ => pure (Value.slice base (len + n) cap) : Sem Value) | none => pure (Value.slice base (len + n) cap)).run P w := by
  have e1 : (⟨t0 :: t1 :: ts⟩ : Array TypeId)[0]? = some t0 := rfl
  have e2 : (⟨t0 :: t1 :: ts⟩ : Array TypeId)[1]? = some t1 := rfl
  have e3 : (#[Value.slice base len cap, vy] : Array Value)[0]? = some (Value.slice base len cap) := rfl
  have e4 : (#[Value.slice base len cap, vy] : Array Value)[1]? = some vy := rfl
  have hs : (sizeOf e).run P w = .ok i.size w := by simp [sizeOf, typeInfo, hi]
  unfold Builtin.append_
  simp only [e1, e2, e3, e4]
  rw [Sem.run_bind, run_underlying hu]
  simp only [Result.andThen_ok]
  rw [Sem.run_bind, hs]
  simp only [Result.andThen_ok]
  rw [Sem.run_bind, run_underlying hd]
  simp only [Result.andThen_ok]
  have key : ∀ (b : Bool), b = false → ∀ (f : Bool → Sem Value), ((pure b : Sem Bool) >>= f).run P w = (f false).run P w := by
    intro b hb f; subst hb; rfl
  rw [key _ (by cases d <;> first | rfl | (simp [intT, hd] at hn; done))]
  simp only [Bool.false_eq_true, if_false]
  rw [Sem.run_bind, hl]
  simp only [Result.andThen_ok, Bool.not_false, if_true]
  rw [if_pos hle, Sem.run_bind, hf]
  simp only [Result.andThen_ok]
  cases base <;> rfl

theorem append_grow_run {P : Program} {w : World} {t0 t1 e ty : TypeId} {ts : List TypeId} {i : TypeInfo} {zv : Value} {d : TypeDesc} {base : Option Addr} {len cap n : Nat} {vy : Value}
    (hu : P.underlying t0 = some (.slice e)) (hi : P.info? e = some i) (hzv : i.zero = some zv) (hd : P.underlying t1 = some d) (hn : intT P t1 = none) (hl : (Builtin.lenOf vy).run P w = .ok n w) (hle : ¬ (len + n ≤ cap))
    (h48 : ¬ (Builtin.nextslicecap (len + n) cap * i.bytes > 2 ^ 48)) (h63 : ¬ (((len + n : Nat) : Int) > IntKind.i64.max))
    {olds news : List Value} (hf0 : (Builtin.firstCells i.size len (.slice base len cap)).run P w.drew = .ok olds.toArray w.drew) (hf : (Builtin.firstCells i.size n vy).run P w.drew = .ok news.toArray w.drew) :
    (Builtin.append_ ⟨t0 :: t1 :: ts⟩ ty #[.slice base len cap, vy]).run P w =
      .ok (.slice (some ⟨w.heap.size, 0, none⟩) (len + n) (grownCap w (len + n) cap e)) (w.drew.alloc (.cells (olds.toArray ++ news.toArray ++ Builtin.zeroCells zv.cells (grownCap w (len + n) cap e - (len + n))) e)) := by
  have e1 : (⟨t0 :: t1 :: ts⟩ : Array TypeId)[0]? = some t0 := rfl
  have e2 : (⟨t0 :: t1 :: ts⟩ : Array TypeId)[1]? = some t1 := rfl
  have e3 : (#[Value.slice base len cap, vy] : Array Value)[0]? = some (Value.slice base len cap) := rfl
  have e4 : (#[Value.slice base len cap, vy] : Array Value)[1]? = some vy := rfl
  have hs : ∀ w, (sizeOf e).run P w = .ok i.size w := fun w => by simp [sizeOf, typeInfo, hi]
  have ht : ∀ w, (typeInfo e).run P w = .ok i w := fun w => by simp [typeInfo, hi]
  have hzz : ∀ w, (zeroValue e).run P w = .ok zv w := fun w => by simp [zeroValue, typeInfo, hi, hzv]
  unfold Builtin.append_
  simp only [e1, e2, e3, e4]
  rw [Sem.run_bind, run_underlying hu]
  simp only [Result.andThen_ok]
  rw [Sem.run_bind, hs]
  simp only [Result.andThen_ok]
  rw [Sem.run_bind, run_underlying hd]
  simp only [Result.andThen_ok]
  have key : ∀ (b : Bool), b = false → ∀ (f : Bool → Sem Value), ((pure b : Sem Bool) >>= f).run P w = (f false).run P w := by
    intro b hb f; subst hb; rfl
  rw [key _ (by cases d <;> first | rfl | (simp [intT, hd] at hn; done))]
  simp only [Bool.false_eq_true, if_false]
  rw [Sem.run_bind, hl]
  simp only [Result.andThen_ok, Bool.not_false, if_true]
  rw [if_neg hle]
  simp only [Sem.run_bind, ht, Result.andThen_ok, Sem.run_ite, Sem.run_pure, h48, h63, false_and, if_false, run_choose, Question.forced, Bool.false_eq_true, World.drew_eq, run_askRoom, hf0, hf, hzz, newRow, run_newObj, World.alloc_eq, grownCap]
  rfl

theorem Sim.drew {tm : List Value} (hs : Sim E F Γ st w af tm) : Sim E F Γ st w.drew af tm := by
  have hcm : ∀ n, cntM Γ w.drew n st.m = cntM Γ w n st.m := fun n => cntM_keep fun p hp => ⟨rfl, fun _ _ => rfl⟩
  refine { hs with box_ok := ?_, own := ownL_keep _ _ hs.own fun _ _ => ⟨rfl, rfl⟩, tok := fun n => by rw [hcm n]; exact hs.tok n }
  intro p hp
  obtain ⟨b, arr, e, hb⟩ := hs.box_ok p hp
  exact ⟨b, arr, e, hb.bx, hb.heap, hb.rep, ownL_keep _ _ hb.own fun _ _ => ⟨rfl, rfl⟩, hb.com, hb.one⟩

set_option maxHeartbeats 1000000 in
theorem append_step (hs : Sim E F Γ st w af a.tmps.toList) {o : Oper} {x y : Operand} {t0 t1 : TypeId} {ts : List TypeId} {r : AVal} (hop : o.op = .call { callee := .builtin .append, args := #[x, y], argTypes := ⟨t0 :: t1 :: ts⟩ })
    (h : appendA E t0 t1 (rd E af t0 x) (rd E af t1 y) = some r) :
    ∃ nx w' a' Γ', Stepped E F Γ st w a o (putA (stripAt af x) o.dst r) st nx w' a' Γ' := by
  have hx := hs.rd t0 x
  have hox := hs.rd_own t0 x
  have hcx := fun b => hs.rd_cnt t0 x b
  have hy := hs.rd t1 y
  have hs1 := hs.stripAt x
  have htk := hs.tok
  generalize rd E af t0 x = ax at *
  generalize rd E af t1 y = ay at *
  generalize hvx : a.eval x = vx at *
  generalize hvy : a.eval y = vy at *
  unfold appendA at h
  split at h
  · rename_i wd xs
    split at h
    · rename_i z byt ys hap hsrc
      split at h
      · rename_i hc
        obtain ⟨rfl, hint, hkn, hroom, h62'⟩ := hc
        have h62 : xs.length + ys.length ≤ 4611686018427387904 := h62'
        simp only [Option.some.injEq] at h; subst h
        obtain ⟨e, i, zv, hu, hi, hz, hzs, his, hib⟩ := appI_spec hap
        obtain ⟨news, src⟩ := srcA_sound hs hy hsrc
        obtain ⟨d1, hd1⟩ := underlying_of_known hkn
        have hargs : Array.map a.eval #[x, y] = #[vx, vy] := by simp [hvx, hvy]
        -- the run, as far as the choice between growing and not
        have hexec : ∀ r, (Builtin.append_ ⟨t0 :: t1 :: ts⟩ o.type #[vx, vy]).run E.P w = r → (execOp a.eval o).run E.P w = r.andThen fun v w' => .ok (.value v) w' := by
          intro r hr
          simp only [execOp, hop, resolve, hargs, Sem.run_bind, Sem.run_pure, Result.andThen_ok, invoke, builtin]
          rw [hr]
        by_cases hn : ys.length = 0
        · -- nothing appended
          have hys : ys = [] := List.eq_nil_of_length_eq_zero hn
          subst hys
          have hnews : news = [] := List.eq_nil_of_length_eq_zero (by simpa using src.size)
          subst hnews
          obtain ⟨base, len, cap, rfl, hle⟩ : ∃ base len cap, vx = .slice base len cap ∧ len ≤ cap := by
            cases hx with
            | snil => exact ⟨_, _, _, rfl, Nat.le_refl _⟩
            | slice _ _ _ hc _ => exact ⟨_, _, _, rfl, hc.1⟩
          have hlen := src.len w
          have hfirst := src.first w (fun _ _ => rfl)
          simp only [List.length_nil] at hlen hfirst
          rw [← his] at hfirst
          have hrun : (Builtin.append_ ⟨t0 :: t1 :: ts⟩ o.type #[.slice base len cap, vy]).run E.P w = .ok (.slice base len cap) w := by
            rw [append_run hu hi hd1 hint hlen (by omega) hfirst]
            cases base <;> simp [storeCells]
          refine ⟨_, w, a.put o.dst _, Γ, hexec _ hrun, fun K Q hk => hk, put_defers _ _ _, Ext.refl _ _ _, Nat.le_refl _, ?_⟩
          rw [List.append_nil]
          exact hs1.put o.dst hx hox fun b => by have := hcx b; have := htk b; omega
        · -- the two ways
          have hnz0 : 0 < ys.length := by omega
          by_cases hfit : ∃ b off len cap, vx = .slice (some ⟨b, off, none⟩) len cap ∧ len + ys.length ≤ cap
          · obtain ⟨b, off, len, cap, rfl, hfits⟩ := hfit
            simp only [VM.own] at hox
            obtain ⟨arr, e', lo, hi', cells, hh, hf, hcom, hcl, hsz⟩ := ownTip_cell hox (by omega)
            obtain ⟨arr0, e0, fz0, hh0, ds, hds⟩ := hs.com_ok b cells hcom
            rw [hh] at hh0; cases hh0
            cases hx with
            | snil => omega
            | slice _ hb hl hcap hS =>
              rw [hcom] at hb; cases hb
              have hlenarr : cells.length + ds.length = arr.size := by rw [← List.length_append, ← hds, Array.length_toList]
              have hnl : news.length ≤ ds.length := by
                rw [src.size]
                have : (len + ys.length) * z ≤ cap * z := Nat.mul_le_mul_right _ hfits
                rw [Nat.add_mul] at this
                omega
              obtain ⟨w', arr', r1, q1, q2, q3, q4, q5, q6, q7, q8⟩ := run_storeCells_put (P := E.P) (b := b) (base := off + len * z) news 0 arr w hh hf (by omega) src.one
              rw [Nat.add_zero, ← hcl, hds, putV_append _ _ _ hnl] at q2
              have hbt : 1 ≤ cnt b (.slice z xs true) (.slice (some ⟨b, off, none⟩) len cap) := by simp only [cnt, cntTip]; rw [if_pos ⟨by omega, trivial⟩]; omega
              have hzero : F b + cntL b (stripAt af x) a.tmps.toList + cntM Γ w b st.m = 0 := by
                have := hcx b; have := htk b; omega
              obtain ⟨s2, x2, hcm⟩ := hs1.grow hcom q1 q2 q4 q5 q6 q7 q8 src.one hzero
              have hlen := src.len w
              have hfirst := src.first w (fun _ _ => rfl)
              rw [← his] at hfirst r1
              have hrun : (Builtin.append_ ⟨t0 :: t1 :: ts⟩ o.type #[.slice (some ⟨b, off, none⟩) len cap, vy]).run E.P w = .ok (.slice (some ⟨b, off, none⟩) (len + ys.length) cap) w' := by
                rw [append_run hu hi hd1 hint hlen hfits hfirst]
                simp only [addr_add]
                rw [Sem.run_bind, r1]; rfl
              refine ⟨_, w', a.put o.dst _, _, hexec _ hrun, fun K Q hk => hk, put_defers _ _ _, x2, Nat.le_refl _, ?_⟩
              refine s2.put o.dst (.slice _ (cells := cells ++ news) (by simp [Ghost.ext]) (by simp [hl]) ⟨hfits, by rw [← hl]; exact h62'⟩ ?_) ?_ ?_
              · rw [List.drop_append_of_le_length (by omega)]
                exact RepS.append (hS.mono x2.le) (by rw [List.length_drop, hl]; omega) (src.rep.mono x2.le)
              · simp only [VM.own, ownTip]
                intro hlt
                exact ⟨arr', e', lo, hi', cells ++ news, q1, by rw [q3]; exact hf, trivial, by simp [Ghost.ext], by rw [List.length_append, src.size, Nat.add_mul]; omega, by rw [q3]; exact hsz⟩
              · intro n
                rw [hcm n]
                have h1 : cnt n (.slice z (xs ++ ys) true) (.slice (some ⟨b, off, none⟩) (len + ys.length) cap) ≤ cnt n (.slice z xs true) (.slice (some ⟨b, off, none⟩) len cap) := by
                  simp only [cnt, cntTip]
                  split
                  · rename_i hh'; rw [if_pos ⟨by omega, hh'.2⟩]; omega
                  · omega
                have := hcx n; have := htk n; omega
          · -- a new array
            obtain ⟨base, len, cap, rfl, hlen, hcap⟩ : ∃ base len cap, vx = .slice base len cap ∧ xs.length = len ∧ len ≤ cap := by
              cases hx with
              | snil => exact ⟨_, 0, 0, rfl, rfl, Nat.le_refl _⟩
              | slice _ hb hl hc hS => exact ⟨_, _, _, rfl, hl, hc.1⟩
            obtain ⟨olds, so⟩ := src_slice hs hx
            subst hlen
            have hneed : ¬ (xs.length + ys.length ≤ cap) := by
              intro hle
              apply hfit
              cases hx with
              | snil => omega
              | slice _ hb hl hc hS => exact ⟨_, _, _, _, rfl, hle⟩
            have h63 : ¬ (9223372036854775807 < ((xs.length : Int) + (ys.length : Int))) := by omega
            have h48 : ¬ (281474976710656 < Builtin.nextslicecap (xs.length + ys.length) cap * i.bytes) := by
              have := growslice_fits (need := xs.length + ys.length) (old := cap) (bytes := i.bytes) (by omega) (by rw [hib]; exact hroom)
              omega
            have hl1 := src.len w
            have hf1 := src.first w.drew (fun _ _ => rfl)
            have hf0 := so.first w.drew (fun _ _ => rfl)
            rw [← his] at hf1 hf0
            generalize hnc : grownCap w (xs.length + ys.length) cap e = nc
            have hge : xs.length + ys.length ≤ nc := by rw [← hnc]; exact grownCap_ge _ _ _ _
            have hrun : (Builtin.append_ ⟨t0 :: t1 :: ts⟩ o.type #[.slice base xs.length cap, vy]).run E.P w =
                .ok (.slice (some ⟨w.heap.size, 0, none⟩) (xs.length + ys.length) nc) (w.drew.alloc (.cells (olds.toArray ++ news.toArray ++ Builtin.zeroCells zv.cells (nc - (xs.length + ys.length))) e)) := by
              subst hnc
              have e3 : IntKind.i64.max = 9223372036854775807 := by decide
              have h64 : ¬ (((xs.length + ys.length : Nat) : Int) > IntKind.i64.max) := by rw [e3]; omega
              exact append_grow_run hu hi hz hd1 hint hl1 hneed (by omega) h64 hf0 hf1
            have hsd : Sim E F Γ st w.drew (stripAt af x) a.tmps.toList := hs1.drew
            obtain ⟨s2, x2, hcm⟩ := hsd.newArr (cells := olds.toArray ++ news.toArray ++ Builtin.zeroCells zv.cells (nc - (xs.length + ys.length))) (e := e) (pre := olds ++ news) (spare := (Builtin.zeroCells zv.cells (nc - (xs.length + ys.length))).toList) (fz := (0, 0)) (by simp)
              (fun v hv => by rcases List.mem_append.1 hv with hv | hv; exact so.one v hv; exact src.one v hv)
            have x0 : Ext F Γ w Γ w.drew := ⟨Γ.le_refl, fun _ _ => ⟨rfl, rfl⟩, Nat.le_refl _, rfl, rfl, rfl⟩
            refine ⟨_, _, a.put o.dst _, _, hexec _ hrun, fun K Q hk => hk, put_defers _ _ _, x0.trans x2, Nat.le_refl _, ?_⟩
            refine s2.put o.dst (.slice _ (cells := olds ++ news) (by simp [Ghost.arr]) (by simp) ⟨hge, h62'⟩ ?_) ?_ ?_
            · rw [List.drop_zero]
              exact RepS.append (so.rep.mono x2.le) so.size (src.rep.mono x2.le)
            · simp only [VM.own, ownTip]
              intro hlt
              refine ⟨_, e, 0, 0, olds ++ news, alloc_new _, by omega, trivial, by simp [Ghost.arr], ?_, ?_⟩
              · rw [List.length_append, so.size, src.size, Nat.add_mul]; omega
              · simp only [Array.size_append, List.size_toArray, so.size, src.size, Builtin.zeroCells, Array.size_map, Array.size_range, hzs, ← Nat.add_mul]
                rw [Nat.zero_add]
                apply Nat.mul_le_mul_right; omega
            · intro n
              have hcn : cntL n (stripAt af x) a.tmps.toList + cntM (Γ.arr w.drew.heap.size (olds ++ news)) (w.drew.alloc (.cells (olds.toArray ++ news.toArray ++ Builtin.zeroCells zv.cells (nc - (xs.length + ys.length))) e)) n st.m + F n + (if n = w.heap.size then 1 else 0) ≤ 1 := hcm n
              have h1 : cnt n (.slice z (xs ++ ys) true) (.slice (some ⟨w.heap.size, 0, none⟩) (xs.length + ys.length) nc) ≤ if n = w.heap.size then 1 else 0 := by
                simp only [cnt, cntTip]
                split
                · rename_i hh'; rw [if_pos hh'.2.symm]; omega
                · omega
              omega
      · cases h
    · cases h
  · cases h
end
end Go.VM
