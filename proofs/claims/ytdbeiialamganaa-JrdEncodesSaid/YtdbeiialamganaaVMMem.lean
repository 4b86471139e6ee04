/- Operations on memory. -/
import Derived.Test.YtdbeiialamganaaVMPure2
import Derived.Laws.Cells
set_option linter.unusedVariables false
namespace Go.VM

section
variable {E : Env} {F : Nat → Nat} {Γ : Ghost} {st : St} {w : World} {af : List AVal} {a : Act}

theorem cntB_keep {Γ' : Ghost} {w' : World} {b : Nat} {p : Nat × List AVal} (h1 : Γ'.bx p.1 = Γ.bx p.1) (h2 : ∀ k, Γ.bx p.1 = some k → w'.heap[k]? = w.heap[k]?) : cntB Γ' w' b p = cntB Γ w b p := by
  unfold cntB
  rw [h1]
  split
  · rename_i k e
    simp only [hcells, h2 k e]
  · rfl
theorem cntM_keep {Γ' : Ghost} {w' : World} {b : Nat} {m : List (Nat × List AVal)} (h : ∀ p, p ∈ m → Γ'.bx p.1 = Γ.bx p.1 ∧ ∀ k, Γ.bx p.1 = some k → w'.heap[k]? = w.heap[k]?) : cntM Γ' w' b m = cntM Γ w b m := by
  induction m with
  | nil => rfl
  | cons p m ih =>
    rw [cntM, cntM, cntB_keep (h p (by simp)).1 (h p (by simp)).2, ih (fun q hq => h q (List.mem_cons_of_mem _ hq))]

theorem heap_lt {b : Nat} {o : Obj} (h : w.heap[b]? = some o) : b < w.heap.size := by
  rcases Nat.lt_or_ge b w.heap.size with h' | h'
  · exact h'
  · rw [Array.getElem?_eq_none h'] at h; cases h

theorem alloc_old (o : Obj) {k : Nat} (h : k < w.heap.size) : (w.alloc o).heap[k]? = w.heap[k]? := by
  show (w.heap.push o)[k]? = _
  rw [Array.getElem?_push, if_neg (by omega)]
theorem alloc_new (o : Obj) : (w.alloc o).heap[w.heap.size]? = some o := by
  show (w.heap.push o)[w.heap.size]? = _
  rw [Array.getElem?_push, if_pos rfl]

/-- the ghost with a new box -/
def Ghost.box (Γ : Ghost) (i b : Nat) : Ghost := { Γ with bx := fun j => if j = i then some b else Γ.bx j }
/-- the ghost with a new array, so much of it committed -/
def Ghost.arr (Γ : Ghost) (b : Nat) (cs : List Value) : Ghost := { Γ with com := fun k => if k = b then some cs else Γ.com k }

theorem Sim.bx_none (hs : Sim E F Γ st w af a.tmps.toList) : Γ.bx st.next = none := by
  cases h : Γ.bx st.next with
  | none => rfl
  | some b => exact absurd (hs.bx_next _ _ h) (by omega)
theorem Sim.com_lt {tm : List Value} (hs : Sim E F Γ st w af tm) {b : Nat} {cs : List Value} (h : Γ.com b = some cs) : b < w.heap.size := by
  obtain ⟨arr, e, fz, h1, _⟩ := hs.com_ok b cs h
  exact heap_lt h1
theorem Sim.com_none {tm : List Value} (hs : Sim E F Γ st w af tm) {b : Nat} (hb : w.heap.size ≤ b) : Γ.com b = none := by
  cases h : Γ.com b with
  | none => rfl
  | some cs => have := hs.com_lt h; omega
theorem Sim.key_bx {tm : List Value} (hs : Sim E F Γ st w af tm) {p : Nat × List AVal} (hp : p ∈ st.m) : ∃ b, Γ.bx p.1 = some b ∧ b < w.heap.size ∧ p.1 < st.next := by
  obtain ⟨b, arr, e, h⟩ := hs.box_ok p hp
  exact ⟨b, h.bx, hs.bx_lt _ _ h.bx, hs.bx_next _ _ h.bx⟩
theorem Sim.F_of {tm : List Value} (hs : Sim E F Γ st w af tm) {b : Nat} (h : 1 ≤ F b) : b < w.heap.size := by
  rcases Nat.lt_or_ge b w.heap.size with h' | h'
  · exact h'
  · have := hs.F_lt b h'; omega

theorem Sim.newBox (hs : Sim E F Γ st w af a.tmps.toList) {cells : Array Value} {e : TypeId} {cs : List AVal} (hr : RepL Γ cs cells.toList) (ho : ownL Γ w cs cells.toList) (h1 : ∀ v, v ∈ cells.toList → v.oneCell' = true)
    (ht : ∀ b, F b + cntL b af a.tmps.toList + cntL b cs cells.toList + cntM Γ w b st.m ≤ 1) :
    Sim E F (Γ.box st.next w.heap.size) { m := (st.next, cs) :: st.m, next := st.next + 1 } (w.alloc (.cells cells e)) af a.tmps.toList ∧
      Ext F Γ w (Γ.box st.next w.heap.size) (w.alloc (.cells cells e)) ∧ Rep (Γ.box st.next w.heap.size) (.ptr st.next 0) (.pointer (some ⟨w.heap.size, 0, none⟩)) := by
  have hn := hs.bx_none
  have hle : Γ.le (Γ.box st.next w.heap.size) := by
    refine ⟨fun b cs h => ⟨[], by simpa [Ghost.box] using h⟩, fun i b h => ?_⟩
    simp only [Ghost.box]
    rw [if_neg]
    · exact h
    · intro hi; subst hi; rw [hn] at h; cases h
  have keep : ∀ b, b < w.heap.size → (w.alloc (.cells cells e)).heap[b]? = w.heap[b]? ∧ (Γ.box st.next w.heap.size).com b = Γ.com b := fun b hb => ⟨alloc_old _ hb, rfl⟩
  have old : ∀ p, p ∈ st.m → (Γ.box st.next w.heap.size).bx p.1 = Γ.bx p.1 ∧ ∀ k, Γ.bx p.1 = some k → (w.alloc (.cells cells e)).heap[k]? = w.heap[k]? := by
    intro p hp
    obtain ⟨b, h1, h2, h3⟩ := hs.key_bx hp
    refine ⟨by simp only [Ghost.box]; rw [if_neg (by omega)], fun k hk => ?_⟩
    rw [h1] at hk; cases hk
    exact alloc_old _ h2
  refine ⟨?_, ⟨hle, fun b hb => ⟨alloc_old _ (hs.F_of hb), rfl⟩, by simp, rfl, rfl, rfl⟩, .ptr (by simp [Ghost.box])⟩
  refine { com_ok := ?_, box_ok := ?_, keys := ?_, inj := ?_, bx_lt := ?_, bx_next := ?_, bx_F := ?_, F_lt := ?_, glob := ?_, rep := hs.rep.mono hle, own := ?_, tok := ?_ }
  · intro b cs h
    obtain ⟨arr, e', fz, h1, h2⟩ := hs.com_ok b cs h
    exact ⟨arr, e', fz, by rw [alloc_old _ (heap_lt h1)]; exact h1, h2⟩
  · intro p hp
    rcases List.mem_cons.1 hp with rfl | hp
    · refine ⟨w.heap.size, cells, e, by simp [Ghost.box], ⟨0, 0, alloc_new _, by omega⟩, hr.mono hle, ?_, hs.com_none (Nat.le_refl _), h1⟩
      exact ownL_keep _ _ ho fun b hb => keep b (ownL_com _ _ ho hb).1
    · obtain ⟨b, arr, e', hb⟩ := hs.box_ok p hp
      obtain ⟨lo, hi, h3, h4⟩ := hb.heap
      have := hs.bx_lt _ _ hb.bx
      refine ⟨b, arr, e', by rw [(old p hp).1]; exact hb.bx, ⟨lo, hi, by rw [alloc_old _ this]; exact h3, h4⟩, hb.rep.mono hle, ?_, hb.com, hb.one⟩
      exact ownL_keep _ _ hb.own fun b hb' => keep b (ownL_com _ _ hb.own hb').1
  · simp only [List.map_cons, List.nodup_cons]
    refine ⟨fun hm => ?_, hs.keys⟩
    obtain ⟨p, hp, e⟩ := List.mem_map.1 hm
    obtain ⟨b, _, _, h3⟩ := hs.key_bx hp
    omega
  · intro i j b hi hj
    simp only [Ghost.box] at hi hj
    split at hi <;> split at hj
    · omega
    · simp only [Option.some.injEq] at hi; subst hi; have := hs.bx_lt _ _ hj; omega
    · simp only [Option.some.injEq] at hj; subst hj; have := hs.bx_lt _ _ hi; omega
    · exact hs.inj i j b hi hj
  · intro i b hi
    simp only [Ghost.box] at hi
    simp only [World.size_alloc]
    split at hi
    · simp only [Option.some.injEq] at hi; omega
    · have := hs.bx_lt _ _ hi; omega
  · intro i b hi
    simp only [Ghost.box] at hi
    split at hi
    · show i < st.next + 1; omega
    · have := hs.bx_next _ _ hi; show i < st.next + 1; omega
  · intro p b hp hb
    simp only [Ghost.box] at hb
    rcases List.mem_cons.1 hp with rfl | hp
    · simp only [if_true, Option.some.injEq] at hb
      subst hb
      exact hs.F_lt _ (Nat.le_refl _)
    · obtain ⟨b', h1, h2, h3⟩ := hs.key_bx hp
      rw [if_neg (by omega)] at hb
      exact hs.bx_F p b hp hb
  · intro b hb
    simp only [World.size_alloc] at hb
    exact hs.F_lt b (by omega)
  · intro g cs h; exact (hs.glob g cs h).mono hle
  · exact ownL_keep _ _ hs.own fun b hb => keep b (ownL_com _ _ hs.own hb).1
  · intro b
    rw [cntM, cntM_keep old]
    have hc : cntB (Γ.box st.next w.heap.size) (w.alloc (.cells cells e)) b (st.next, cs) = cntL b cs cells.toList := by
      simp only [cntB, Ghost.box, if_true, hcells, alloc_new]
    rw [hc]
    have := ht b
    omega

theorem Sim.newArr (hs : Sim E F Γ st w af a.tmps.toList) {cells : Array Value} {e : TypeId} {pre spare : List Value} {fz : Nat × Nat} (hc : cells.toList = pre ++ spare) (h1 : ∀ v, v ∈ pre → v.oneCell' = true) :
    Sim E F (Γ.arr w.heap.size pre) st (w.alloc (.cells cells e fz)) af a.tmps.toList ∧ Ext F Γ w (Γ.arr w.heap.size pre) (w.alloc (.cells cells e fz)) ∧ (∀ b, cntL b af a.tmps.toList + cntM (Γ.arr w.heap.size pre) (w.alloc (.cells cells e fz)) b st.m + F b + (if b = w.heap.size then 1 else 0) ≤ 1) := by
  have hn := hs.com_none (Nat.le_refl _)
  have hle : Γ.le (Γ.arr w.heap.size pre) := by
    refine ⟨fun b cs h => ⟨[], ?_⟩, fun i b h => h⟩
    have := hs.com_lt h
    simp only [Ghost.arr]
    rw [if_neg (by omega)]
    simpa using h
  have keep : ∀ b, b < w.heap.size → (w.alloc (.cells cells e fz)).heap[b]? = w.heap[b]? ∧ (Γ.arr w.heap.size pre).com b = Γ.com b := fun b hb => ⟨alloc_old _ hb, by simp only [Ghost.arr]; rw [if_neg (by omega)]⟩
  have old : ∀ p, p ∈ st.m → (Γ.arr w.heap.size pre).bx p.1 = Γ.bx p.1 ∧ ∀ k, Γ.bx p.1 = some k → (w.alloc (.cells cells e fz)).heap[k]? = w.heap[k]? := by
    intro p hp
    obtain ⟨b, h1, h2, h3⟩ := hs.key_bx hp
    refine ⟨rfl, fun k hk => ?_⟩
    rw [h1] at hk; cases hk
    exact alloc_old _ h2
  have tok : ∀ b, F b + cntL b af a.tmps.toList + cntM (Γ.arr w.heap.size pre) (w.alloc (.cells cells e fz)) b st.m ≤ 1 := by
    intro b
    rw [cntM_keep old]
    exact hs.tok b
  refine ⟨?_, ⟨hle, fun b hb => keep b (hs.F_of hb), by simp, rfl, rfl, rfl⟩, ?_⟩
  · refine { com_ok := ?_, box_ok := ?_, keys := hs.keys, inj := hs.inj, bx_lt := ?_, bx_next := hs.bx_next, bx_F := hs.bx_F, F_lt := ?_, glob := ?_, rep := hs.rep.mono hle, own := ?_, tok := tok }
    · intro b cs h
      simp only [Ghost.arr] at h
      split at h
      · rename_i hb; subst hb
        simp only [Option.some.injEq] at h; subst h
        exact ⟨cells, e, fz, alloc_new _, spare, hc⟩
      · obtain ⟨arr, e', fz', h1, h2⟩ := hs.com_ok b cs h
        exact ⟨arr, e', fz', by rw [alloc_old _ (heap_lt h1)]; exact h1, h2⟩
    · intro p hp
      obtain ⟨b, arr, e', hb⟩ := hs.box_ok p hp
      obtain ⟨lo, hi, h3, h4⟩ := hb.heap
      have := hs.bx_lt _ _ hb.bx
      refine ⟨b, arr, e', hb.bx, ⟨lo, hi, by rw [alloc_old _ this]; exact h3, h4⟩, hb.rep.mono hle, ?_, by rw [(keep b this).2]; exact hb.com, hb.one⟩
      exact ownL_keep _ _ hb.own fun b hb' => keep b (ownL_com _ _ hb.own hb').1
    · intro i b hi
      have := hs.bx_lt _ _ hi
      simp only [World.size_alloc]; omega
    · intro b hb
      simp only [World.size_alloc] at hb
      exact hs.F_lt b (by omega)
    · intro g cs h; exact (hs.glob g cs h).mono hle
    · exact ownL_keep _ _ hs.own fun b hb => keep b (ownL_com _ _ hs.own hb).1
  · intro b
    split
    · rename_i hb
      subst hb
      have e1 : F w.heap.size = 0 := hs.F_lt _ (Nat.le_refl _)
      have e2 : cntL w.heap.size af a.tmps.toList = 0 := by
        rcases Nat.lt_or_ge 0 (cntL w.heap.size af a.tmps.toList) with h | h
        · have := (ownL_com _ _ hs.own h).1; omega
        · omega
      have e3 : cntM (Γ.arr w.heap.size pre) (w.alloc (.cells cells e fz)) w.heap.size st.m = 0 := by
        rw [cntM_keep old]
        have : ∀ m, (∀ p, p ∈ m → p ∈ st.m) → cntM Γ w w.heap.size m = 0 := by
          intro m
          induction m with
          | nil => intro _; rfl
          | cons p m ih =>
            intro hm
            rw [cntM, ih (fun q hq => hm q (List.mem_cons_of_mem _ hq))]
            obtain ⟨b, arr, e', hb⟩ := hs.box_ok p (hm p (by simp))
            obtain ⟨lo, hi, h3, h4⟩ := hb.heap
            have hc' : cntB Γ w w.heap.size p = cntL w.heap.size p.2 arr.toList := by simp [cntB, hb.bx, hcells, h3]
            rcases Nat.lt_or_ge 0 (cntL w.heap.size p.2 arr.toList) with h | h
            · have := (ownL_com _ _ hb.own h).1; omega
            · omega
        exact this st.m (fun _ h => h)
      omega
    · have := tok b; omega

/-- not a value of unknown form, nor a tuple -/
def okBox : AVal → Bool
  | .iter _ _ => false
  | .any => false
  | .tuple _ => false
  | _ => true
theorem Rep.one {x : AVal} {v : Value} (h : Rep Γ x v) (hx : okBox x = true) : ∀ c, c ∈ v.cells.toList → c.oneCell' = true := by
  cases h <;> first
    | (simp [okBox] at hx; done)
    | assumption
    | (intro c hc; simp only [Value.cells, List.mem_cons, List.not_mem_nil, or_false] at hc; subst hc; rfl)
theorem Rep.cellsOK {x : AVal} {v : Value} (h : Rep Γ x v) (hx : okBox x = true) : RepL Γ (cellsA x) v.cells.toList := by
  cases h <;> first
    | (simp [okBox] at hx; done)
    | assumption
    | exact .cons (by constructor <;> assumption) .nil
theorem own_cells {x : AVal} {v : Value} (h : Rep Γ x v) (hx : okBox x = true) (ho : own Γ w x v) : ownL Γ w (cellsA x) v.cells.toList := by
  cases h <;> first
    | (simp [okBox] at hx; done)
    | exact ho
    | exact ⟨ho, by simp [ownL]⟩
theorem cnt_cells {x : AVal} {v : Value} (h : Rep Γ x v) (hx : okBox x = true) (b : Nat) : cntL b (cellsA x) v.cells.toList = cnt b x v := by
  have key : ∀ (y : AVal) (u : Value), cntL b [y] [u] = cnt b y u := fun y u => by simp [cntL]
  cases h <;> first
    | (simp [okBox] at hx; done)
    | exact key _ _
    | simp [cnt, cellsA, Value.cells]

mutual
def constRep : AVal → Value → Bool
  | .bool a, .bool b => a == b
  | .int k n, .int k' m => decide (k = k') && n == m
  | .str s, .string b => s == b.data.toList && decide (s.length ≤ maxN)
  | .nilp, .pointer none => true
  | .slice _ [] true, .slice none 0 0 => true
  | .nilFn, .nilFunc => true
  | .nilIface, .nilIface => true
  | .agg cs, .agg arr => constRepL cs arr.toList
  | _, _ => false
def constRepL : List AVal → List Value → Bool
  | [], [] => true
  | x :: xs, v :: vs => constRep x v && v.oneCell' && constRepL xs vs
  | _, _ => false
end
structure RepC (Γ : Ghost) (w : World) (x : AVal) (v : Value) : Prop where
  rep : Rep Γ x v
  own : own Γ w x v
  cnt : ∀ b, cnt b x v = 0
  ok : okBox x = true
mutual
theorem constRep_sound (Γ : Ghost) (w : World) : (x : AVal) → (v : Value) → constRep x v = true → RepC Γ w x v
  | x, v, h => by
    unfold constRep at h
    split at h
    · simp at h; subst h; exact ⟨.bool _, by simp [own], fun b => by simp [cnt], rfl⟩
    · simp at h; obtain ⟨rfl, rfl⟩ := h; exact ⟨.int _ _, by simp [own], fun b => by simp [cnt], rfl⟩
    · rename_i s b; simp at h; obtain ⟨rfl, hn⟩ := h; exact ⟨.str _ (by simpa using hn), by simp [own], fun b => by simp [cnt], rfl⟩
    · exact ⟨.nilp, by simp [own], fun b => by simp [cnt], rfl⟩
    · exact ⟨.snil _ _ none, by simp [own, ownTip], fun b => by simp [cnt, cntTip], rfl⟩
    · exact ⟨.nilFn, by simp [own], fun b => by simp [cnt], rfl⟩
    · exact ⟨.nilIface, by simp [own], fun b => by simp [cnt], rfl⟩
    · rename_i cs arr
      obtain ⟨h1, h2, h3, h4⟩ := constRepL_sound Γ w cs arr.toList h
      exact ⟨.agg h1 h2, by simpa [own] using h3, fun b => by simpa [cnt] using h4 b, rfl⟩
    · cases h
theorem constRepL_sound (Γ : Ghost) (w : World) : (xs : List AVal) → (vs : List Value) → constRepL xs vs = true → RepL Γ xs vs ∧ (∀ v, v ∈ vs → v.oneCell' = true) ∧ ownL Γ w xs vs ∧ ∀ b, cntL b xs vs = 0
  | [], [], _ => ⟨.nil, by simp, by simp [ownL], fun b => by simp [cntL]⟩
  | [], _ :: _, h => by simp [constRepL] at h
  | _ :: _, [], h => by simp [constRepL] at h
  | x :: xs, v :: vs, h => by
    simp only [constRepL, Bool.and_eq_true] at h
    obtain ⟨h1, h2, h3, h4⟩ := constRepL_sound Γ w xs vs h.2
    have h0 := constRep_sound Γ w x v h.1.1
    refine ⟨.cons h0.rep h1, ?_, by rw [ownL]; exact ⟨h0.own, h3⟩, fun b => by rw [cntL, h0.cnt b, h4 b]⟩
    intro u hu
    rcases List.mem_cons.1 hu with rfl | hu
    · exact h.1.2
    · exact h2 u hu
end

/-- the zero value of a type -/
def zeroB (P : Program) : Nat → TypeId → AVal
  | 0, _ => .any
  | d + 1, t =>
    match P.underlying t with
    | some .bool => .bool false
    | some (.int k) => .int k 0
    | some .string => .str []
    | some (.pointer _) => .nilp
    | some (.slice e) => .slice ((sizeT P e).getD 0) [] true
    | some (.struct fs) => .agg (fs.toList.flatMap fun f => cellsA (zeroB P d f.type))
    | some (.array n e) => .agg (List.replicate n (cellsA (zeroB P d e))).flatten
    | some (.func _ _ _) => .nilFn
    | some (.interface _) => .nilIface
    | _ => .any
def zeroA (P : Program) (t : TypeId) : Option AVal :=
  match P.info? t with
  | some i =>
    match i.zero with
    | some v => let z := zeroB P 20 t; if constRep z v then some z else none
    | none => none
  | none => none
theorem zeroA_sound {t : TypeId} {z : AVal} (h : zeroA E.P t = some z) : ∃ v, (zeroValue t).run E.P w = .ok v w ∧ RepC Γ w z v := by
  unfold zeroA at h
  split at h
  · rename_i i hi
    split at h
    · rename_i v hv
      simp only at h
      split at h
      · rename_i hc
        simp only [Option.some.injEq] at h
        subst h
        exact ⟨v, by simp [zeroValue, typeInfo, hi, hv], constRep_sound Γ w _ v hc⟩
      · cases h
    · cases h
  · cases h

/-- the result of a step: a slot written, the store changed -/
structure Stepped (E : Env) (F : Nat → Nat) (Γ : Ghost) (st : St) (w : World) (a : Act) (o : Oper) (af' : List AVal) (st' : St) (nx : Next) (w' : World) (a' : Act) (Γ' : Ghost) : Prop where
  run : (execOp a.eval o).run E.P w = .ok nx w'
  upon : ∀ K Q, K a' w' → o.upon E.P a K Q (.ok nx w')
  defers : a'.defers = a.defers
  ext : Ext F Γ w Γ' w'
  next : st.next ≤ st'.next
  sim : Sim E F Γ' st' w' af' a'.tmps.toList

theorem put_defers (a : Act) (dst : Option Tmp) (v : Value) : (a.put dst v).defers = a.defers := by cases dst <;> rfl

/-- a new box for a value -/
theorem box_step (hs : Sim E F Γ st w af a.tmps.toList) {o : Oper} {x : AVal} {v : Value} {t : TypeId} {af1 : List AVal} (hs1 : Sim E F Γ st w af1 a.tmps.toList) (hr : Rep Γ x v) (ho : own Γ w x v) (hx : okBox x = true)
    (hc : ∀ b, F b + cntL b af1 a.tmps.toList + cnt b x v + cntM Γ w b st.m ≤ 1)
    (hrun : (execOp a.eval o).run E.P w = .ok (.value (.pointer (some ⟨w.heap.size, 0, none⟩))) (w.alloc (.cells v.cells t))) :
    ∃ nx w' a' Γ', Stepped E F Γ st w a o (putA af1 o.dst (.ptr st.next 0)) { m := (st.next, cellsA x) :: st.m, next := st.next + 1 } nx w' a' Γ' := by
  obtain ⟨h1, h2, h3⟩ := hs1.newBox (e := t) (hr.cellsOK hx) (own_cells hr hx ho) (hr.one hx) (fun b => by rw [cnt_cells hr hx]; exact hc b)
  refine ⟨_, _, _, _, hrun, fun K Q hk => hk, put_defers _ _ _, h2, by simp, ?_⟩
  refine h1.put o.dst h3 (by simp [own]) fun b => ?_
  have := h1.tok b
  simp only [cnt]; omega

theorem alloc_step (hs : Sim E F Γ st w af a.tmps.toList) {o : Oper} {t : TypeId} {z : AVal} (hop : o.op = .alloc t) (hz : zeroA E.P t = some z) :
    ∃ nx w' a' Γ', Stepped E F Γ st w a o (putA af o.dst (.ptr st.next 0)) { m := (st.next, cellsA z) :: st.m, next := st.next + 1 } nx w' a' Γ' := by
  obtain ⟨v, hv, hc⟩ := zeroA_sound (Γ := Γ) (w := w) hz
  refine box_step hs hs hc.rep hc.own hc.ok (fun b => by rw [hc.cnt b]; have := hs.tok b; omega) (t := t) ?_
  simp [execOp, hop, Instr.alloc, hv, newVar, newRow]

theorem boxop_step (hs : Sim E F Γ st w af a.tmps.toList) {o : Oper} {t : TypeId} {x : Operand} (hop : o.op = .box t x) (hx : okBox (rd E af t x) = true) :
    ∃ nx w' a' Γ', Stepped E F Γ st w a o (putA (stripAt af x) o.dst (.ptr st.next 0)) { m := (st.next, cellsA (rd E af t x)) :: st.m, next := st.next + 1 } nx w' a' Γ' := by
  refine box_step hs (hs.stripAt x) (hs.rd t x) (hs.rd_own t x) hx (fun b => ?_) (t := t) ?_
  · have := hs.rd_cnt t x b
    have := hs.tok b
    omega
  · simp [execOp, hop, Instr.box, newVar, newRow]

/-- a pure operation -/
theorem pure_step (hs : Sim E F Γ st w af a.tmps.toList) {o : Oper} {r : AVal} (h : pureVal E o af = some r) :
    ∃ nx w' a' Γ', Stepped E F Γ st w a o (putA af o.dst r.strip) st nx w' a' Γ' := by
  obtain ⟨v, hv, hr⟩ := pureVal_sound hs h
  exact ⟨_, _, _, Γ, hv, fun K Q hk => hk, put_defers _ _ _, Ext.refl _ _ _, Nat.le_refl _, hs.putStrip o.dst hr⟩

/-- a copy that takes the token along -/
theorem move_step (hs : Sim E F Γ st w af a.tmps.toList) {o : Oper} {x : Operand} (hop : o.op = .move x ∨ o.op = .assign x) :
    ∃ nx w' a' Γ', Stepped E F Γ st w a o (putA (stripAt af x) o.dst (rd E af o.type x)) st nx w' a' Γ' := by
  refine ⟨.value (a.eval x), w, a.put o.dst (a.eval x), Γ, ?_, fun K Q hk => hk, put_defers _ _ _, Ext.refl _ _ _, Nat.le_refl _, ?_⟩
  · rcases hop with h | h <;> simp [execOp, h]
  · refine (hs.stripAt x).put o.dst (hs.rd o.type x) (hs.rd_own o.type x) fun b => ?_
    have := hs.rd_cnt o.type x b
    have := hs.tok b
    omega

theorem slice_step (hs : Sim E F Γ st w af a.tmps.toList) {o : Oper} {t : TypeId} {x : Operand} {lo hi mx : Option Operand} {l h m : Option Int} {r : AVal} (hop : o.op = .slice t x lo hi mx)
    (hl : rdo E af lo = some l) (hh : rdo E af hi = some h) (hm : rdo E af mx = some m) (hr : sliceA E t (rd E af t x) l h m = some r) :
    ∃ nx w' a' Γ', Stepped E F Γ st w a o (putA af o.dst r) st nx w' a' Γ' := by
  obtain ⟨kl, el⟩ := rdo_sound hs hl
  obtain ⟨kh, eh⟩ := rdo_sound hs hh
  obtain ⟨km, em⟩ := rdo_sound hs hm
  obtain ⟨u, h1, h2, h3, h4⟩ := sliceA_sound (w := w) (kl := kl) (kh := kh) (km := km) (hs.rd t x) hr
  refine ⟨.value u, w, a.put o.dst u, Γ, ?_, fun K Q hk => hk, put_defers _ _ _, Ext.refl _ _ _, Nat.le_refl _, ?_⟩
  · simp only [execOp, hop, el, eh, em]
    rw [Sem.run_bind, h1]; rfl
  · refine hs.put o.dst h2 h4 fun b => ?_
    rw [h3 b]; have := hs.tok b; omega
end
end Go.VM
