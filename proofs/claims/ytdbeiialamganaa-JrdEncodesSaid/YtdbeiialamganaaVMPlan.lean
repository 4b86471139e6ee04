/- Regions that draw their order: a plan for all orders at once. -/
import Derived.Test.YtdbeiialamganaaVMDraw
set_option linter.unusedVariables false
namespace Go.VM

/-- take: an operation that may as well come now · alt: one of those that may come now (a list of alternatives, closed by stop); chk: the operations taken before that need not have come yet -/
inductive Plan where
  | done
  | take (i : Nat) (p : Plan)
  | alt (i : Nat) (chk : List Nat) (p rest : Plan)
  | stop

def Plan.alts : Plan → List Nat
  | .alt i _ _ rest => i :: rest.alts
  | _ => []
def Plan.sub (j : Nat) : Plan → Option (List Nat × Plan)
  | .alt i chk p rest => if i = j then some (chk, p) else rest.sub j
  | _ => none

def waitsB (o : Oper) (k : Nat) : Bool := o.after.any fun e => Region.binds .any e && e.on == k
def takeOK (ops : Array Oper) (listed : Array Bool) (taken : List Nat) (i : Nat) : Bool :=
  match ops[i]? with
  | some o =>
    match o.dst with
    | some d => Region.free .any ops listed i && !(o.looksAt ops).contains d && taken.all fun j => match ops[j]? with | some oj => !(oj.looksAt ops).contains d && oj.dst != some d | none => false
    | none => false
  | none => false
def chkOK (ops : Array Oper) (taken : List Nat) (i : Nat) (chk : List Nat) : Bool :=
  match ops[i]? with
  | some o => taken.all fun k => chk.contains k || waitsB o k
  | none => false
/-- is the plan one for this region? mode: we stand among the alternatives -/
def planOK (ops : Array Oper) : Plan → Bool → Array Bool → List Nat → Bool
  | .done, mode, listed, _ => !mode && (Region.ready .any ops listed).isEmpty
  | .take i p, mode, listed, taken => !mode && (Region.ready .any ops listed).contains i && takeOK ops listed taken i && planOK ops p false (listed.setIfInBounds i true) (i :: taken)
  | .alt i chk p rest, mode, listed, taken =>
    (mode || (Region.ready .any ops listed).all fun j => (i :: rest.alts).contains j) && (Region.ready .any ops listed).contains i && chkOK ops taken i chk && planOK ops p false (listed.setIfInBounds i true) taken && planOK ops rest true listed taken
  | .stop, mode, _, _ => mode

def tlook : List (Nat × AVal) → Nat → Option AVal
  | [], _ => none
  | (j, r) :: tv, k => if k = j then some r else tlook tv k
def chkAll (E : Env) (ops : Array Oper) (tv : List (Nat × AVal)) (af : List AVal) (st : St) : List Nat → Prop
  | [] => True
  | k :: ks => (match tlook tv k, ops[k]? with | some r, some o => slotG E ops o af st = some r | _, _ => False) ∧ chkAll E ops tv af st ks
def planWp (E : Env) (mv : List Tmp) (ops : Array Oper) : Plan → List (Nat × AVal) → (List AVal → St → Prop) → List AVal → St → Prop
  | .done, _, K, af, st => K af st
  | .take i p, tv, K, af, st =>
    match ops[i]? with
    | some o =>
      match slotG E ops o af st with
      | some r => planWp E mv ops p ((i, r) :: tv) K (putA af o.dst r) st
      | none => False
    | none => False
  | .alt i chk p rest, tv, K, af, st =>
    (match ops[i]? with
      | some o => gWp E mv ops o af st fun af' st' => chkAll E ops tv af' st' chk ∧ planWp E mv ops p tv K af' st'
      | none => False) ∧ planWp E mv ops rest tv K af st
  | .stop, _, _, _, _ => True

def dstOf (ops : Array Oper) (i : Nat) : Option Tmp := (ops[i]?).bind (·.dst)
def setAll (ops : Array Oper) (af : List AVal) : List (Nat × AVal) → List AVal
  | [] => af
  | (i, r) :: pend => setAll ops (putA af (dstOf ops i) r) pend
theorem setAll_snoc (ops : Array Oper) (pend : List (Nat × AVal)) (i : Nat) (r : AVal) : ∀ af, setAll ops af (pend ++ [(i, r)]) = putA (setAll ops af pend) (dstOf ops i) r := by
  induction pend with
  | nil => intro af; rfl
  | cons p pend ih => intro af; exact ih _

theorem slotG_setAll {E : Env} {ops : Array Oper} {o : Oper} {st : St} (pend : List (Nat × AVal)) : ∀ af, (∀ p, p ∈ pend → ∀ d, dstOf ops p.1 = some d → d ∉ o.looksAt ops) → slotG E ops o (setAll ops af pend) st = slotG E ops o af st := by
  induction pend with
  | nil => intro af _; rfl
  | cons p pend ih =>
    intro af h
    obtain ⟨i, r⟩ := p
    simp only [setAll]
    rw [ih _ (fun q hq => h q (List.mem_cons_of_mem _ hq))]
    cases hd : dstOf ops i with
    | none => rfl
    | some d => exact slotG_set (h (i, r) (by simp) d hd)
theorem gWp_setAll {E : Env} {mv : List Tmp} {ops : Array Oper} {o : Oper} {st : St} (pend : List (Nat × AVal)) : ∀ {af : List AVal} {K : List AVal → St → Prop}, (∀ p, p ∈ pend → ∀ d, dstOf ops p.1 = some d → d ∉ o.looksAt ops ∧ o.dst ≠ some d) → gWp E mv ops o (setAll ops af pend) st K → gWp E mv ops o af st fun af' st' => K (setAll ops af' pend) st' := by
  induction pend with
  | nil => intro af K _ h; exact h
  | cons p pend ih =>
    intro af K h hw
    obtain ⟨i, r⟩ := p
    simp only [setAll] at hw ⊢
    have h1 := ih (fun q hq => h q (List.mem_cons_of_mem _ hq)) hw
    cases hd : dstOf ops i with
    | none => rw [hd] at h1; exact h1
    | some d =>
      rw [hd] at h1
      obtain ⟨a1, a2⟩ := h (i, r) (by simp) d hd
      exact gWp_set (K := fun af' st' => K (setAll ops af' pend) st') a1 a2 h1

theorem putA_comm {af : List AVal} {d e : Option Tmp} {x y : AVal} (h : ∀ t, d = some t → e ≠ some t) : putA (putA af d x) e y = putA (putA af e y) d x := by
  cases d with
  | none => rfl
  | some d =>
    cases e with
    | none => rfl
    | some e =>
      have : d ≠ e := fun he => h d rfl (by rw [he])
      simp only [putA]
      exact List.set_comm _ _ this
theorem setAll_put {ops : Array Oper} (pend : List (Nat × AVal)) (d : Option Tmp) (x : AVal) : ∀ af, (∀ p, p ∈ pend → ∀ t, d = some t → dstOf ops p.1 ≠ some t) → setAll ops (putA af d x) pend = putA (setAll ops af pend) d x := by
  induction pend with
  | nil => intro af _; rfl
  | cons p pend ih =>
    intro af h
    obtain ⟨i, r⟩ := p
    simp only [setAll]
    rw [putA_comm (h (i, r) (by simp)), ih _ (fun q hq => h q (List.mem_cons_of_mem _ hq))]
theorem setAll_erase {ops : Array Oper} {i : Nat} {r : AVal} (pend : List (Nat × AVal)) : ∀ af, (i, r) ∈ pend → (pend.map (·.1)).Nodup → (∀ p q, p ∈ pend → q ∈ pend → p.1 ≠ q.1 → ∀ t, dstOf ops p.1 = some t → dstOf ops q.1 ≠ some t) →
    setAll ops af pend = setAll ops (putA af (dstOf ops i) r) (pend.filter fun p => p.1 != i) := by
  induction pend with
  | nil => intro af h _ _; cases h
  | cons p pend ih =>
    intro af h hn hd
    obtain ⟨j, s⟩ := p
    simp only [List.map_cons, List.nodup_cons] at hn
    by_cases hij : j = i
    · subst hij
      have hsr : s = r := by
        rcases List.mem_cons.1 h with e | e
        · cases e; rfl
        · exact absurd (List.mem_map.2 ⟨(j, r), e, rfl⟩) hn.1
      subst hsr
      have hf : pend.filter (fun p => p.1 != j) = pend := List.filter_eq_self.2 fun q hq => by
        simp only [bne_iff_ne, ne_eq]
        intro e
        exact hn.1 (List.mem_map.2 ⟨q, hq, e⟩)
      simp [setAll, hf]
    · have hm : (i, r) ∈ pend := by
        rcases List.mem_cons.1 h with e | e
        · cases e; exact absurd rfl hij
        · exact e
      have hne : (j != i) = true := by simpa using hij
      rw [List.filter_cons, if_pos hne]
      simp only [setAll]
      rw [ih _ hm hn.2 (fun p q hp hq => hd p q (List.mem_cons_of_mem _ hp) (List.mem_cons_of_mem _ hq))]
      rw [putA_comm (fun t ht => hd (j, s) (i, r) (by simp) h (by simpa using hij) t ht)]

/-- each waits for what is there, or for one ahead of it in the list -/
def OrdP (ops : Array Oper) : (Nat → Prop) → List (Nat × AVal) → Prop
  | _, [] => True
  | P, (i, _) :: rest => (∀ o, ops[i]? = some o → ∀ e, e ∈ o.after → Region.binds .any e = true → P e.on) ∧ OrdP ops (fun k => P k ∨ k = i) rest
theorem OrdP.mono {ops : Array Oper} : ∀ {pend : List (Nat × AVal)} {P P' : Nat → Prop}, (∀ k, P k → P' k) → OrdP ops P pend → OrdP ops P' pend
  | [], _, _, _, _ => trivial
  | (i, _) :: rest, _, _, h, ⟨h1, h2⟩ => ⟨fun o ho e he hb => h _ (h1 o ho e he hb), OrdP.mono (fun k hk => hk.imp (h k) id) h2⟩
theorem OrdP.snoc {ops : Array Oper} {i : Nat} {r : AVal} : ∀ {pend : List (Nat × AVal)} {P : Nat → Prop}, OrdP ops P pend → (∀ o, ops[i]? = some o → ∀ e, e ∈ o.after → Region.binds .any e = true → P e.on ∨ e.on ∈ pend.map (·.1)) → OrdP ops P (pend ++ [(i, r)])
  | [], P, _, h => ⟨fun o ho e he hb => (h o ho e he hb).resolve_right (by simp), trivial⟩
  | (j, _) :: rest, P, ⟨h1, h2⟩, h => ⟨h1, OrdP.snoc h2 fun o ho e he hb => by
      rcases h o ho e he hb with h | h
      · exact .inl (.inl h)
      · rcases List.mem_cons.1 h with h | h
        · exact .inl (.inr h)
        · exact .inr h⟩
theorem OrdP.erase {ops : Array Oper} {k : Nat} : ∀ {pend : List (Nat × AVal)} {P : Nat → Prop}, OrdP ops P pend → OrdP ops (fun j => P j ∨ j = k) (pend.filter fun p => p.1 != k)
  | [], _, _ => trivial
  | (i, s) :: rest, P, ⟨h1, h2⟩ => by
    have ih := OrdP.erase (k := k) h2
    by_cases hik : i = k
    · subst hik
      have hne : (i != i) = false := by simp
      rw [List.filter_cons, hne]
      exact ih.mono fun j hj => by rcases hj with (h | h) | h; exact .inl h; exact .inr h; exact .inr h
    · have hne : (i != k) = true := by simpa using hik
      rw [List.filter_cons, if_pos hne]
      exact ⟨fun o ho e he hb => .inl (h1 o ho e he hb), ih.mono fun j hj => by rcases hj with (h | h) | h; exact .inl (.inl h); exact .inr h; exact .inl (.inr h)⟩

def unlisted (n : Nat) (listed : Array Bool) : Nat := (List.range n).countP fun k => !listed.getD k true
theorem countP_one {i : Nat} {f g : Nat → Bool} (hf : f i = false) (hg : g i = true) (h : ∀ k, k ≠ i → f k = g k) : ∀ l : List Nat, l.countP f + l.count i = l.countP g
  | [] => rfl
  | k :: l => by
    have ih := countP_one hf hg h l
    rw [List.countP_cons, List.countP_cons, List.count_cons]
    by_cases hk : k = i
    · subst hk; rw [hf, hg]; simp; omega
    · have : (k == i) = false := by simpa using hk
      rw [h k hk, this]; simp; omega
theorem unlisted_set {n i : Nat} {listed : Array Bool} (hi : listed.getD i true = false) (hn : i < n) : unlisted n (listed.setIfInBounds i true) + 1 ≤ unlisted n listed := by
  have hlt : i < listed.size := by
    rcases Nat.lt_or_ge i listed.size with h | h
    · exact h
    · simp [Array.getElem?_eq_none h] at hi
  have hset : (listed.setIfInBounds i true).getD i true = true := by simp [hlt]
  have hother : ∀ k, k ≠ i → (listed.setIfInBounds i true).getD k true = listed.getD k true := fun k hk => getD_set_ne true (Ne.symm hk)
  unfold unlisted
  have key := fun l => countP_one (i := i) (f := fun k => !(listed.setIfInBounds i true).getD k true) (g := fun k => !listed.getD k true) (by simp only [hset, Bool.not_true]) (by simp only [hi, Bool.not_false]) (fun k hk => by simp only [hother k hk]) l
  have hc : 1 ≤ (List.range n).count i := List.count_pos_iff.2 (List.mem_range.2 hn)
  have := key (List.range n)
  omega
theorem unlisted_zero {n : Nat} {listed : Array Bool} (h : unlisted n listed = 0) {k : Nat} (hk : k < n) : listed.getD k true = true := by
  have := List.countP_eq_zero.1 h k (List.mem_range.2 hk)
  simpa using this

/-- how the real order stands to the plan's -/
structure Inv (E : Env) (ops : Array Oper) (act asap : Array Bool) (taken : List Nat) (pend tv : List (Nat × AVal)) (af : List AVal) (st : St) : Prop where
  sz1 : act.size = ops.size
  sz2 : asap.size = ops.size
  list : ∀ k, k < ops.size → (asap.getD k true = true ↔ act.getD k true = true ∨ k ∈ pend.map (·.1))
  notin : ∀ p, p ∈ pend → act.getD p.1 true = false ∧ p.1 < ops.size ∧ p.1 ∈ taken
  nodup : (pend.map (·.1)).Nodup
  tvl : ∀ p, p ∈ pend → tlook tv p.1 = some p.2
  val : ∀ p, p ∈ pend → ∀ o, ops[p.1]? = some o → slotG E ops o (setAll ops af pend) st = some p.2
  free : ∀ p, p ∈ pend → ∀ d, dstOf ops p.1 = some d → ∀ j oj, ops[j]? = some oj → asap.getD j true = false → (∀ e, e ∈ oj.after → Region.binds .any e = true → e.on ≠ p.1) → d ∉ oj.looksAt ops ∧ oj.dst ≠ some d
  self : ∀ p, p ∈ pend → ∀ d o, dstOf ops p.1 = some d → ops[p.1]? = some o → d ∉ o.looksAt ops
  pair : ∀ p q, p ∈ pend → q ∈ pend → p.1 ≠ q.1 → ∀ d, dstOf ops p.1 = some d → dstOf ops q.1 ≠ some d ∧ ∀ oq, ops[q.1]? = some oq → (∀ e, e ∈ oq.after → Region.binds .any e = true → e.on ≠ p.1) → d ∉ oq.looksAt ops
  ord : OrdP ops (fun k => act.getD k false = true) pend

theorem getD_tf {l : Array Bool} {k : Nat} (h : k < l.size) : l.getD k false = l.getD k true := by
  simp [Array.getD, h]

section
variable {E : Env} {ops : Array Oper}

theorem Inv.ready_sub {act asap : Array Bool} {taken : List Nat} {pend tv : List (Nat × AVal)} {af : List AVal} {st : St} (I : Inv E ops act asap taken pend tv af st) {j : Nat} (hj : j ∈ Region.ready .any ops act) (hp : j ∉ pend.map (·.1)) : j ∈ Region.ready .any ops asap := by
  obtain ⟨h0, o, ho, h1⟩ := mem_ready.1 hj
  have hlt : j < ops.size := (Array.getElem?_eq_some_iff.1 ho).1
  refine mem_ready.2 ⟨?_, o, ho, fun e he hb => ?_⟩
  · cases h : asap.getD j true with
    | false => rfl
    | true =>
      rcases (I.list j hlt).1 h with h | h
      · rw [h0] at h; cases h
      · exact absurd h hp
  · have := h1 e he hb
    have hlt' : e.on < act.size := by
      rcases Nat.lt_or_ge e.on act.size with h | h
      · exact h
      · simp [Array.getElem?_eq_none h] at this
    rw [getD_tf hlt'] at this
    rw [getD_tf (by rw [I.sz2, ← I.sz1]; exact hlt')]
    exact (I.list e.on (by rw [← I.sz1]; exact hlt')).2 (.inl this)

/-- something can always come -/
theorem Inv.some_ready {act asap : Array Bool} {taken : List Nat} {pend tv : List (Nat × AVal)} {af : List AVal} {st : St} (I : Inv E ops act asap taken pend tv af st) (h : Region.ready .any ops act = []) : pend = [] := by
  cases hp : pend with
  | nil => rfl
  | cons p rest =>
    exfalso
    obtain ⟨i, r⟩ := p
    have hm : (i, r) ∈ pend := by rw [hp]; simp
    obtain ⟨h0, hlt, _⟩ := I.notin _ hm
    have hord := I.ord
    rw [hp] at hord
    obtain ⟨o, ho⟩ : ∃ o, ops[i]? = some o := ⟨ops[i], Array.getElem?_eq_getElem hlt⟩
    have : i ∈ Region.ready .any ops act := mem_ready.2 ⟨h0, o, ho, fun e he hb => hord.1 o ho e he hb⟩
    rw [h] at this; cases this

theorem Inv.asap_ready {act asap : Array Bool} {taken : List Nat} {tv : List (Nat × AVal)} {af : List AVal} {st : St} (I : Inv E ops act asap taken [] tv af st) {j : Nat} (hj : j ∈ Region.ready .any ops asap) : j ∈ Region.ready .any ops act := by
  obtain ⟨h0, o, ho, h1⟩ := mem_ready.1 hj
  have hlt : j < ops.size := (Array.getElem?_eq_some_iff.1 ho).1
  refine mem_ready.2 ⟨?_, o, ho, fun e he hb => ?_⟩
  · cases h : act.getD j true with
    | false => rfl
    | true => have := (I.list j hlt).2 (.inl h); rw [h0] at this; cases this
  · have := h1 e he hb
    have hlt' : e.on < asap.size := by
      rcases Nat.lt_or_ge e.on asap.size with h | h
      · exact h
      · simp [Array.getElem?_eq_none h] at this
    rw [getD_tf hlt'] at this
    rw [getD_tf (by rw [I.sz1, ← I.sz2]; exact hlt')]
    rcases (I.list e.on (by rw [← I.sz2]; exact hlt')).1 this with h | h
    · exact h
    · simp at h

theorem chkAll_get {tv : List (Nat × AVal)} {af : List AVal} {st : St} : ∀ {chk : List Nat}, chkAll E ops tv af st chk → ∀ {k : Nat}, k ∈ chk → ∃ r o, tlook tv k = some r ∧ ops[k]? = some o ∧ slotG E ops o af st = some r
  | [], _, _, h => by cases h
  | x :: xs, ⟨h1, h2⟩, k, h => by
    rcases List.mem_cons.1 h with rfl | h
    · split at h1
      · rename_i r o e1 e2; exact ⟨r, o, e1, e2, h1⟩
      · cases h1
    · exact chkAll_get h2 h

theorem sub_spec {mv : List Tmp} {listed : Array Bool} {taken : List Nat} {tv : List (Nat × AVal)} {K : List AVal → St → Prop} {af : List AVal} {st : St} : ∀ {p : Plan}, planOK ops p true listed taken = true → planWp E mv ops p tv K af st → ∀ {j : Nat}, j ∈ p.alts →
    ∃ chk q o, ops[j]? = some o ∧ chkOK ops taken j chk = true ∧ planOK ops q false (listed.setIfInBounds j true) taken = true ∧ gWp E mv ops o af st fun af' st' => chkAll E ops tv af' st' chk ∧ planWp E mv ops q tv K af' st'
  | .alt i chk p rest, hok, hw, j, hj => by
    simp only [planOK, Bool.and_eq_true] at hok
    simp only [planWp] at hw
    rcases List.mem_cons.1 hj with rfl | hj
    · have h1 := hw.1
      split at h1
      · rename_i o ho
        exact ⟨chk, p, o, ho, hok.1.1.2, hok.1.2, h1⟩
      · cases h1
    · exact sub_spec hok.2 hw.2 hj
  | .done, _, _, _, h => by cases h
  | .take _ _, _, _, _, h => by cases h
  | .stop, _, _, _, h => by cases h

theorem Inv.take {act asap : Array Bool} {taken : List Nat} {pend tv : List (Nat × AVal)} {af : List AVal} {st : St} (I : Inv E ops act asap taken pend tv af st) {i : Nat} {o : Oper} {r : AVal}
    (hr : i ∈ Region.ready .any ops asap) (hok : takeOK ops asap taken i = true) (ho : ops[i]? = some o) (hv : slotG E ops o (setAll ops af pend) st = some r) :
    Inv E ops act (asap.setIfInBounds i true) (i :: taken) (pend ++ [(i, r)]) ((i, r) :: tv) af st := by
  obtain ⟨h0, o', ho', hw⟩ := mem_ready.1 hr
  rw [ho] at ho'; cases ho'
  have hlt : i < ops.size := (Array.getElem?_eq_some_iff.1 ho).1
  have hact : act.getD i true = false := by
    cases h : act.getD i true with
    | false => rfl
    | true => have := (I.list i hlt).2 (.inl h); rw [h0] at this; cases this
  have hnp : i ∉ pend.map (·.1) := fun h => by have := (I.list i hlt).2 (.inr h); rw [h0] at this; cases this
  unfold takeOK at hok
  rw [ho] at hok
  simp only at hok
  split at hok
  · rename_i d hd
    simp only [Bool.and_eq_true, Bool.not_eq_true', List.all_eq_true] at hok
    obtain ⟨⟨hfree, hself⟩, htk⟩ := hok
    have hself' : d ∉ o.looksAt ops := by simpa using hself
    have hdst : dstOf ops i = some d := by simp [dstOf, ho, hd]
    have hfr := fun j oj hj hne hun hno => Oper.apart_spec (Region.free_spec ho hfree j oj hj hne hun hno)
    have htk' : ∀ j, j ∈ taken → ∀ oj, ops[j]? = some oj → d ∉ oj.looksAt ops ∧ oj.dst ≠ some d := by
      intro j hj oj hoj
      have := htk j hj
      rw [hoj] at this
      simp only [Bool.and_eq_true, Bool.not_eq_true', bne_iff_ne, ne_eq] at this
      exact ⟨by simpa using this.1, this.2⟩
    have hset : ∀ k, k ≠ i → (asap.setIfInBounds i true).getD k true = asap.getD k true := fun k hk => getD_set_ne true (Ne.symm hk)
    have hseti : (asap.setIfInBounds i true).getD i true = true := by simp [I.sz2, hlt]
    have hpne : ∀ p, p ∈ pend → p.1 ≠ i := fun p hp e => hnp (List.mem_map.2 ⟨p, hp, e⟩)
    refine { sz1 := I.sz1, sz2 := by simp [I.sz2], list := ?_, notin := ?_, nodup := ?_, tvl := ?_, val := ?_, free := ?_, self := ?_, pair := ?_, ord := ?_ }
    · intro k hk
      rw [List.map_append, List.mem_append]
      by_cases hki : k = i
      · subst hki; rw [hseti]; simp
      · rw [hset k hki, I.list k hk]; simp [hki]
    · intro p hp
      rcases List.mem_append.1 hp with hp | hp
      · obtain ⟨a, b, c⟩ := I.notin p hp; exact ⟨a, b, List.mem_cons_of_mem _ c⟩
      · simp only [List.mem_singleton] at hp; subst hp; exact ⟨hact, hlt, by simp⟩
    · rw [List.map_append, List.nodup_append]
      refine ⟨I.nodup, by simp, ?_⟩
      intro x hx y hy
      simp only [List.map_cons, List.map_nil, List.mem_singleton] at hy
      subst hy
      exact fun e => hnp (e ▸ hx)
    · intro p hp
      rcases List.mem_append.1 hp with hp | hp
      · simp only [tlook]; rw [if_neg (hpne p hp)]; exact I.tvl p hp
      · simp only [List.mem_singleton] at hp; subst hp; simp [tlook]
    · intro p hp op hop
      rw [setAll_snoc, hdst]
      rcases List.mem_append.1 hp with hp | hp
      · rw [show putA (setAll ops af pend) (some d) r = (setAll ops af pend).set d r from rfl, slotG_set (htk' p.1 (I.notin p hp).2.2 op hop).1]
        exact I.val p hp op hop
      · simp only [List.mem_singleton] at hp; subst hp
        rw [ho] at hop; cases hop
        rw [show putA (setAll ops af pend) (some d) r = (setAll ops af pend).set d r from rfl, slotG_set hself']
        exact hv
    · intro p hp dd hdd j oj hoj hun hno
      have hji : j ≠ i := fun e => by subst e; rw [hseti] at hun; cases hun
      rw [hset j hji] at hun
      rcases List.mem_append.1 hp with hp | hp
      · exact I.free p hp dd hdd j oj hoj hun hno
      · simp only [List.mem_singleton] at hp; subst hp
        simp only at hdd hno
        rw [hdst] at hdd; cases hdd
        obtain ⟨a, b, c⟩ := hfr j oj hoj hji hun hno
        exact ⟨a d hd, b d hd⟩
    · intro p hp dd op hdd hop
      rcases List.mem_append.1 hp with hp | hp
      · exact I.self p hp dd op hdd hop
      · simp only [List.mem_singleton] at hp; subst hp
        simp only at hdd hop
        rw [hdst] at hdd; cases hdd
        rw [ho] at hop; cases hop
        exact hself'
    · intro p q hp hq hne dd hdd
      rcases List.mem_append.1 hp with hp | hp <;> rcases List.mem_append.1 hq with hq | hq
      · exact I.pair p q hp hq hne dd hdd
      · simp only [List.mem_singleton] at hq; subst hq
        simp only at hne ⊢
        refine ⟨?_, fun oq hoq hno => ?_⟩
        · rw [hdst]
          intro e
          simp only [Option.some.injEq] at e
          have hpo : ∃ op, ops[p.1]? = some op := ⟨_, Array.getElem?_eq_getElem (I.notin p hp).2.1⟩
          obtain ⟨op, hop⟩ := hpo
          have := (htk' p.1 (I.notin p hp).2.2 op hop).2
          have hdd' : op.dst = some dd := by simpa [dstOf, hop] using hdd
          rw [hdd', e] at this; exact this rfl
        · rw [ho] at hoq; cases hoq
          exact (I.free p hp dd hdd i o ho h0 hno).1
      · simp only [List.mem_singleton] at hp; subst hp
        simp only at hne hdd ⊢
        rw [hdst] at hdd; cases hdd
        obtain ⟨oq, hoq⟩ : ∃ oq, ops[q.1]? = some oq := ⟨_, Array.getElem?_eq_getElem (I.notin q hq).2.1⟩
        have hh := htk' q.1 (I.notin q hq).2.2
        refine ⟨?_, fun oq hoq _ => (hh oq hoq).1⟩
        simp only [dstOf, hoq, Option.bind_some]
        exact (hh oq hoq).2
      · simp only [List.mem_singleton] at hp hq; subst hp; subst hq; exact absurd rfl hne
    · refine I.ord.snoc fun o'' ho'' e he hb => ?_
      rw [ho] at ho''; cases ho''
      have := hw e he hb
      have hlt' : e.on < asap.size := by
        rcases Nat.lt_or_ge e.on asap.size with h | h
        · exact h
        · simp [Array.getElem?_eq_none h] at this
      rw [getD_tf hlt'] at this
      rcases (I.list e.on (by rw [← I.sz2]; exact hlt')).1 this with h | h
      · exact .inl (by rw [getD_tf (by rw [I.sz1, ← I.sz2]; exact hlt')]; exact h)
      · exact .inr h
  · cases hok

/-- one that was taken comes -/
theorem Inv.come {act asap : Array Bool} {taken : List Nat} {pend tv : List (Nat × AVal)} {af : List AVal} {st : St} (I : Inv E ops act asap taken pend tv af st) {i : Nat} {r : AVal} (hm : (i, r) ∈ pend) :
    Inv E ops (act.setIfInBounds i true) asap taken (pend.filter fun p => p.1 != i) tv (putA af (dstOf ops i) r) st := by
  obtain ⟨h0, hlt, htk⟩ := I.notin _ hm
  have hmem : ∀ p, p ∈ pend.filter (fun p => p.1 != i) → p ∈ pend ∧ p.1 ≠ i := fun p hp => by
    obtain ⟨a, b⟩ := List.mem_filter.1 hp; exact ⟨a, by simpa using b⟩
  have hset : ∀ k, k ≠ i → (act.setIfInBounds i true).getD k true = act.getD k true := fun k hk => getD_set_ne true (Ne.symm hk)
  have hseti : (act.setIfInBounds i true).getD i true = true := by simp [I.sz1, hlt]
  have herase := setAll_erase pend af hm I.nodup (fun p q hp hq hne t ht => (I.pair p q hp hq hne t ht).1)
  refine { sz1 := by simp [I.sz1], sz2 := I.sz2, list := ?_, notin := ?_, nodup := ?_, tvl := fun p hp => I.tvl p (hmem p hp).1, val := ?_, free := fun p hp => I.free p (hmem p hp).1, self := fun p hp => I.self p (hmem p hp).1, pair := fun p q hp hq => I.pair p q (hmem p hp).1 (hmem q hq).1, ord := ?_ }
  · intro k hk
    by_cases hki : k = i
    · subst hki
      rw [hseti]
      simp only [true_or, iff_true]
      exact (I.list k hk).2 (.inr (List.mem_map.2 ⟨_, hm, rfl⟩))
    · rw [hset k hki, I.list k hk]
      have : k ∈ (pend.filter fun p => p.1 != i).map (·.1) ↔ k ∈ pend.map (·.1) := by
        simp only [List.mem_map]
        constructor
        · rintro ⟨p, hp, rfl⟩; exact ⟨p, (hmem p hp).1, rfl⟩
        · rintro ⟨p, hp, rfl⟩; exact ⟨p, List.mem_filter.2 ⟨hp, by simpa using hki⟩, rfl⟩
      rw [this]
  · intro p hp
    obtain ⟨a, b⟩ := hmem p hp
    obtain ⟨c, d, e⟩ := I.notin p a
    exact ⟨by rw [hset p.1 b]; exact c, d, e⟩
  · exact (List.filter_sublist.map _).nodup I.nodup
  · intro p hp o ho
    rw [← herase]
    exact I.val p (hmem p hp).1 o ho
  · refine (I.ord.erase (k := i)).mono fun k hk => ?_
    rcases hk with hk | hk
    · exact getD_set_true hk
    · subst hk; rw [getD_tf (by simp [I.sz1, hlt])]; exact hseti

/-- one of the alternatives comes -/
theorem Inv.step {act asap : Array Bool} {taken : List Nat} {pend tv : List (Nat × AVal)} {af af' : List AVal} {st st' : St} (I : Inv E ops act asap taken pend tv af st) {i : Nat} {chk : List Nat} {o : Oper} (hr : i ∈ Region.ready .any ops act) (hp : i ∉ pend.map (·.1)) (ho : ops[i]? = some o)
    (hchk : chkOK ops taken i chk = true) (hall : chkAll E ops tv (setAll ops af' pend) st' chk) : Inv E ops (act.setIfInBounds i true) (asap.setIfInBounds i true) taken pend tv af' st' := by
  obtain ⟨h0, o', ho', hw⟩ := mem_ready.1 hr
  rw [ho] at ho'; cases ho'
  have hlt : i < ops.size := (Array.getElem?_eq_some_iff.1 ho).1
  have hset : ∀ (l : Array Bool) k, k ≠ i → (l.setIfInBounds i true).getD k true = l.getD k true := fun l k hk => getD_set_ne true (Ne.symm hk)
  have hseti : ∀ (l : Array Bool), l.size = ops.size → (l.setIfInBounds i true).getD i true = true := fun l hl => by simp [hl, hlt]
  have hpne : ∀ p, p ∈ pend → p.1 ≠ i := fun p hpm e => hp (List.mem_map.2 ⟨p, hpm, e⟩)
  refine { sz1 := by simp [I.sz1], sz2 := by simp [I.sz2], list := ?_, notin := ?_, nodup := I.nodup, tvl := I.tvl, val := ?_, free := ?_, self := I.self, pair := I.pair, ord := ?_ }
  · intro k hk
    by_cases hki : k = i
    · subst hki; rw [hseti act I.sz1, hseti asap I.sz2]; simp
    · rw [hset act k hki, hset asap k hki]; exact I.list k hk
  · intro p hpm
    obtain ⟨a, b, c⟩ := I.notin p hpm
    exact ⟨by rw [hset act p.1 (hpne p hpm)]; exact a, b, c⟩
  · intro p hpm op hop
    unfold chkOK at hchk
    rw [ho] at hchk
    simp only [List.all_eq_true, Bool.or_eq_true] at hchk
    obtain ⟨a, b, c⟩ := I.notin p hpm
    rcases hchk p.1 c with h | h
    · obtain ⟨r, o2, e1, e2, e3⟩ := chkAll_get hall (by simpa using h)
      rw [I.tvl p hpm] at e1; cases e1
      rw [hop] at e2; cases e2
      exact e3
    · exfalso
      obtain ⟨e, he, hb⟩ := Array.any_eq_true'.1 h
      simp only [Bool.and_eq_true, beq_iff_eq] at hb
      have := hw e he hb.1
      rw [hb.2, getD_tf (by rw [I.sz1]; exact b), a] at this
      cases this
  · intro p hpm d hd j oj hoj hun hno
    have hji : j ≠ i := fun e => by subst e; rw [hseti asap I.sz2] at hun; cases hun
    rw [hset asap j hji] at hun
    exact I.free p hpm d hd j oj hoj hun hno
  · exact I.ord.mono fun k hk => getD_set_true hk

theorem plan_sound {mv : List Tmp} {K : List AVal → St → Prop} {Qc : Exit → Act → World → Prop} {F : Nat → Nat} (fuel : Nat) : ∀ (plan : Plan) {act asap : Array Bool} {taken : List Nat} {pend tv : List (Nat × AVal)} {af : List AVal} {st : St} {a : Act} {w : World} {Γ : Ghost},
    planOK ops plan false asap taken = true → unlisted ops.size act ≤ fuel → Inv E ops act asap taken pend tv af st → a.defers = [] → Sim E F Γ st w af a.tmps.toList → planWp E mv ops plan tv K (setAll ops af pend) st →
    (∀ Γ' af' st' a' w', Ext F Γ w Γ' w' → st.next ≤ st'.next → a'.defers = [] → Sim E F Γ' st' w' af' a'.tmps.toList → K af' st' → Qc .normal a' w') →
    wpAny E.P .any ops Qc fuel act a w := by
  induction fuel with
  | zero =>
    intro plan
    induction plan with
    | done =>
      intro act asap taken pend tv af st a w Γ hok hn I hd hs hw hK
      have hrd : Region.ready .any ops act = [] := List.eq_nil_iff_forall_not_mem.2 fun j hj => by
        obtain ⟨h0, o, ho, _⟩ := mem_ready.1 hj
        rw [unlisted_zero (Nat.le_zero.1 hn) (Array.getElem?_eq_some_iff.1 ho).1] at h0; cases h0
      have := I.some_ready hrd
      subst this
      exact ⟨hrd, hK Γ af st a w (Ext.refl _ _ _) (Nat.le_refl _) hd hs hw⟩
    | take i p ih =>
      intro act asap taken pend tv af st a w Γ hok hn I hd hs hw hK
      simp only [planOK, Bool.and_eq_true] at hok
      simp only [planWp] at hw
      split at hw
      · rename_i o ho
        split at hw
        · rename_i r hr
          have I2 := I.take (by simpa using hok.1.1.2) hok.1.2 ho hr
          refine ih hok.2 hn I2 hd hs ?_ hK
          rw [setAll_snoc, show dstOf ops i = o.dst by simp [dstOf, ho]]
          exact hw
        · cases hw
      · cases hw
    | alt i chk p rest _ _ =>
      intro act asap taken pend tv af st a w Γ hok hn I hd hs hw hK
      exfalso
      simp only [planOK, Bool.and_eq_true] at hok
      have hi : i ∈ Region.ready .any ops asap := by simpa using hok.1.1.1.2
      obtain ⟨h0, o, ho, _⟩ := mem_ready.1 hi
      have hlt := (Array.getElem?_eq_some_iff.1 ho).1
      have := (I.list i hlt).2 (.inl (unlisted_zero (Nat.le_zero.1 hn) hlt))
      rw [h0] at this; cases this
    | stop => intro act asap taken pend tv af st a w Γ hok; simp [planOK] at hok
  | succ fuel ihf =>
    -- one that was taken comes
    have come : ∀ (plan : Plan) {act asap : Array Bool} {taken : List Nat} {pend tv : List (Nat × AVal)} {af : List AVal} {st : St} {a : Act} {w : World} {Γ : Ghost},
        planOK ops plan false asap taken = true → unlisted ops.size act ≤ fuel + 1 → Inv E ops act asap taken pend tv af st → a.defers = [] → Sim E F Γ st w af a.tmps.toList → planWp E mv ops plan tv K (setAll ops af pend) st →
        (∀ Γ' af' st' a' w', Ext F Γ w Γ' w' → st.next ≤ st'.next → a'.defers = [] → Sim E F Γ' st' w' af' a'.tmps.toList → K af' st' → Qc .normal a' w') →
        ∀ j, j ∈ Region.ready .any ops act → j ∈ pend.map (·.1) → wpOp E.P ops Qc j (wpAny E.P .any ops Qc fuel (act.setIfInBounds j true)) a w := by
      intro plan act asap taken pend tv af st a w Γ hok hn I hd hs hw hK j hj hjp
      obtain ⟨p, hp, rfl⟩ := List.mem_map.1 hjp
      obtain ⟨h0, o, ho, hwt⟩ := mem_ready.1 hj
      have hlt := (Array.getElem?_eq_some_iff.1 ho).1
      -- what it looks at is not among what is still to come
      have hlooks : ∀ q, q ∈ pend → ∀ d, dstOf ops q.1 = some d → d ∉ o.looksAt ops := by
        intro q hq d hdd
        by_cases hqp : q.1 = p.1
        · exact I.self q hq d o hdd (by rw [hqp]; exact ho)
        · refine (I.pair q p hq hp hqp d hdd).2 o ho fun e he hb heq => ?_
          have := hwt e he hb
          obtain ⟨a1, b1, _⟩ := I.notin q hq
          rw [heq, getD_tf (by rw [I.sz1]; exact b1), a1] at this
          cases this
      have hval := I.val p hp o ho
      rw [slotG_setAll pend af hlooks] at hval
      refine gWp_sound ho hd hs (slotG_gWp (mv := mv) hval) fun Γ' af' st' a' w' x1 n1 d1 s1 k1 => ?_
      obtain ⟨rfl, rfl⟩ := k1
      have hdst : dstOf ops p.1 = o.dst := by simp [dstOf, ho]
      have hpm : (p.1, p.2) ∈ pend := hp
      have I2 := I.come hpm
      rw [hdst] at I2
      refine ihf plan hok (by have := unlisted_set h0 hlt; omega) I2 d1 s1 ?_ fun Γ2 af2 st2 a2 w2 x2 n2 d2 s2 k2 => hK Γ2 af2 st2 a2 w2 (x1.trans x2) (Nat.le_trans n1 n2) d2 s2 k2
      rw [setAll_erase pend af hpm I.nodup (fun p q hp hq hne t ht => (I.pair p q hp hq hne t ht).1), hdst] at hw
      exact hw
    intro plan
    induction plan with
    | done =>
      intro act asap taken pend tv af st a w Γ hok hn I hd hs hw hK
      refine ⟨fun hrd => ?_, fun j hj => ?_⟩
      · have := I.some_ready hrd
        subst this
        exact hK Γ af st a w (Ext.refl _ _ _) (Nat.le_refl _) hd hs hw
      · by_cases hjp : j ∈ pend.map (·.1)
        · exact come .done hok hn I hd hs hw hK j hj hjp
        · exfalso
          have := I.ready_sub hj hjp
          simp only [planOK, Bool.not_false, Bool.true_and, List.isEmpty_iff] at hok
          rw [hok] at this; cases this
    | take i p ih =>
      intro act asap taken pend tv af st a w Γ hok hn I hd hs hw hK
      simp only [planOK, Bool.and_eq_true] at hok
      simp only [planWp] at hw
      split at hw
      · rename_i o ho
        split at hw
        · rename_i r hr
          have I2 := I.take (by simpa using hok.1.1.2) hok.1.2 ho hr
          refine ih hok.2 hn I2 hd hs ?_ hK
          rw [setAll_snoc, show dstOf ops i = o.dst by simp [dstOf, ho]]
          exact hw
        · cases hw
      · cases hw
    | alt i chk p rest _ _ =>
      intro act asap taken pend tv af st a w Γ hok hn I hd hs hw hK
      have hok0 := hok
      simp only [planOK, Bool.and_eq_true] at hok
      have hi : i ∈ Region.ready .any ops asap := by simpa using hok.1.1.1.2
      refine ⟨fun hrd => ?_, fun j hj => ?_⟩
      · exfalso
        have := I.some_ready hrd
        subst this
        have := I.asap_ready hi
        rw [hrd] at this; cases this
      · by_cases hjp : j ∈ pend.map (·.1)
        · exact come _ hok0 hn I hd hs hw hK j hj hjp
        · have hja := I.ready_sub hj hjp
          have hall := hok.1.1.1.1
          simp only [Bool.false_or, List.all_eq_true] at hall
          have hjm : j ∈ (Plan.alt i chk p rest).alts := by simpa [Plan.alts] using hall j hja
          have hok' : planOK ops (.alt i chk p rest) true asap taken = true := by
            simp only [planOK, Bool.true_or, Bool.true_and, Bool.and_eq_true]
            exact ⟨⟨⟨hok.1.1.1.2, hok.1.1.2⟩, hok.1.2⟩, hok.2⟩
          obtain ⟨chk', q, o, ho, hc, hq, hg⟩ := sub_spec hok' hw hjm
          obtain ⟨h0, o', ho', hwt⟩ := mem_ready.1 hj
          rw [ho] at ho'; cases ho'
          have hlt := (Array.getElem?_eq_some_iff.1 ho).1
          have hun : asap.getD j true = false := (mem_ready.1 hja).1
          have hlooks : ∀ p, p ∈ pend → ∀ d, dstOf ops p.1 = some d → d ∉ o.looksAt ops ∧ o.dst ≠ some d := by
            intro p hp d hdd
            refine I.free p hp d hdd j o ho hun fun e he hb heq => ?_
            have := hwt e he hb
            obtain ⟨a1, b1, _⟩ := I.notin p hp
            rw [heq, getD_tf (by rw [I.sz1]; exact b1), a1] at this
            cases this
          refine gWp_sound ho hd hs (gWp_setAll pend hlooks hg) fun Γ' af' st' a' w' x1 n1 d1 s1 k1 => ?_
          have I2 := I.step hj hjp ho hc k1.1
          exact ihf q hq (by have := unlisted_set h0 hlt; omega) I2 d1 s1 k1.2 fun Γ2 af2 st2 a2 w2 x2 n2 d2 s2 k2 => hK Γ2 af2 st2 a2 w2 (x1.trans x2) (Nat.le_trans n1 n2) d2 s2 k2
    | stop => intro act asap taken pend tv af st a w Γ hok; simp [planOK] at hok
end

theorem awp_region_draw {E : Env} {Q : APost} {af : List AVal} {st : St} {id : Nat} {ops : Array Oper} (mv : List Tmp) (plan : Plan) (hm : E.P.follows .mixedOrders = true) (hok : planOK ops plan false (Array.replicate ops.size false) [] = true)
    (h : planWp E mv ops plan [] (fun af st => Q .normal af st) af st) : AWp E (.region id ops true) Q af st := by
  constructor
  intro F Γ w a hd hs
  refine wp_region_any hm ?_
  have I : Inv E ops (Array.replicate ops.size false) (Array.replicate ops.size false) [] [] [] af st := by
    have hno : ∀ p : Nat × AVal, p ∈ ([] : List (Nat × AVal)) → False := fun p hp => by cases hp
    exact { sz1 := (by simp), sz2 := (by simp), list := (fun k hk => by simp), notin := (fun p hp => (hno p hp).elim), nodup := (by simp), tvl := (fun p hp => (hno p hp).elim), val := (fun p hp => (hno p hp).elim), free := (fun p hp => (hno p hp).elim), self := (fun p hp => (hno p hp).elim), pair := (fun p q hp => (hno p hp).elim), ord := trivial }
  have hun : unlisted ops.size (Array.replicate ops.size false) ≤ ops.size := by
    unfold unlisted
    have := List.countP_le_length (p := fun k => !(Array.replicate ops.size false).getD k true) (l := List.range ops.size)
    simpa using this
  exact plan_sound ops.size plan hok hun I hd hs.drew h fun Γ' af' st' a' w' x1 n1 d1 s1 k1 => ⟨trivial, d1, Γ', af', st', ⟨x1.le, x1.keep, x1.size, x1.os, x1.output, x1.tape⟩, n1, s1, k1⟩
end Go.VM
