/- Loops by the values that they carry; copies handed back without tokens. -/
import Derived.Test.YtdbeiialamganaaVMPlan
set_option linter.unusedVariables false
namespace Go.VM

/-- slots forgotten -/
def maskA : List Tmp → List AVal → List AVal
  | [], af => af
  | j :: js, af => maskA js (af.set j .any)
/-- slots set -/
def setVals : List AVal → List Tmp → List AVal → List AVal
  | af, c :: cs, v :: vs => setVals (af.set c v) cs vs
  | af, _, _ => af
def getVals (af : List AVal) (cs : List Tmp) : List AVal := cs.map fun c => af.getD c .any

section
variable {E : Env} {F : Nat → Nat} {Γ : Ghost} {st : St} {w : World} {af : List AVal} {a : Act} {Q : APost}

theorem Sim.setAny (hs : Sim E F Γ st w af a.tmps.toList) (j : Tmp) : Sim E F Γ st w (af.set j .any) a.tmps.toList := by
  have key : ∀ {xs : List AVal} {vs : List Value} (j : Nat), RepL Γ xs vs → RepL Γ (xs.set j .any) vs := by
    intro xs
    induction xs with
    | nil => intro vs j h; cases h; simpa using RepL.nil
    | cons x xs ih => intro vs j h; cases h with
      | cons h t => cases j with
        | zero => exact .cons (.any _) t
        | succ j => exact .cons h (ih j t)
  have keyo : ∀ {xs : List AVal} {vs : List Value} (j : Nat), ownL Γ w xs vs → ownL Γ w (xs.set j .any) vs := by
    intro xs
    induction xs with
    | nil => intro vs j h; simp [ownL]
    | cons x xs ih => intro vs j h; cases vs with
      | nil => cases j <;> simp [ownL]
      | cons v vs =>
        rw [ownL] at h
        cases j with
        | zero => simp only [List.set_cons_zero, ownL]; exact ⟨by simp [VM.own], h.2⟩
        | succ j => simp only [List.set_cons_succ, ownL]; exact ⟨h.1, ih j h.2⟩
  have keyc : ∀ (xs : List AVal) (vs : List Value) (j b : Nat), cntL b (xs.set j .any) vs ≤ cntL b xs vs := by
    intro xs
    induction xs with
    | nil => intro vs j b; simp
    | cons x xs ih => intro vs j b; cases vs with
      | nil => cases j <;> simp [cntL]
      | cons v vs => cases j with
        | zero => simp only [List.set_cons_zero, cntL, cnt]; omega
        | succ j => simp only [List.set_cons_succ, cntL]; have := ih vs j b; omega
  exact { hs with rep := key j hs.rep, own := keyo j hs.own, tok := fun b => by have := keyc af a.tmps.toList j b; have := hs.tok b; omega }
theorem Sim.mask (js : List Tmp) : ∀ {af : List AVal}, Sim E F Γ st w af a.tmps.toList → Sim E F Γ st w (maskA js af) a.tmps.toList := by
  induction js with
  | nil => intro af hs; exact hs
  | cons j js ih => intro af hs; exact ih (hs.setAny j)
theorem awp_mask {c : Code} (js : List Tmp) (h : AWp E c Q (maskA js af) st) : AWp E c Q af st := ⟨fun F Γ w a hd hs => h.go F Γ w a hd (hs.mask js)⟩

theorem maskA_set_comm (js : List Tmp) : ∀ (af : List AVal) (j : Tmp), maskA js (af.set j .any) = (maskA js af).set j .any := by
  induction js with
  | nil => intro af j; rfl
  | cons k js ih =>
    intro af j
    simp only [maskA]
    by_cases hk : j = k
    · subst hk; rw [List.set_set, ih]; simp
    · rw [List.set_comm _ _ hk, ih]
theorem set_getD (af : List AVal) (c : Nat) : af.set c (af.getD c .any) = af := by
  apply List.ext_getElem?
  intro i
  rw [List.getElem?_set]
  split
  · rename_i h
    subst h
    split
    · rename_i hl; simp [List.getD, List.getElem?_eq_getElem hl]
    · rename_i hl; rw [List.getElem?_eq_none (by omega)]
  · rfl

/-- what a frame is, but for some slots, and the values of these -/
theorem setVals_get : ∀ (cs : List Tmp) (af af0 : List AVal), maskA cs af = maskA cs af0 → af = setVals af0 cs (getVals af cs) := by
  intro cs
  induction cs with
  | nil => intro af af0 h; exact h
  | cons c cs ih =>
    intro af af0 h
    simp only [maskA] at h
    simp only [getVals, List.map_cons, setVals]
    -- both frames agree once c is set to af's value
    have h2 : maskA cs af = maskA cs (af0.set c (af.getD c .any)) := by
      have hl : af.length = af0.length := by
        have hlen : ∀ (l : List Tmp) (x : List AVal), (maskA l x).length = x.length := by
          intro l
          induction l with
          | nil => intro x; rfl
          | cons j l ih => intro x; simp [maskA, ih]
        have := congrArg List.length h
        simpa [hlen] using this
      rw [maskA_set_comm, maskA_set_comm] at h
      apply List.ext_getElem?
      intro i
      have hi := congrArg (·[i]?) h
      simp only [List.getElem?_set] at hi
      have hmask : ∀ (l : List Tmp) (x : List AVal) (k : Nat), (maskA l x)[k]? = if k ∈ l then (if k < x.length then some .any else none) else x[k]? := by
        intro l
        induction l with
        | nil => intro x k; simp [maskA]
        | cons j l ih =>
          intro x k
          simp only [maskA, ih, List.length_set, List.mem_cons]
          by_cases hkl : k ∈ l
          · simp [hkl]
          · by_cases hkj : k = j
            · subst hkj
              simp only [hkl, if_false, true_or, if_true, List.getElem?_set]
            · simp only [hkl, if_false, hkj, or_false, List.getElem?_set]
              rw [if_neg (fun e => hkj e.symm)]
      rw [hmask, hmask]
      rw [hmask, hmask] at hi
      by_cases hic : i ∈ cs
      · simp [hic, hl]
      · simp only [hic, if_false] at hi ⊢
        rw [List.getElem?_set]
        by_cases hci : c = i
        · subst hci
          simp only [if_true]
          by_cases hlt : c < af.length
          · have hlt0 : c < af0.length := by rw [← hl]; exact hlt
            rw [if_pos hlt0]
            simp [List.getD, List.getElem?_eq_getElem hlt]
          · have hlt0 : ¬ c < af0.length := by rw [← hl]; exact hlt
            rw [if_neg hlt0, List.getElem?_eq_none (Nat.le_of_not_lt hlt)]
        · rw [if_neg hci] at hi
          rw [if_neg hci] at hi
          rw [if_neg hci]; exact hi
    exact ih af _ h2

/-- A LOOP by what it carries: js: the slots that are forgotten at a round's end; cs: those that carry; I: what holds of their values -/
theorem awp_loop_v {c : Code} (js cs : List Tmp) (I : Nat → List AVal → St → Prop) (n₀ : Nat) (h₀ : I n₀ (getVals (maskA js af) cs) st)
    (round : ∀ n vs st', I n vs st' → ∀ J : List AVal → St → Prop,
      (∀ n' af' st' m, n' < n → m.Sublist st'.m → maskA cs (maskA js af') = maskA cs (maskA js af) → I n' (getVals (maskA js af') cs) { st' with m := m } → J af' st') →
      AWp E c (kPost J Q) (setVals (maskA js af) cs vs) st') : AWp E (.loop c) Q af st := by
  refine awp_mask js ?_
  constructor
  intro F Γ w a hd hs
  refine wp_loop_ghost (fun n a' w' => a'.defers = [] ∧ ∃ Γ' vs st', Ext F Γ w Γ' w' ∧ st.next ≤ st'.next ∧ Sim E F Γ' st' w' (setVals (maskA js af) cs vs) a'.tmps.toList ∧ I n vs st') n₀
    ⟨hd, Γ, getVals (maskA js af) cs, st, Ext.refl _ _ _, Nat.le_refl _, by rw [← setVals_get cs _ _ rfl]; exact hs, h₀⟩ ?_
  intro n a₁ w₁ ⟨hd1, Γ₁, vs₁, st₁, h2, h3, h4, h5⟩
  refine wp_mono ((round n vs₁ st₁ h5 (fun af' st' => ∃ n' m, n' < n ∧ m.Sublist st'.m ∧ maskA cs (maskA js af') = maskA cs (maskA js af) ∧ I n' (getVals (maskA js af') cs) { st' with m := m }) (fun n' af' st' m k1 k2 k3 k4 => ⟨n', m, k1, k2, k3, k4⟩)).go F Γ₁ w₁ a₁ hd1 h4) ?_
  intro e a' w' hq
  have hq := lift_trans h2 h3 hq
  cases e with
  | normal =>
    obtain ⟨_, k1, Γ', af', st', k2, k3, k4, kk⟩ := hq
    obtain ⟨n', m, k5, k6, k7, k8⟩ := kk.get
    refine ⟨n', k5, k1, Γ', getVals (maskA js af') cs, { st' with m := m }, k2, k3, ?_, k8⟩
    rw [← setVals_get cs _ _ k7]
    exact (k4.mask js).fewer k6
  | _ =>
    obtain ⟨k0, k1, Γ', af', st', k2, k3, k4, kk⟩ := hq
    exact ⟨k0, k1, Γ', af', st', k2, k3, k4, kk.out (by simp)⟩

/-- a result without its tokens -/
theorem ACall.strip {f : FuncId} {args : List AVal} {Q : AVal → St → Prop} (h : ACall E f args st fun r st' => Q r.strip st') : ACall E f args st Q :=
  ⟨fun F Γ w cargs hs => (h.go F Γ w cargs hs).mono fun e w' ⟨v, he, Γ', r, st', h1, h2, h3, h4⟩ => ⟨v, he, Γ', r.strip, st', h1, h2, by
    have hr : Rep Γ' r v := by have := h3.rep; cases this; assumption
    have ht : ∀ b, F b + cntL b [r.strip] [v] + cntM Γ' w' b st'.m ≤ 1 := fun b => by
      have := h3.tok b
      have e : cntL b [r.strip] [v] = 0 := by simp [cntL, cnt_strip]
      rw [e]; omega
    exact { h3 with rep := .cons hr.strip .nil, own := (by rw [ownL]; exact ⟨own_strip _ _ _ _, by simp [ownL]⟩), tok := ht }, h4⟩⟩
end
end Go.VM
