/- The reference's decoder of resource descriptors gives what the program's gives. -/
import Derived.Test.YtdbeiialamganaaJkeep
set_option linter.unusedVariables false
set_option linter.unusedSimpArgs false
namespace Go.VM

/-- steps that keep an error -/
def sbind {α β : Type} (f : JrdDecoder → α × JrdDecoder) (k : α → JrdDecoder → β × JrdDecoder) : JrdDecoder → β × JrdDecoder := fun d => k (f d).1 (f d).2
def sim {α : Type} (f g : JrdDecoder → α × JrdDecoder) : Prop := ∀ d, (d.e ≠ 0 → (f d).2 = d ∧ (g d).2 = d) ∧ (d.e = 0 → (f d).2 = (g d).2 ∧ ((f d).2.e = 0 → (f d).1 = (g d).1))
theorem sim_bind {α β : Type} {f f' : JrdDecoder → α × JrdDecoder} {k k' : α → JrdDecoder → β × JrdDecoder} (h : sim f f') (hk : ∀ a, sim (k a) (k' a)) : sim (sbind f k) (sbind f' k') := by
  intro d
  obtain ⟨h1, h2⟩ := h d
  constructor
  · intro hd
    obtain ⟨e1, e2⟩ := h1 hd
    simp only [sbind, e1, e2]
    exact ⟨((hk _ d).1 hd).1, ((hk _ d).1 hd).2⟩
  · intro hd
    obtain ⟨e1, e2⟩ := h2 hd
    simp only [sbind, ← e1]
    by_cases he : (f d).2.e = 0
    · rw [e2 he]
      exact (hk _ _).2 he
    · have a1 := ((hk (f d).1 _).1 he).1
      have a2 := ((hk (f' d).1 _).1 he).2
      rw [a1, a2]
      exact ⟨rfl, fun h => absurd h he⟩
theorem sim_of {α : Type} {f g : JrdDecoder → α × JrdDecoder} (he : ∀ d, f d = g d) (hk : ∀ d, d.e ≠ 0 → (f d).2 = d) : sim f g := fun d => ⟨fun h => ⟨hk d h, by rw [← he]; exact hk d h⟩, fun _ => by rw [he]; exact ⟨rfl, fun _ => rfl⟩⟩
theorem sim_pure {α : Type} (a : α) : sim (fun d => (a, d)) (fun d => (a, d)) := sim_of (fun _ => rfl) (fun _ _ => rfl)
theorem failD_keep {d : JrdDecoder} (h : d.e ≠ 0) (x : Int) : failD d x = d := by
  have : (d.e == 0) = false := by simpa using h
  simp [failD, this]
theorem failD_zero {d : JrdDecoder} (h : d.e = 0) (x : Int) : failD d x = ⟨x⟩ := by simp [failD, h]

/-- the reference's steps -/
def textR (must : Bool) (g : ApiValue × Bool) (d : JrdDecoder) : List UInt8 × JrdDecoder :=
  (if g.1.kind != 5 then [] else g.1.text, if (if g.2 then g.1.kind != 5 else must) then failD d 160 else d)
def cutR (kind : Int) (x : ApiValue) : ApiValue := if kind == 7 then ApiValue.mk x.kind x.text (x.keys.take (min x.keys.length x.items.length)) (x.items.take (min x.keys.length x.items.length)) else x
def itemsR (g : ApiValue × Bool) (kind : Int) (d : JrdDecoder) : ApiValue × JrdDecoder :=
  if g.2 then if g.1.kind != kind then (zeroV, failD d 160) else if 64 < (cutR kind g.1).items.length then (zeroV, failD d 161) else (cutR kind g.1, d) else (zeroV, d)
def textsR : List ApiValue → JrdDecoder → List (List UInt8) × JrdDecoder
  | [], d => ([], d)
  | x :: xs, d => let r := textsR xs (if x.kind != 5 then failD d 160 else d); (x.text :: r.1, r.2)
def propR (null : Bool) (k : List UInt8) (x : ApiValue) (d : JrdDecoder) : ApiProperty × JrdDecoder :=
  (if x.kind == 1 then ApiProperty.mk k [] true else ApiProperty.mk k x.text false, if (x.kind != 5 && (x.kind != 1 || !null)) then failD d 160 else d)
def propsRL (null : Bool) : List (List UInt8) → List ApiValue → JrdDecoder → List ApiProperty × JrdDecoder
  | k :: ks, x :: xs, d => let p := propR null k x d; let r := propsRL null ks xs p.2; (p.1 :: r.1, r.2)
  | _, _, d => ([], d)
def propsR (g : ApiValue × Bool) (null : Bool) : JrdDecoder → List ApiProperty × JrdDecoder := sbind (itemsR g 7) fun m => propsRL null m.keys m.items
def linkR (v : ApiValue) : JrdDecoder → ApiLink × JrdDecoder :=
  sbind (textR true (getJ v kRel)) fun a => sbind (textR false (getJ v kType)) fun b => sbind (textR false (getJ v kHref)) fun c => sbind (textR false (getJ v kTempl)) fun e =>
    sbind (propsR (getJ v kTitles) false) fun f => sbind (propsR (getJ v kProps) true) fun g => fun d => (ApiLink.mk a b c e f g, d)
def linksR : List ApiValue → JrdDecoder → List ApiLink × JrdDecoder
  | [], d => ([], d)
  | x :: xs, d => if x.kind != 7 then linksR xs (failD d 160) else let l := linkR x d; let r := linksR xs l.2; (l.1 :: r.1, r.2)
def decR (v : ApiValue) : ApiJRD × Int :=
  if v.kind != 7 then (ApiJRD.mk [] [] [] [], 160) else
  let r := (sbind (textR false (getJ v kSubj)) fun s => sbind (sbind (itemsR (getJ v kAli) 6) fun m => textsR m.items) fun a => sbind (propsR (getJ v kProps) true) fun p => sbind (sbind (itemsR (getJ v kLinks) 6) fun m => linksR m.items) fun l => fun d => (ApiJRD.mk s a p l, d)) ⟨0⟩
  if r.2.e != 0 then (ApiJRD.mk [] [] [] [], r.2.e) else (r.1, 0)

theorem getL_no : ∀ (ks : List (List UInt8)) (xs : List ApiValue) (key : List UInt8), (getL ks xs key).2 = false → (getL ks xs key).1 = zeroV
  | [], xs, key, _ => by cases xs <;> rfl
  | k :: ks, [], key, _ => by simp [getL]
  | k :: ks, x :: xs, key, h => by
    rw [getL] at h ⊢
    split
    · rename_i e; rw [if_pos e] at h; cases h
    · rename_i e; rw [if_neg e] at h; exact getL_no ks xs key h
theorem getJ_no (v : ApiValue) (key : List UInt8) (h : (getJ v key).2 = false) : (getJ v key).1 = zeroV := by
  unfold getJ at h ⊢
  split
  · rename_i e; rw [if_pos e] at h; exact getL_no _ _ _ h
  · rfl
theorem sim_member {g : ApiValue × Bool} (hg : g.2 = false → g.1 = zeroV) : sim (fun d => memberD d g) (textR false g) := by
  refine sim_of (fun d => ?_) (fun d hd => ?_)
  · unfold memberD textR textD
    cases h : g.2
    · rw [hg h]; simp [zeroV]
    · simp only [if_true]; split <;> simp_all
  · unfold memberD textD
    split
    · split
      · exact failD_keep hd _
      · rfl
    · rfl
theorem sim_rel {g : ApiValue × Bool} (hg : g.2 = false → g.1 = zeroV) : sim (fun d => memberD (if g.2 then d else failD d 160) g) (textR true g) := by
  refine sim_of (fun d => ?_) (fun d hd => ?_)
  · unfold memberD textR textD
    cases h : g.2
    · rw [hg h]; simp [zeroV]
    · simp only [if_true]; split <;> simp_all
  · unfold memberD textD
    split
    · split
      · exact failD_keep hd _
      · rfl
    · exact failD_keep hd _
theorem sim_texts : ∀ xs : List ApiValue, sim (textsL xs) (textsR xs)
  | [] => sim_pure _
  | x :: xs => by
    have e : sim (fun d => textD d x) (fun d => (x.text, if x.kind != 5 then failD d 160 else d)) := by
      intro d
      unfold textD
      cases h : (x.kind != 5)
      · simp
      · refine ⟨fun hd => ?_, fun hd => ?_⟩
        · simp [failD_keep hd]
        · simp [failD_zero hd]
    exact sim_bind (k := fun a => sbind (textsL xs) fun r => fun d => (a :: r, d)) (k' := fun a => sbind (textsR xs) fun r => fun d => (a :: r, d)) e (fun a => sim_bind (sim_texts xs) (fun r => sim_pure _))
theorem sim_prop (null : Bool) (k : List UInt8) (x : ApiValue) : sim (fun d => (ApiProperty.mk k (propD null d x).1 (propD null d x).2.1, (propD null d x).2.2)) (propR null k x) := by
  intro d
  unfold propD propR textD
  cases h1 : (x.kind == 1)
  · cases h5 : (x.kind != 5)
    · simp
    · have h1' : (x.kind != 1) = true := by simp only [bne, h1, Bool.not_false]
      refine ⟨fun hd => ?_, fun hd => ?_⟩
      · simp [failD_keep hd, h1']
      · simp [failD_zero hd, h1']
  · have e1 : x.kind = 1 := by simpa using h1
    have h5 : (x.kind != 5) = true := by rw [e1]; rfl
    have h1' : (x.kind != 1) = false := by rw [e1]; rfl
    cases null
    · refine ⟨fun hd => ?_, fun hd => ?_⟩
      · simp [failD_keep hd, h5, h1']
      · simp [failD_zero hd, h5, h1']
    · simp [h1', h5]
theorem sim_propsL (null : Bool) : ∀ (ks : List (List UInt8)) (xs : List ApiValue), sim (propsL null ks xs) (propsRL null ks xs)
  | [], xs => by
    have e1 : propsL null [] xs = fun d => ([], d) := by funext d; cases xs <;> rfl
    have e2 : propsRL null [] xs = fun d => ([], d) := by funext d; cases xs <;> rfl
    rw [e1, e2]; exact sim_pure _
  | k :: ks, [] => by
    have e1 : propsL null (k :: ks) [] = fun d => ([], d) := by funext d; simp [propsL]
    have e2 : propsRL null (k :: ks) [] = fun d => ([], d) := by funext d; simp [propsRL]
    rw [e1, e2]; exact sim_pure _
  | k :: ks, x :: xs => by
    have e1 : propsL null (k :: ks) (x :: xs) = sbind (fun d => (ApiProperty.mk k (propD null d x).1 (propD null d x).2.1, (propD null d x).2.2)) (fun a => sbind (propsL null ks xs) fun r => fun d => (a :: r, d)) := by funext d; rw [propsL]; rfl
    have e2 : propsRL null (k :: ks) (x :: xs) = sbind (propR null k x) (fun a => sbind (propsRL null ks xs) fun r => fun d => (a :: r, d)) := by funext d; rw [propsRL]; rfl
    rw [e1, e2]
    exact sim_bind (sim_prop null k x) (fun a => sim_bind (sim_propsL null ks xs) (fun r => sim_pure _))

theorem propsL_cut (null : Bool) : ∀ (ks : List (List UInt8)) (xs : List ApiValue) (d : JrdDecoder), propsL null (ks.take (min ks.length xs.length)) (xs.take (min ks.length xs.length)) d = propsL null ks xs d
  | [], xs, d => by cases xs <;> simp [propsL]
  | k :: ks, [], d => by simp [propsL]
  | k :: ks, x :: xs, d => by
    have e : min (k :: ks).length (x :: xs).length = min ks.length xs.length + 1 := by simp only [List.length_cons]; omega
    rw [e, List.take_succ_cons, List.take_succ_cons, propsL, propsL]
    simp only [propsL_cut null ks xs]
/-- the items of a member, as far as what is made of them shows -/
theorem sim_items {α : Type} {g : ApiValue × Bool} {kind : Int} {k k' : ApiValue → JrdDecoder → α × JrdDecoder} (hk : ∀ x, sim (k x) (k' x)) (hc : ∀ x : ApiValue, x.kind = kind → k (cutR kind x) = k x) :
    sim (sbind (fun d => itemsD d g kind) k) (sbind (itemsR g kind) k') := by
  have cnt : g.1.kind = kind → (cutR kind g.1).items.length = countD g.1 := by
    intro h
    unfold cutR countD
    rw [h]
    split <;> simp
  intro d
  refine ⟨fun hd => ?_, fun hd => ?_⟩
  · have e1 : (itemsD d g kind).2 = d := by
      have : (d.e != 0) = true := by simpa using hd
      unfold itemsD; simp [this]
    have e2 : (itemsR g kind d).2 = d := by
      unfold itemsR
      split
      · split
        · exact failD_keep hd _
        · split
          · exact failD_keep hd _
          · rfl
      · rfl
    simp only [sbind, e1, e2]
    exact ⟨((hk _ d).1 hd).1, ((hk _ d).1 hd).2⟩
  · have h0 : (d.e != 0) = false := by simp [hd]
    simp only [sbind, itemsD, itemsR, h0, Bool.or_false]
    cases h2 : g.2
    · simp only [Bool.not_false, if_true, Bool.false_eq_true, if_false]
      exact (hk zeroV d).2 hd
    · simp only [Bool.not_true, Bool.false_eq_true, if_false, if_true]
      have bad : ∀ x : Int, x ≠ 0 → (k zeroV (failD d x)).2 = (k' zeroV (failD d x)).2 ∧ ((k zeroV (failD d x)).2.e = 0 → (k zeroV (failD d x)).1 = (k' zeroV (failD d x)).1) := by
        intro x hx
        rw [failD_zero hd]
        have := (hk zeroV ⟨x⟩).1 hx
        rw [this.1, this.2]
        exact ⟨rfl, fun h => absurd h hx⟩
      cases h3 : (g.1.kind != kind)
      · have hkd : g.1.kind = kind := by simpa using h3
        simp only [Bool.false_eq_true, if_false, cnt hkd]
        split
        · exact bad 161 (by decide)
        · have := (hk (cutR kind g.1) d).2 hd
          rw [hc g.1 hkd] at this
          exact this
      · simp only [if_true]
        exact bad 160 (by decide)
theorem sim_props (g : ApiValue × Bool) (null : Bool) : sim (fun d => propsD d g null) (propsR g null) :=
  sim_items (k := fun m => propsL null m.keys m.items) (fun x => sim_propsL null _ _) (fun x hx => by
    funext d
    simp only [cutR, beq_self_eq_true, if_true]
    exact propsL_cut null _ _ d)
theorem cut6 (x : ApiValue) : cutR 6 x = x := by simp [cutR]
theorem sim_link (v : ApiValue) : sim (fun d => linkD d v) (linkR v) := by
  have hg := fun key => getJ_no v key
  exact sim_bind (sim_rel (hg kRel)) fun a => sim_bind (sim_member (hg kType)) fun b => sim_bind (sim_member (hg kHref)) fun c => sim_bind (sim_member (hg kTempl)) fun e =>
    sim_bind (sim_props (getJ v kTitles) false) fun f => sim_bind (sim_props (getJ v kProps) true) fun g => sim_pure _
theorem link_bad {v : ApiValue} (h : (v.kind != 7) = true) {d : JrdDecoder} (hd : d.e = 0) : (linkD d v).2 = ⟨160⟩ := by
  have hk : (v.kind == 7) = false := by simpa using h
  have hg : ∀ key, getJ v key = (zeroV, false) := fun key => by simp [getJ, hk]
  have := failD_zero hd 160
  simp [linkD, hg, memberD, propsD, itemsD, propsL, zeroV, this]
theorem sim_links : ∀ xs : List ApiValue, sim (linksL xs) (linksR xs)
  | [] => sim_pure _
  | x :: xs => by
    have ih := sim_links xs
    cases h7 : (x.kind != 7)
    · have e2 : linksR (x :: xs) = sbind (linkR x) (fun a => sbind (linksR xs) fun r => fun d => (a :: r, d)) := by funext d; rw [linksR, h7]; rfl
      rw [e2]
      exact sim_bind (k := fun a => sbind (linksL xs) fun r => fun d => (a :: r, d)) (sim_link x) (fun a => sim_bind ih (fun r => sim_pure _))
    · have e2 : linksR (x :: xs) = fun d => linksR xs (failD d 160) := by funext d; rw [linksR, h7]; rfl
      rw [e2]
      intro d
      have e1 : (linksL (x :: xs) d).2 = (linksL xs (linkD d x).2).2 := rfl
      refine ⟨fun hd => ?_, fun hd => ?_⟩ <;> dsimp only
      · rw [e1, ((sim_link x d).1 hd).1, failD_keep hd]
        exact ⟨((ih d).1 hd).1, ((ih d).1 hd).2⟩
      · have hne : (⟨160⟩ : JrdDecoder).e ≠ 0 := by decide
        rw [e1, link_bad h7 hd, failD_zero hd, ((ih ⟨160⟩).1 hne).1, ((ih ⟨160⟩).1 hne).2]
        exact ⟨rfl, fun h => absurd h hne⟩
theorem dec_same (v : ApiValue) : decR v = decJ v := by
  unfold decR decJ
  split
  · rfl
  · have hs : sim (sbind (fun d => memberD d (getJ v kSubj)) fun s => sbind (sbind (fun d => itemsD d (getJ v kAli) 6) fun m => textsL m.items) fun a => sbind (fun d => propsD d (getJ v kProps) true) fun p => sbind (sbind (fun d => itemsD d (getJ v kLinks) 6) fun m => linksL m.items) fun l => fun d => (ApiJRD.mk s a p l, d))
        (sbind (textR false (getJ v kSubj)) fun s => sbind (sbind (itemsR (getJ v kAli) 6) fun m => textsR m.items) fun a => sbind (propsR (getJ v kProps) true) fun p => sbind (sbind (itemsR (getJ v kLinks) 6) fun m => linksR m.items) fun l => fun d => (ApiJRD.mk s a p l, d)) :=
      sim_bind (sim_member (getJ_no v _)) fun s => sim_bind (sim_items (fun x => sim_texts _) (fun x _ => by rw [cut6])) fun a => sim_bind (sim_props _ _) fun p => sim_bind (sim_items (fun x => sim_links _) (fun x _ => by rw [cut6])) fun l => sim_pure _
    obtain ⟨h1, h2⟩ := (hs ⟨0⟩).2 rfl
    unfold decG
    simp only []
    generalize hr : (sbind (textR false (getJ v kSubj)) fun s => sbind (sbind (itemsR (getJ v kAli) 6) fun m => textsR m.items) fun a => sbind (propsR (getJ v kProps) true) fun p => sbind (sbind (itemsR (getJ v kLinks) 6) fun m => linksR m.items) fun l => fun d => (ApiJRD.mk s a p l, d)) ⟨0⟩ = r at h1 h2
    simp only [sbind] at h1 h2
    rw [h1] at h2 ⊢
    split
    · rfl
    · rename_i hn
      have : r.2.e = 0 := by simpa using hn
      rw [← h2 this]

section
variable {N : Nat}
theorem rget_none (v : ApiValue) (key : List UInt8) (k2 : Unit → Option (ApiValue × Bool)) : ∀ (ks : List (List UInt8)) (i : Int), (v.items.length : Int) ≤ i → ref14_Get_L1 N v key k2 ks i = k2 ()
  | [], i, h => by rw [ref14_Get_L1]
  | x :: ks, i, h => by
    have h3 : decide (i < (v.items.length : Int)) = false := by simp; omega
    rw [ref14_Get_L1, joinK_eq, h3, rget_none v key k2 ks (i + 1) (by omega)]
    simp
theorem rget_loop (v : ApiValue) (key : List UInt8) (k2 : Unit → Option (ApiValue × Bool)) (h5 : k2 () = some (zeroV, false)) : ∀ (ks : List (List UInt8)) (xs xpre : List ApiValue), v.items = xpre ++ xs →
    ref14_Get_L1 N v key k2 ks (xpre.length : Int) = some (getL ks xs key)
  | [], xs, xpre, hx => by
    rw [ref14_Get_L1]; simp [h5, getL]
  | x :: ks, [], xpre, hx => by
    have e : getL (x :: ks) [] key = (zeroV, false) := by simp [getL]
    rw [rget_none v key k2 _ _ (by rw [hx]; simp), h5, e]
  | x :: ks, y :: ys, xpre, hx => by
    have ih := rget_loop v key k2 h5 ks ys (xpre ++ [y]) (by rw [hx]; simp)
    rw [ref14_Get_L1, joinK_eq, lt_at hx, idx_at hx, Option.bind_some, len_snoc xpre y, ih, getL]
    cases x == key <;> simp
theorem rget_eq (v : ApiValue) (key : List UInt8) (hb : v.keys.length ≤ 900000) : ref14_Get N v key = some (getJ v key) := by
  unfold ref14_Get getJ
  cases h : (v.kind == 7)
  · have : (v.kind != 7) = true := by simp only [bne, h, Bool.not_false]
    rw [if_pos this]; rfl
  · have : (v.kind != 7) = false := by simp only [bne, h, Bool.not_true]
    rw [this, if_neg (by simp), joinK_eq, grdS (by omega)]
    exact rget_loop (N := N) v key (fun _ => some (zeroV, false)) rfl v.keys v.items [] rfl
theorem mk_eta (x : ApiValue) : ApiValue.mk x.kind x.text x.keys x.items = x := by cases x; rfl
def rR (d : JrdDecoder) : Ref16Reader := ⟨d.e⟩
theorem stop_eq (d : JrdDecoder) (x : Int) : ref16_reader_stop N (rR d) x = some (rR (failD d x)) := by
  unfold ref16_reader_stop failD rR; split <;> rfl
theorem rtext_eq (d : JrdDecoder) (v : ApiValue) (key : List UInt8) (must : Bool) (hv : okV v) : ref16_reader_text N (rR d) v key must = some ((textR must (getJ v key) d).1, rR (textR must (getJ v key) d).2) := by
  unfold ref16_reader_text textR
  rw [rget_eq v key hv.keys, Option.bind_some]
  simp only [joinK_eq, stop_eq, Option.bind_some]
  cases (getJ v key).2 <;> cases ((getJ v key).1.kind != 5) <;> cases must <;> rfl
theorem ritems_eq (d : JrdDecoder) (v : ApiValue) (key : List UInt8) (kind : Int) (hv : okV v) : ref16_reader_items N (rR d) v key kind 64 = some ((itemsR (getJ v key) kind d).1, rR (itemsR (getJ v key) kind d).2) := by
  unfold ref16_reader_items itemsR
  rw [rget_eq v key hv.keys, Option.bind_some]
  simp only [joinK_eq, stop_eq, Option.bind_some]
  generalize getJ v key = g
  cases g.2
  · rfl
  · simp only [if_true]
    cases g.1.kind != kind
    · simp only [Bool.false_eq_true, if_false]
      cases h7 : (kind == 7)
      · have hc : cutR kind g.1 = g.1 := by simp [cutR, h7]
        simp only [Bool.false_eq_true, if_false, hc]
        have e : decide ((g.1.items.length : Int) > 64) = decide (64 < g.1.items.length) := by rw [decide_eq_decide]; omega
        rw [e, mk_eta]
        simp only [decide_eq_true_eq]
        split <;> rfl
      · have hc : cutR kind g.1 = ApiValue.mk g.1.kind g.1.text (g.1.keys.take (min g.1.keys.length g.1.items.length)) (g.1.items.take (min g.1.keys.length g.1.items.length)) := by simp [cutR, h7]
        have hm : (if (g.1.items.length : Int) < (g.1.keys.length : Int) then (g.1.items.length : Int) else (g.1.keys.length : Int)) = ((min g.1.keys.length g.1.items.length : Nat) : Int) := by split <;> omega
        simp only [if_true, hm, show (0 : Int) = ((0 : Nat) : Int) from rfl, sub_nat _ 0 (min g.1.keys.length g.1.items.length) (Nat.zero_le _) (Nat.min_le_left _ _), sub_nat _ 0 (min g.1.keys.length g.1.items.length) (Nat.zero_le _) (Nat.min_le_right _ _), Option.bind_some, List.drop_zero, Nat.sub_zero, hc]
        have e : decide (((g.1.items.take (min g.1.keys.length g.1.items.length)).length : Int) > 64) = decide (64 < (g.1.items.take (min g.1.keys.length g.1.items.length)).length) := by rw [decide_eq_decide]; omega
        rw [e]
        simp only [decide_eq_true_eq]
        split <;> rfl
    · simp only [if_true]; rfl
theorem itemsR_len (g : ApiValue × Bool) (kind : Int) (d : JrdDecoder) : (itemsR g kind d).1.items.length ≤ 64 := by
  unfold itemsR
  split
  · split
    · simp [zeroV]
    · split
      · simp [zeroV]
      · dsimp only; omega
  · simp [zeroV]
theorem cut_ok {x : ApiValue} (h : okV x) (kind : Int) : okV (cutR kind x) := by
  unfold cutR
  split
  · refine .mk _ ?_ ?_ fun y hy => h.sub y (List.mem_of_mem_take hy)
    · have := h.keys; simp; omega
    · have := h.items; simp; omega
  · exact h
theorem itemsR_ok {g : ApiValue × Bool} (h : okV g.1) (kind : Int) (d : JrdDecoder) : okV (itemsR g kind d).1 := by
  unfold itemsR
  split
  · split
    · exact okV_zero
    · split
      · exact okV_zero
      · exact cut_ok h kind
  · exact okV_zero
theorem itemsR_keys (g : ApiValue × Bool) (d : JrdDecoder) : (itemsR g 7 d).1.items.length ≤ (itemsR g 7 d).1.keys.length := by
  unfold itemsR
  split
  · split
    · simp [zeroV]
    · split
      · simp [zeroV]
      · simp [cutR]
  · simp [zeroV]
theorem rtexts_loop (k2 : List (List UInt8) × Ref16Reader → Option (List (List UInt8) × Ref16Reader)) : ∀ (xs : List ApiValue) (out : List (List UInt8)) (d : JrdDecoder), out.length + xs.length ≤ 1000 → ref16_reader_texts_L1 N k2 xs out (rR d) = k2 (out ++ (textsR xs d).1, rR (textsR xs d).2)
  | [], out, d, _ => by rw [ref16_reader_texts_L1]; simp [textsR]
  | x :: xs, out, d, hb => by
    simp only [List.length_cons] at hb
    have ih := fun d' => rtexts_loop k2 xs (out ++ [x.text]) d' (by simp; omega)
    rw [ref16_reader_texts_L1, textsR]
    simp only [joinK_eq, stop_eq, Option.bind_some, grdA (show out.length + 1 ≤ 1000000 by omega) (show (16 : Nat) ≤ 100000 by omega)]
    cases x.kind != 5
    · simp only [Bool.false_eq_true, if_false, ih]; simp
    · simp only [if_true, ih]; simp
theorem rtexts_eq (d : JrdDecoder) (v : ApiValue) (key : List UInt8) (hv : okV v) : ref16_reader_texts N (rR d) v key = some (((sbind (itemsR (getJ v key) 6) fun m => textsR m.items) d).1, rR ((sbind (itemsR (getJ v key) 6) fun m => textsR m.items) d).2) := by
  have hl := itemsR_len (getJ v key) 6 d
  unfold ref16_reader_texts
  rw [joinK_eq, ritems_eq d v key 6 hv, Option.bind_some, grdS (by simp only []; omega), rtexts_loop _ _ _ _ (by simp; omega)]
  rfl
theorem rprops_loop (null : Bool) (y1 : ApiValue × Ref16Reader) (k4 : List ApiProperty × Ref16Reader → Option (List ApiProperty × Ref16Reader)) : ∀ (xs : List ApiValue) (ks pre : List (List UInt8)) (out : List ApiProperty) (d : JrdDecoder), y1.1.keys = pre ++ ks → xs.length ≤ ks.length → out.length + xs.length ≤ 1000 →
    ref16_reader_properties_L1 N null y1 k4 xs (pre.length : Int) out (rR d) = k4 (out ++ (propsRL null ks xs d).1, rR (propsRL null ks xs d).2)
  | [], ks, pre, out, d, _, _, _ => by
    rw [ref16_reader_properties_L1]
    cases ks <;> simp [propsRL]
  | x :: xs, [], pre, out, d, _, h, _ => by simp at h
  | x :: xs, y :: ks, pre, out, d, hl, hx, hb => by
    simp only [List.length_cons] at hx hb
    have ih := fun p : ApiProperty => fun d' => rprops_loop null y1 k4 xs ks (pre ++ [y]) (out ++ [p]) d' (by rw [hl]; simp) (by omega) (by simp; omega)
    rw [ref16_reader_properties_L1]
    simp only [joinK_eq, stop_eq, Option.bind_some, idx_at hl, len_snoc pre y, grdA (show out.length + 1 ≤ 1000000 by omega) (show (40 : Nat) ≤ 100000 by omega), ih]
    rw [propsRL]
    simp only [propR]
    cases h5 : (x.kind != 5)
    · cases h1 : (x.kind == 1) <;> simp
    · cases h1 : (x.kind == 1)
      · have h1' : (x.kind != 1) = true := by simp only [bne, h1, Bool.not_false]
        simp [h1']
      · have h1' : (x.kind != 1) = false := by simp only [bne, h1, Bool.not_true]
        cases null <;> simp [h1']
theorem rprops_eq (d : JrdDecoder) (v : ApiValue) (key : List UInt8) (null : Bool) (hv : okV v) : ref16_reader_properties N (rR d) v key null = some ((propsR (getJ v key) null d).1, rR (propsR (getJ v key) null d).2) := by
  have hl := itemsR_len (getJ v key) 7 d
  have hk := itemsR_keys (getJ v key) d
  unfold ref16_reader_properties
  rw [ritems_eq d v key 7 hv, Option.bind_some, joinK_eq, grdS (by simp only []; omega)]
  have := rprops_loop (N := N) null ((itemsR (getJ v key) 7 d).1, rR (itemsR (getJ v key) 7 d).2) (fun j3 => some (j3.1, j3.2)) (itemsR (getJ v key) 7 d).1.items (itemsR (getJ v key) 7 d).1.keys [] [] (itemsR (getJ v key) 7 d).2 rfl hk (by simp; omega)
  simp only [List.length_nil, Int.ofNat_zero, List.nil_append] at this
  exact this
theorem rlinks_loop (k13 : List ApiLink × Ref16Reader → Option (ApiJRD × Int)) : ∀ (xs : List ApiValue) (out : List ApiLink) (d : JrdDecoder), out.length + xs.length ≤ 1000 → (∀ x, x ∈ xs → okV x) →
    ref16_Decode_L1 N k13 xs out (rR d) = k13 (out ++ (linksR xs d).1, rR (linksR xs d).2)
  | [], out, d, _, _ => by rw [ref16_Decode_L1]; simp [linksR]
  | x :: xs, out, d, hb, hw => by
    simp only [List.length_cons] at hb
    have ih := fun o d' h => rlinks_loop k13 xs o d' h (fun y hy => hw y (by simp [hy]))
    have hx := hw x (by simp)
    rw [ref16_Decode_L1]
    simp only [joinK_eq, stop_eq, rtext_eq _ x _ _ hx, rprops_eq _ x _ _ hx, Option.bind_some, grdA (show out.length + 1 ≤ 1000000 by omega) (show (112 : Nat) ≤ 100000 by omega)]
    rw [linksR]
    cases h7 : (x.kind != 7)
    · simp only [Bool.false_eq_true, if_false]
      refine (ih _ _ (by simp; omega)).trans ?_
      simp only [List.append_assoc, List.singleton_append]
      rfl
    · simp only [if_true]
      exact ih _ _ (by omega)
theorem rdec_eq (v : ApiValue) (hv : okV v) : ref16_Decode N v = some (decJ v) := by
  rw [← dec_same]
  unfold ref16_Decode decR
  split
  · rfl
  · rw [show Ref16Reader.mk 0 = rR ⟨0⟩ from rfl]
    simp only [joinK_eq, rtext_eq _ v _ _ hv, rtexts_eq _ v _ hv, rprops_eq _ v _ _ hv, ritems_eq _ v _ _ hv, Option.bind_some]
    rw [grdS (by exact Nat.le_trans (itemsR_len ..) (by omega)), rlinks_loop _ _ _ _ (by simpa using Nat.le_trans (itemsR_len ..) (by omega)) (fun x hx => (itemsR_ok (okV_get hv _) _ _).sub x hx)]
    simp only [kSubj, kAli, kProps, kLinks, List.nil_append]
    exact (apply_ite some ..).symm
end
end Go.VM
