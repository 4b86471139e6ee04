import Derived.Test.YtbmilkoebhmnnaaGreatDoorL4
import Derived.Test.YtbmilkoebhmnnaaGreatDoorRd
set_option linter.unusedVariables false
set_option linter.unusedSimpArgs false
namespace Go.VM
mutual
def EU : ApiValue → ApiValue
  | ⟨kind, text, keys, items⟩ => if kind == 6 then ⟨kind, text, [], NE items⟩ else ⟨kind, text, Iq keys, (Iq keys).map fun k => (JM keys (NE items) k).1⟩
def NE : List ApiValue → List ApiValue
  | [] => []
  | x :: xs => EU x :: NE xs
end
theorem K9 : ∀ xs : List ApiValue, NE xs = xs.map EU
  | [] => rfl
  | x :: xs => by rw [NE, K9 xs]; rfl
mutual
def wrV : ApiValue → List UInt8
  | ⟨kind, text, keys, items⟩ =>
    if kind == 1 then [110, 117, 108, 108] else if kind == 2 then [102, 97, 108, 115, 101] else if kind == 3 then [116, 114, 117, 101] else if kind == 4 then text
    else if kind == 5 then CE text else if kind == 7 then 123 :: (wrM true keys items ++ [125]) else 91 :: (wrI true items ++ [93])
def wrI : Bool → List ApiValue → List UInt8
  | _, [] => []
  | b, x :: xs => (if b then [] else [44]) ++ (wrV x ++ wrI false xs)
def wrM : Bool → List (List UInt8) → List ApiValue → List UInt8
  | b, k :: ks, x :: xs => (if b then [] else [44]) ++ (CE k ++ (58 :: (wrV x ++ wrM false ks xs)))
  | _, _, _ => []
end
theorem NP {N : Nat} : ∀ {xs : List ApiValue}, Ki N xs = true → ∀ x, x ∈ xs → Ed N x = true
  | [], _, x, hx => by cases hx
  | y :: xs, h, x, hx => by
    rw [Ki, Bool.and_eq_true] at h
    rcases List.mem_cons.1 hx with rfl | hx
    · exact h.1
    · exact NP h.2 x hx
theorem Qy {N : Nat} : ∀ {xs : List ApiValue}, (∀ x, x ∈ xs → Ed N x = true) → Ki N xs = true
  | [], _ => rfl
  | y :: xs, h => by rw [Ki, h y (by simp), Qy fun x hx => h x (by simp [hx])]; rfl
inductive Shp (N : Nat) : ApiValue → Prop
  | word (k : Int) (hk : k = 1 ∨ k = 2 ∨ k = 3) : Shp N ⟨k, [], [], []⟩
  | num (s : List UInt8) (h : Y7 N s = true) : Shp N ⟨4, s, [], []⟩
  | str (s : List UInt8) (h : (Dc N s).isSome = true) : Shp N ⟨5, s, [], []⟩
  | arr (xs : List ApiValue) (h : ∀ x, x ∈ xs → Ed N x = true) : Shp N ⟨6, [], [], xs⟩
  | obj (ks : List (List UInt8)) (xs : List ApiValue) (hl : ks.length = xs.length) (hd : Jh N ks = true) (h : ∀ x, x ∈ xs → Ed N x = true) : Shp N ⟨7, [], ks, xs⟩
theorem ME {N : Nat} {v : ApiValue} (h : Ed N v = true) : Shp N v := by
  obtain ⟨kind, text, keys, items⟩ := v
  rw [Ed] at h
  by_cases h1 : (kind == 1 || kind == 2 || kind == 3) = true
  · rw [if_pos h1] at h
    simp only [Bool.and_eq_true, beq_iff_eq, List.isEmpty_iff] at h
    obtain ⟨⟨rfl, rfl⟩, rfl⟩ := h
    simp only [Bool.or_eq_true, beq_iff_eq] at h1
    exact .word _ (by omega)
  rw [if_neg h1] at h
  by_cases h4 : (kind == 4) = true
  · rw [if_pos h4] at h
    simp only [Bool.and_eq_true, List.isEmpty_iff] at h
    obtain ⟨⟨hn, rfl⟩, rfl⟩ := h
    rw [beq_iff_eq] at h4; subst h4
    exact .num _ hn
  rw [if_neg h4] at h
  by_cases h5 : (kind == 5) = true
  · rw [if_pos h5] at h
    simp only [Bool.and_eq_true, List.isEmpty_iff] at h
    obtain ⟨⟨hn, rfl⟩, rfl⟩ := h
    rw [beq_iff_eq] at h5; subst h5
    exact .str _ hn
  rw [if_neg h5] at h
  by_cases h6 : (kind == 6) = true
  · rw [if_pos h6] at h
    simp only [Bool.and_eq_true, beq_iff_eq, List.isEmpty_iff] at h
    obtain ⟨⟨rfl, rfl⟩, hs⟩ := h
    rw [beq_iff_eq] at h6; subst h6
    exact .arr _ (NP hs)
  rw [if_neg h6] at h
  by_cases h7 : (kind == 7) = true
  · rw [if_pos h7] at h
    simp only [Bool.and_eq_true, beq_iff_eq, decide_eq_true_eq] at h
    obtain ⟨⟨⟨rfl, hl⟩, hd⟩, hs⟩ := h
    rw [beq_iff_eq] at h7; subst h7
    exact .obj _ _ hl hd (NP hs)
  rw [if_neg h7] at h; cases h
theorem Shp.b {N : Nat} {v : ApiValue} (h : Shp N v) : Ed N v = true := by
  cases h with
  | word k hk => rcases hk with rfl | rfl | rfl <;> rfl
  | num s h => simp [Ed, h]
  | str s h => simp [Ed, h]
  | arr xs h => simp [Ed, Qy h]
  | obj ks xs hl hd h => simp [Ed, Qy h, hl, hd]
theorem YX (f : ApiValue → ApiValue) : ∀ (ks : List (List UInt8)) (xs : List ApiValue) (k : List UInt8), ks.length = xs.length → k ∈ ks → ∃ x, x ∈ xs ∧ JM ks xs k = (x, true) ∧ JM ks (xs.map f) k = (f x, true)
  | [], [], k, _, h => by cases h
  | a :: ks, x :: xs, k, hl, h => by
    by_cases e : a = k
    · exact ⟨x, by simp, by simp [JM, e], by simp [JM, e]⟩
    · rcases List.mem_cons.1 h with h | h
      · exact absurd h.symm e
      · obtain ⟨y, h1, h2, h3⟩ := YX f ks xs k (by simpa using hl) h
        exact ⟨y, by simp [h1], by simp [JM, e, h2], by simp [JM, e, h3]⟩
section
variable {N : Nat}
theorem Ha : Iq [] = [] := by simp [Iq]
theorem AGx {n : Nat} (h : n ≤ 1000000000) : Bz n 72 := by unfold Bz; omega
theorem Ou (rc : ApiValue → Option ApiValue) (k2 : List ApiValue → Option ApiValue) : ∀ (xs out : List ApiValue), out.length + xs.length ≤ 1000000 → (∀ x, x ∈ xs → rc x = some (EU x)) → Ci N rc k2 xs out = k2 (out ++ NE xs)
  | [], out, _, _ => by rw [Ci, NE, List.append_nil]
  | x :: xs, out, hb, hr => by
    simp only [List.length_cons] at hb
    rw [Ci]
    simp only [AO]
    rw [hr x (by simp), Option.bind_some, AL (AGx (by omega)), Ou rc k2 xs _ (by simp; omega) fun y hy => hr y (by simp [hy]), NE]
    simp
theorem Oa (v : ApiValue) (hk7 : v.kind = 7) (hkl : v.keys.length ≤ 1000000) (rc : ApiValue → Option ApiValue) (k13 : List (List UInt8) × List ApiValue → Option ApiValue) (hl : v.keys.length = v.items.length) : ∀ (ks ok : List (List UInt8)) (out : List ApiValue), ok.length + ks.length ≤ 1000000 → ok.length = out.length → (∀ k, k ∈ ks → k ∈ v.keys) → (∀ x, x ∈ v.items → rc x = some (EU x)) →
    Bg N v rc k13 ks ok out = k13 (ok ++ ks, out ++ ks.map fun k => (JM v.keys (NE v.items) k).1)
  | [], ok, out, _, _, _, _ => by rw [Bg]; simp
  | k :: ks, ok, out, hb, ho, hm, hr => by
    simp only [List.length_cons] at hb
    obtain ⟨x, h1, h2, h3⟩ := YX EU v.keys v.items k hl (hm k (by simp))
    have hg : AIh v k = (x, true) := by unfold AIh; rw [if_pos (by simp [hk7]), h2]
    rw [Bg]
    simp only [AO]
    rw [AHy v k (by omega), Option.bind_some, hg, AL (MK (by omega)), hr x h1, Option.bind_some, AL (AGx (by omega))]
    rw [Oa v hk7 hkl rc k13 hl ks _ _ (by simp; omega) (by simp [ho]) (fun y hy => hm y (by simp [hy])) hr]
    simp [K9, h3]
theorem QZ (hN : 2000 ≤ N) : ∀ (D e : Nat) (v : ApiValue), okW e v → e ≤ D → Ed N v = true → CJ N D v = some (EU v)
  | 0, e, v, h, he, _ => by have := h.pos; omega
  | D + 1, e, v, h, he, hs => by
    obtain ⟨e, rfl⟩ : ∃ k, e = k + 1 := ⟨e - 1, by have := h.pos; omega⟩
    have hi := h.items; have hk := h.keys; have hsub := h.sub
    rw [CJ]
    cases ME hs with
    | word k hkw =>
      have h6 : (k == 6) = false := by rcases hkw with rfl | rfl | rfl <;> rfl
      simp only [h6, Bool.false_eq_true, if_false, AO]
      rw [JU [] (by simp) (by simp; omega), Ha, Option.bind_some, Jg (by simp), Bg, EU, h6, Ha]; rfl
    | num s _ =>
      simp only [AO]
      rw [if_neg (by decide), JU [] (by simp) (by simp; omega), Ha, Option.bind_some, Jg (by simp), Bg, EU, Ha]; rfl
    | str s _ =>
      simp only [AO]
      rw [if_neg (by decide), JU [] (by simp) (by simp; omega), Ha, Option.bind_some, Jg (by simp), Bg, EU, Ha]; rfl
    | arr xs hx =>
      simp only [AO] at hi hsub ⊢
      rw [if_pos (show ((6 : Int) == 6) = true from rfl), Jg (by omega), Ou _ _ xs [] (by simp; omega) fun x hm => QZ hN D e x (hsub x hm) (by omega) (hx x hm)]
      rfl
    | obj ks xs hl hd hx =>
      simp only [AO] at hi hk hsub ⊢
      have hp := Iu ks
      rw [if_neg (by decide), JU ks (by omega) (by omega), Option.bind_some, Jg (by rw [hp.length_eq]; omega)]
      rw [Oa ⟨7, [], ks, xs⟩ rfl (by simp only []; omega) _ _ hl (Iq ks) [] [] (by rw [hp.length_eq]; simp; omega) rfl (fun k hk => hp.mem_iff.1 hk) fun x hm => QZ hN D e x (hsub x hm) (by omega) (hx x hm)]
      rfl
theorem SG {s : List UInt8} (hs : s.length ≤ 1048576) (h : (Dc N s).isSome = true) : Um N s = (CE s, 0) := by
  unfold Um; rw [if_neg (by omega), if_pos h]
theorem Jr (s : List UInt8) : (CE s).length ≤ 6 * s.length + 2 := by
  unfold CE
  have := q_len s
  simp only [List.length_cons, List.length_append, List.length_nil]; omega
theorem Nq {n : Nat} (h : n ≤ 1000000000) : Bz n 1 := by unfold Bz; omega
theorem OQ (a : ApiValue) (h7 : (a.kind == 7) = false) (rc : ApiValue → Option (List UInt8)) (k4 : List Int → Option (List UInt8)) : ∀ (xs : List ApiValue) (b : Bool) (n : Nat) (out : List UInt8), (b = true ↔ n = 0) → n ≤ 1000000 → n + xs.length ≤ 1000000 → out.length + (wrI b xs).length ≤ 1000000000 → (∀ x, x ∈ xs → rc x = some (wrV x)) →
    BK N a rc k4 xs (n : Int) (out.map AP) = k4 ((out ++ wrI b xs).map AP)
  | [], b, n, out, _, _, _, _, _ => by rw [BK, wrI, List.append_nil]
  | x :: xs, b, n, out, hb, hn, hx, hl, hr => by
    simp only [List.length_cons] at hx
    rw [wrI] at hl
    simp only [List.length_append] at hl
    rw [BK]
    simp only [AO, h7, Bool.false_eq_true, if_false]
    have step : ∀ o : List UInt8, o.length + (wrV x).length + (wrI false xs).length ≤ 1000000000 → (Option.bind (rc x) fun y19 => grd (Bz ((o.map AP).length + y19.length) 1) (BK N a rc k4 xs ((n : Int) + 1) (o.map AP ++ List.map AP y19))) = k4 ((o ++ (wrV x ++ wrI false xs)).map AP) := by
      intro o ho
      rw [hr x (by simp), Option.bind_some, AL (Nq (by rw [List.length_map]; omega)), ← List.map_append, show (n : Int) + 1 = ((n + 1 : Nat) : Int) by simp]
      rw [OQ a h7 rc k4 xs false (n + 1) (o ++ wrV x) (by simp) (by omega) (by omega) (by simp; omega) fun y hy => hr y (by simp [hy])]
      simp
    rw [wrI]
    cases b
    · have hn0 : n ≠ 0 := fun e => by have := hb.2 e; cases this
      simp only [Bool.false_eq_true, if_false, List.length_cons, List.length_nil] at hl
      rw [if_pos (by simp; omega), AL (Nq (by rw [List.length_map]; omega))]
      have e : (out.map AP ++ [44] : List Int) = (out ++ [44]).map AP := by simp [AP]
      rw [e, step (out ++ [44]) (by simp; omega)]
      simp
    · have hn0 : n = 0 := hb.1 rfl
      subst hn0
      simp only [if_true, List.length_nil] at hl
      rw [if_neg (by simp), step out (by omega)]
      simp
theorem Ov (a : ApiValue) (h7 : (a.kind == 7) = true) (rc : ApiValue → Option (List UInt8)) (k4 : List Int → Option (List UInt8)) (hN : 2000 ≤ N) : ∀ (xs : List ApiValue) (pre ks : List (List UInt8)) (b : Bool) (out : List UInt8), a.keys = pre ++ ks → ks.length = xs.length → (b = true ↔ pre.length = 0) → pre.length + xs.length ≤ 1000000 → out.length + (wrM b ks xs).length ≤ 1000000000 → (∀ k, k ∈ ks → (Dc N k).isSome = true ∧ k.length ≤ 1000) → (∀ x, x ∈ xs → rc x = some (wrV x)) →
    BK N a rc k4 xs (pre.length : Int) (out.map AP) = k4 ((out ++ wrM b ks xs).map AP)
  | [], pre, ks, b, out, _, hl, _, _, _, _, _ => by
    have : ks = [] := List.length_eq_zero_iff.1 (by simpa using hl)
    subst this
    rw [BK, wrM, List.append_nil]
    intros; simp_all
  | x :: xs, pre, [], b, out, _, hl, _, _, _, _, _ => by simp at hl
  | x :: xs, pre, k :: ks, b, out, hk, hkl, hb, hx, hl, hq, hr => by
    simp only [List.length_cons] at hx hkl
    obtain ⟨hq1, hq2⟩ := hq k (by simp)
    have hql := Jr k
    rw [wrM] at hl
    simp only [List.length_append, List.length_cons] at hl
    rw [BK]
    simp only [AO, h7, if_true]
    have step : ∀ o : List UInt8, o.length + (CE k).length + 1 + (wrV x).length + (wrM false ks xs).length ≤ 1000000000 → (Option.bind (idx a.keys (pre.length : Int)) fun x16 => Option.bind (FZ N x16) fun y17 => grd (Bz ((o.map AP).length + y17.1.length) 1) (grd (Bz ((o.map AP ++ List.map AP y17.1).length + 1) 1)
      (Option.bind (rc x) fun y19 => grd (Bz (((o.map AP ++ List.map AP y17.1) ++ [58]).length + y19.length) 1) (BK N a rc k4 xs ((pre.length : Int) + 1) (((o.map AP ++ List.map AP y17.1) ++ [58]) ++ List.map AP y19))))) = k4 ((o ++ (CE k ++ (58 :: (wrV x ++ wrM false ks xs)))).map AP) := by
      intro o ho
      rw [hk, TL, Option.bind_some, SA k (.inl (by omega)), Option.bind_some, SG (by omega) hq1]
      dsimp only
      rw [AL (Nq (by rw [List.length_map]; omega)), AL (Nq (by simp only [List.length_append, List.length_map]; omega)), hr x (by simp), Option.bind_some, AL (Nq (by simp only [List.length_append, List.length_map, List.length_cons, List.length_nil]; omega))]
      have e : (((o.map AP ++ List.map AP (CE k)) ++ [58]) ++ List.map AP (wrV x) : List Int) = (o ++ CE k ++ [58] ++ wrV x).map AP := by simp [AP]
      rw [e, NM pre k, Ov a h7 rc k4 hN xs (pre ++ [k]) ks false _ (by rw [hk]; simp) (by simpa using hkl) (by simp) (by simp; omega) (by simp; omega) (fun y hy => hq y (by simp [hy])) (fun y hy => hr y (by simp [hy]))]
      simp
    rw [wrM]
    cases b
    · have hn0 : pre.length ≠ 0 := fun e => by have := hb.2 e; cases this
      simp only [Bool.false_eq_true, if_false, List.length_cons, List.length_nil] at hl
      rw [if_pos (by simp only [decide_eq_true_eq]; omega), AL (Nq (by rw [List.length_map]; omega))]
      have e : (out.map AP ++ [44] : List Int) = (out ++ [44]).map AP := by simp [AP]
      rw [e, step (out ++ [44]) (by simp; omega)]
      simp
    · have hn0 : pre.length = 0 := hb.1 rfl
      simp only [if_true, List.length_nil] at hl
      rw [if_neg (by simp only [decide_eq_true_eq]; omega), step out (by omega)]
      simp
theorem L8 : ∀ (e : Nat) (v : ApiValue), okW e v → Ed N v = true → (wrV v).length + 1850 ≤ 3700 * Dk v
  | 0, v, h, _ => by have := h.pos; omega
  | e + 1, v, h, hs => by
    have ht := h.text; have hsub := h.sub; have hkl := h.klen
    rw [Gp]
    cases ME hs with
    | word k hkw => rcases hkw with rfl | rfl | rfl <;> (simp only [wrV]; decide +revert) <;> simp [wrV, Be]
    | num s _ => simp only at ht; simp [wrV, Be]; omega
    | str s _ =>
      simp only at ht
      have := Jr s
      simp [wrV, Be]; omega
    | arr xs hx =>
      simp only at hsub
      have key : ∀ (b : Bool) (ys : List ApiValue), (∀ y, y ∈ ys → okW e y ∧ Ed N y = true) → (wrI b ys).length ≤ 3700 * Be ys := by
        intro b ys
        induction ys generalizing b with
        | nil => intro _; simp [wrI]
        | cons y ys ih =>
          intro hy
          have h1 := L8 e y (hy y (by simp)).1 (hy y (by simp)).2
          have h2 := ih false fun z hz => hy z (by simp [hz])
          rw [wrI, Be]
          simp only [List.length_append]
          have : (if b = true then ([] : List UInt8) else [44]).length ≤ 1 := by cases b <;> simp
          omega
      have := key true xs fun y hy => ⟨hsub y hy, hx y hy⟩
      simp [wrV]; omega
    | obj ks xs hl hd hx =>
      simp only at hsub hkl
      have key : ∀ (b : Bool) (ks : List (List UInt8)) (ys : List ApiValue), (∀ k, k ∈ ks → k.length ≤ 300) → (∀ y, y ∈ ys → okW e y ∧ Ed N y = true) → (wrM b ks ys).length ≤ 3700 * Be ys := by
        intro b ks ys
        induction ys generalizing b ks with
        | nil => intro _ _; cases ks <;> simp [wrM]
        | cons y ys ih =>
          intro hk hy
          cases ks with
          | nil => simp [wrM]
          | cons k ks =>
            have h1 := L8 e y (hy y (by simp)).1 (hy y (by simp)).2
            have h2 := ih false ks (fun z hz => hk z (by simp [hz])) fun z hz => hy z (by simp [hz])
            have h3 := Jr k
            have h4 := hk k (by simp)
            rw [wrM, Be]
            simp only [List.length_append, List.length_cons]
            have : (if b = true then ([] : List UInt8) else [44]).length ≤ 1 := by cases b <;> simp
            omega
      have := key true ks xs hkl fun y hy => ⟨hsub y hy, hx y hy⟩
      simp [wrV]; omega
theorem AHE {e : Nat} {xs : List ApiValue} (b : Bool) (h : ∀ y, y ∈ xs → okW e y ∧ Ed N y = true) : (wrI b xs).length ≤ 3700 * Be xs := by
  induction xs generalizing b with
  | nil => simp [wrI]
  | cons y ys ih =>
    have h1 := L8 (N := N) e y (h y (by simp)).1 (h y (by simp)).2
    have h2 := ih false fun z hz => h z (by simp [hz])
    rw [wrI, Be]
    simp only [List.length_append]
    have : (if b = true then ([] : List UInt8) else [44]).length ≤ 1 := by cases b <;> simp
    omega
theorem AIa {e : Nat} {xs : List ApiValue} {ks : List (List UInt8)} (b : Bool) (hk : ∀ k, k ∈ ks → k.length ≤ 300) (h : ∀ y, y ∈ xs → okW e y ∧ Ed N y = true) : (wrM b ks xs).length ≤ 3700 * Be xs := by
  induction xs generalizing b ks with
  | nil => cases ks <;> simp [wrM]
  | cons y ys ih =>
    cases ks with
    | nil => simp [wrM]
    | cons k ks =>
      have h1 := L8 (N := N) e y (h y (by simp)).1 (h y (by simp)).2
      have h2 := ih (ks := ks) false (fun z hz => hk z (by simp [hz])) fun z hz => h z (by simp [hz])
      have h3 := Jr k
      have h4 := hk k (by simp)
      rw [wrM, Be]
      simp only [List.length_append, List.length_cons]
      have : (if b = true then ([] : List UInt8) else [44]).length ≤ 1 := by cases b <;> simp
      omega
theorem Qv (hN : 2000 ≤ N) : ∀ (D e : Nat) (v : ApiValue), okW e v → e ≤ D → Dk v ≤ 20000 → Ed N v = true → Cs N D v = some (wrV v)
  | 0, e, v, h, he, _, _ => by have := h.pos; omega
  | D + 1, e, v, h, he, hc, hs => by
    obtain ⟨e, rfl⟩ : ∃ k, e = k + 1 := ⟨e - 1, by have := h.pos; omega⟩
    have ht := h.text; have hi := h.items; have hkl := h.klen; have hsub := h.sub
    rw [Gp] at hc
    rw [Cs]
    cases ME hs with
    | word k hkw => rcases hkw with rfl | rfl | rfl <;> rfl
    | num s _ => rfl
    | str s hv =>
      simp only at ht
      rw [if_neg (by simp), if_neg (by simp), if_neg (by simp), if_neg (by simp), if_pos (by rfl), SA s (.inl (by omega)), Option.bind_some, SG (by omega) hv]
      rfl
    | arr xs hx =>
      simp only at hi hsub hc
      have hw := AHE (N := N) true fun y hy => ⟨hsub y hy, hx y hy⟩
      have := OQ (N := N) ⟨6, [], [], xs⟩ rfl (Cs N D) (fun j3 => grd (Ab (([91] : List UInt8).length + (List.map EW j3).length)) (grd (Ab ((([91] : List UInt8) ++ (List.map EW j3)).length + ([93] : List UInt8).length)) (some ((([91] : List UInt8) ++ (List.map EW j3)) ++ ([93] : List UInt8))))) xs true 0 [] (by simp) (by omega) (by omega) (by simp; omega) fun x hm => Qv hN D e x (hsub x hm) (by omega) (by have := PT hm; omega) (hx x hm)
      rw [if_neg (by simp), if_neg (by simp), if_neg (by simp), if_neg (by simp), if_neg (by simp)]
      simp only [AO]
      rw [Jg (by omega)]
      refine Eq.trans this ?_
      rw [Jg (by rw [Ff]; simp; omega), Jg (by rw [Ff]; simp; omega), Ff]
      simp [wrV]
    | obj ks xs hl hd hx =>
      simp only at hi hsub hc hkl
      have hw := AIa (N := N) true hkl fun y hy => ⟨hsub y hy, hx y hy⟩
      have hall : ∀ k, k ∈ ks → (Dc N k).isSome = true := by
        unfold Jh at hd
        rw [Bool.and_eq_true, List.all_eq_true] at hd
        exact hd.2
      have := Ov (N := N) ⟨7, [], ks, xs⟩ rfl (Cs N D) (fun j3 => grd (Ab (([123] : List UInt8).length + (List.map EW j3).length)) (grd (Ab ((([123] : List UInt8) ++ (List.map EW j3)).length + ([125] : List UInt8).length)) (some ((([123] : List UInt8) ++ (List.map EW j3)) ++ ([125] : List UInt8))))) hN xs [] ks true [] rfl hl (by simp) (by simp; omega) (by simp; omega) (fun k hk => ⟨hall k hk, by have := hkl k hk; omega⟩) fun x hm => Qv hN D e x (hsub x hm) (by omega) (by have := PT hm; omega) (hx x hm)
      rw [if_neg (by simp), if_neg (by simp), if_neg (by simp), if_neg (by simp), if_neg (by simp)]
      simp only [AO]
      rw [Jg (by omega)]
      refine Eq.trans this ?_
      rw [Jg (by rw [Ff]; simp; omega), Jg (by rw [Ff]; simp; omega), Ff]
      simp [wrV]
end
end Go.VM
namespace Go.VM
theorem Sz : ∀ (ks : List (List UInt8)) (xs : List ApiValue), ks.length = xs.length → ks.Nodup → (ks.map fun k => (JM ks xs k).1) = xs
  | [], [], _, _ => rfl
  | k :: ks, x :: xs, h, hn => by
    rw [List.nodup_cons] at hn
    have ih := Sz ks xs (by simpa using h) hn.2
    rw [List.map_cons]
    congr 1
    · simp [JM]
    · conv => rhs; rw [← ih]
      apply List.map_congr_left
      intro y hy
      have : ¬ k = y := fun e => hn.1 (e ▸ hy)
      rw [JM, if_neg (by simpa using this)]
theorem ACS {ks : List (List UInt8)} {xs : List ApiValue} (h : ks.length = xs.length) (hn : ks.Nodup) : ((Iq ks).map fun k => (JM ks xs k).1).Perm xs := by
  have := (Iu ks).map fun k => (JM ks xs k).1
  rw [Sz ks xs h hn] at this
  exact this
theorem AA7 {xs ys : List ApiValue} (h : xs.Perm ys) : Be xs = Be ys := by
  induction h with
  | nil => rfl
  | cons x _ ih => rw [Be, Be, ih]
  | swap x y l => simp only [Be]; omega
  | trans _ _ h1 h2 => rw [h1, h2]
theorem Wo {xs ys : List ApiValue} (h : xs.Perm ys) : D6 xs = D6 ys := by
  induction h with
  | nil => rfl
  | cons x _ ih => rw [D6, D6, ih]
  | swap x y l => simp only [D6]; omega
  | trans _ _ h1 h2 => rw [h1, h2]
section
variable {N : Nat}
theorem AAG {l m : List (List UInt8)} (h : l.Perm m) : Jh N l = Jh N m := by
  unfold Jh
  have e1 : decide l.Nodup = decide m.Nodup := by rw [decide_eq_decide]; exact h.nodup_iff
  have e2 : (l.all fun k => (Dc N k).isSome) = m.all fun k => (Dc N k).isSome := by
    rw [Bool.eq_iff_iff, List.all_eq_true, List.all_eq_true]
    exact ⟨fun k x hx => k x (h.mem_iff.2 hx), fun k x hx => k x (h.mem_iff.1 hx)⟩
  rw [e1, e2]
theorem Oc {ks : List (List UInt8)} (h : Jh N ks = true) : ks.Nodup := by
  unfold Jh at h
  rw [Bool.and_eq_true, decide_eq_true_eq] at h
  exact h.1
theorem ADb {ks : List (List UInt8)} (h : Jh N ks = true) : ∀ k, k ∈ ks → (Dc N k).isSome = true := by
  unfold Jh at h
  rw [Bool.and_eq_true, List.all_eq_true] at h
  exact h.2
theorem AIp (xs : List ApiValue) : EU ⟨6, [], [], xs⟩ = ⟨6, [], [], xs.map EU⟩ := by rw [EU, K9]; rfl
theorem AHx (ks : List (List UInt8)) (xs : List ApiValue) : EU ⟨7, [], ks, xs⟩ = ⟨7, [], Iq ks, (Iq ks).map fun k => (JM ks (xs.map EU) k).1⟩ := by rw [EU, K9]; rfl
theorem NZ {k : Int} {s : List UInt8} (h : k ≠ 6) : EU ⟨k, s, [], []⟩ = ⟨k, s, [], []⟩ := by rw [EU, if_neg (by simpa using h), Ha]; rfl
theorem Ka : ∀ (e : Nat) (v : ApiValue), okW e v → Ed N v = true → okW e (EU v) ∧ Ed N (EU v) = true ∧ Dk (EU v) = Dk v ∧ GN (EU v) = GN v
  | 0, v, h, _ => by have := h.pos; omega
  | e + 1, v, h, hs => by
    have ht := h.text; have hsub := h.sub; have hkl := h.klen; have hk := h.keys; have hi := h.items
    cases ME hs with
    | word k hkw => rw [NZ (by omega)]; exact ⟨h, hs, rfl, rfl⟩
    | num s _ => rw [NZ (by decide)]; exact ⟨h, hs, rfl, rfl⟩
    | str s _ => rw [NZ (by decide)]; exact ⟨h, hs, rfl, rfl⟩
    | arr xs hx =>
      simp only at hsub hi
      have ih := fun x hm => Ka e x (hsub x hm) (hx x hm)
      have hc : ∀ ys : List ApiValue, (∀ y, y ∈ ys → Dk (EU y) = Dk y ∧ GN (EU y) = GN y) → Be (ys.map EU) = Be ys ∧ D6 (ys.map EU) = D6 ys := by
        intro ys
        induction ys with
        | nil => intro _; exact ⟨rfl, rfl⟩
        | cons y ys ih2 =>
          intro hy
          have h1 := hy y (by simp)
          have h2 := ih2 fun z hz => hy z (by simp [hz])
          simp only [List.map_cons, Be, D6, h1.1, h1.2, h2.1, h2.2, and_self]
      obtain ⟨c1, c2⟩ := hc xs fun y hy => ⟨(ih y hy).2.2.1, (ih y hy).2.2.2⟩
      rw [AIp]
      refine ⟨.mk _ (by simp) (by simp) (by simp) (by simpa using hi) fun x hm => ?_, ?_, ?_, ?_⟩
      · simp only [List.mem_map] at hm
        obtain ⟨y, hy, rfl⟩ := hm
        exact (ih y hy).1
      · refine (Shp.arr (xs.map EU) fun x hm => ?_).b
        simp only [List.mem_map] at hm
        obtain ⟨y, hy, rfl⟩ := hm
        exact (ih y hy).2.1
      · rw [Gp, Gp]; simp only [c1]
      · rw [JV, JV]; simp only [c2]
    | obj ks xs hl hd hx =>
      simp only at hsub hi hkl hk
      have ih := fun x hm => Ka e x (hsub x hm) (hx x hm)
      have hc : ∀ ys : List ApiValue, (∀ y, y ∈ ys → Dk (EU y) = Dk y ∧ GN (EU y) = GN y) → Be (ys.map EU) = Be ys ∧ D6 (ys.map EU) = D6 ys := by
        intro ys
        induction ys with
        | nil => intro _; exact ⟨rfl, rfl⟩
        | cons y ys ih2 =>
          intro hy
          have h1 := hy y (by simp)
          have h2 := ih2 fun z hz => hy z (by simp [hz])
          simp only [List.map_cons, Be, D6, h1.1, h1.2, h2.1, h2.2, and_self]
      obtain ⟨c1, c2⟩ := hc xs fun y hy => ⟨(ih y hy).2.2.1, (ih y hy).2.2.2⟩
      have hp := ACS (ks := ks) (xs := xs.map EU) (by simpa using hl) (Oc hd)
      have hpk := Iu ks
      have hlen := hp.length_eq
      rw [AHx]
      refine ⟨.mk _ (by simp) (by rw [hpk.length_eq]; exact hk) (fun k hkm => hkl k (hpk.mem_iff.1 hkm)) (by simp only []; rw [hlen]; simpa using hi) fun x hm => ?_, ?_, ?_, ?_⟩
      · have hm := hp.mem_iff.1 hm
        simp only [List.mem_map] at hm
        obtain ⟨y, hy, rfl⟩ := hm
        exact (ih y hy).1
      · refine (Shp.obj _ _ (by simp) (by rw [AAG hpk]; exact hd) fun x hm => ?_).b
        have hm := hp.mem_iff.1 hm
        simp only [List.mem_map] at hm
        obtain ⟨y, hy, rfl⟩ := hm
        exact (ih y hy).2.1
      · rw [Gp, Gp]; simp only [AA7 hp, c1]
      · rw [JV, JV]; simp only [Wo hp, c2]
theorem QA (k2 : Int → Option Bool) : ∀ (ks : List (List UInt8)) (n : Nat), n + 301 * ks.length ≤ 1000000 → (∀ k, k ∈ ks → k.length ≤ 300) → ∃ m : Nat, m ≤ n + 301 * ks.length ∧ Cx N k2 ks (n : Int) = k2 (m : Int)
  | [], n, _, _ => ⟨n, by omega, by rw [Cx]⟩
  | k :: ks, n, hn, hk => by
    simp only [List.length_cons] at hn
    have h1 := hk k (by simp)
    obtain ⟨m, h2, h3⟩ := QA k2 ks (n + k.length) (by omega) fun x hx => hk x (by simp [hx])
    refine ⟨m, by simp only [List.length_cons]; omega, ?_⟩
    rw [Cx, show (n : Int) + (k.length : Int) = ((n + k.length : Nat) : Int) by simp, Fa (by omega), h3]
theorem QT (rc : ApiValue → Option Bool) (k7 : Unit → Option Bool) : ∀ xs : List ApiValue, (∀ x, x ∈ xs → rc x = some false) → Cg N rc k7 xs = k7 ()
  | [], _ => by rw [Cg]
  | x :: xs, h => by rw [Cg, h x (by simp), Option.bind_some, if_neg (by simp), QT rc k7 xs fun y hy => h y (by simp [hy])]
theorem ABl : ∀ (D e : Nat) (v : ApiValue), okW e v → e ≤ D → Dj N D v = some false
  | 0, e, v, h, he => by have := h.pos; omega
  | D + 1, e, v, h, he => by
    obtain ⟨e, rfl⟩ : ∃ k, e = k + 1 := ⟨e - 1, by have := h.pos; omega⟩
    have ht := h.text; have hk := h.keys; have hi := h.items
    rw [Dj]
    simp only [AO]
    rw [Jg (by omega)]
    obtain ⟨m, h1, h2⟩ := QA (N := N) (fun j1 => if decide (j1 > 1048576) = true then some true else grd (Ab v.items.length) (Cg N (Dj N D) (fun j6 => some false) v.items)) v.keys v.text.length (by omega) h.klen
    refine h2.trans ?_
    rw [if_neg (by simp; omega), Jg (by omega), QT _ _ _ fun x hx => ABl D e x (h.sub x hx) (by omega)]
def Rn (N : Nat) (v : ApiValue) : Bool := decide (GN v ≤ 64) && Ed N v
theorem AGY (hN : 2000 ≤ N) {v : ApiValue} (h : okW 70 v) (hc : Dk v ≤ 280) : H8 N v = some (if Rn N v = true then (wrV (EU v), 0) else ([], 8)) := by
  unfold H8
  rw [AFx hN h (by omega), Option.bind_some]
  show (if Rn N v = true then _ else _) = _
  by_cases hv : Rn N v = true
  · rw [if_pos hv, if_pos hv, ABl N 70 v h (by omega), Option.bind_some, if_neg (by simp)]
    have hs : Ed N v = true := by unfold Rn at hv; rw [Bool.and_eq_true] at hv; exact hv.2
    obtain ⟨o1, o2, o3, o4⟩ := Ka (N := N) 70 v h hs
    have hl := L8 (N := N) 70 (EU v) o1 o2
    rw [QZ hN N 70 v h (by omega) hs, Option.bind_some, Qv hN N 70 (EU v) o1 (by omega) (by omega) o2, Option.bind_some, if_neg (by simp only [decide_eq_true_eq]; omega)]
  · rw [if_neg hv, if_neg hv]
theorem Sb (hN : 2000 ≤ N) {v : ApiValue} (h : okW 70 v) (hc : Dk v ≤ 280) : En N v = some (if Rn N v = true then (wrV (EU v), 0) else ([], 8)) := by
  unfold En
  rw [AGY hN h hc, Option.bind_some]
end
end Go.VM
namespace Go.VM
section
variable {N : Nat} {l : List UInt8}
end
end Go.VM
namespace Go.VM
section
variable {N : Nat}
theorem X3 {t : List UInt8} {r n : Nat} (h : Hd t = some (r, n)) (u : List UInt8) : Hd (t.take n ++ u) = some (r, n) := by
  match t, h with
  | [], h => cases h
  | a :: t, h =>
    simp only [Hd] at h
    by_cases c1 : a.toNat < 128
    · rw [if_pos c1] at h
      simp only [Option.some.injEq, Prod.mk.injEq] at h; obtain ⟨rfl, rfl⟩ := h
      simp [Hd, c1]
    rw [if_neg c1] at h
    by_cases c2 : a.toNat / 32 = 6
    · rw [if_pos c2] at h
      match t, h with
      | [], h => cases h
      | b :: t, h =>
        simp only at h
        split at h
        · rename_i hc
          simp only [Option.some.injEq, Prod.mk.injEq] at h; obtain ⟨rfl, rfl⟩ := h
          simp only [List.take, List.cons_append, List.nil_append, Hd]
          rw [if_neg c1, if_pos c2, if_pos hc]
        · cases h
    rw [if_neg c2] at h
    by_cases c3 : a.toNat / 16 = 14
    · rw [if_pos c3] at h
      match t, h with
      | [], h => cases h
      | [_], h => cases h
      | b :: c :: t, h =>
        simp only at h
        split at h
        · rename_i hc
          simp only [Option.some.injEq, Prod.mk.injEq] at h; obtain ⟨rfl, rfl⟩ := h
          simp only [List.take, List.cons_append, List.nil_append, Hd]
          rw [if_neg c1, if_neg c2, if_pos c3, if_pos hc]
        · cases h
    rw [if_neg c3] at h
    by_cases c4 : a.toNat / 8 = 30
    · rw [if_pos c4] at h
      match t, h with
      | [], h => cases h
      | [_], h => cases h
      | [_, _], h => cases h
      | b :: c :: d :: t, h =>
        simp only at h
        split at h
        · rename_i hc
          simp only [Option.some.injEq, Prod.mk.injEq] at h; obtain ⟨rfl, rfl⟩ := h
          simp only [List.take, List.cons_append, List.nil_append, Hd]
          rw [if_neg c1, if_neg c2, if_neg c3, if_pos c4, if_pos hc]
        · cases h
    · rw [if_neg c4] at h; cases h
theorem ADQ {a : UInt8} {t : List UInt8} {r n : Nat} (h : Hd (a :: t) = some (r, n)) (ha : ¬ a.toNat < 128) : ∀ c ∈ (a :: t).take n, ¬ c.toNat < 128 := by
  simp only [Hd] at h
  rw [if_neg ha] at h
  by_cases c2 : a.toNat / 32 = 6
  · rw [if_pos c2] at h
    match t, h with
    | [], h => cases h
    | b :: t, h =>
      simp only at h
      split at h
      · rename_i hc
        simp only [Option.some.injEq, Prod.mk.injEq] at h; obtain ⟨rfl, rfl⟩ := h
        have h1 := hc.1
        simp only [DR, decide_eq_true_eq] at h1
        simp only [List.take, List.mem_cons, List.not_mem_nil, or_false]
        rintro c (rfl | rfl) <;> omega
      · cases h
  rw [if_neg c2] at h
  by_cases c3 : a.toNat / 16 = 14
  · rw [if_pos c3] at h
    match t, h with
    | [], h => cases h
    | [_], h => cases h
    | b :: c :: t, h =>
      simp only at h
      split at h
      · rename_i hc
        simp only [Option.some.injEq, Prod.mk.injEq] at h; obtain ⟨rfl, rfl⟩ := h
        have h1 := hc.1
        have h2 := hc.2.1
        simp only [DR, decide_eq_true_eq] at h1 h2
        simp only [List.take, List.mem_cons, List.not_mem_nil, or_false]
        rintro c (rfl | rfl | rfl) <;> omega
      · cases h
  rw [if_neg c3] at h
  by_cases c4 : a.toNat / 8 = 30
  · rw [if_pos c4] at h
    match t, h with
    | [], h => cases h
    | [_], h => cases h
    | [_, _], h => cases h
    | b :: c :: d :: t, h =>
      simp only at h
      split at h
      · rename_i hc
        simp only [Option.some.injEq, Prod.mk.injEq] at h; obtain ⟨rfl, rfl⟩ := h
        have h1 := hc.1
        have h2 := hc.2.1
        have h3 := hc.2.2.1
        simp only [DR, decide_eq_true_eq] at h1 h2 h3
        simp only [List.take, List.mem_cons, List.not_mem_nil, or_false]
        rintro c (rfl | rfl | rfl | rfl) <;> omega
      · cases h
  · rw [if_neg c4] at h; cases h
theorem Ve {a : UInt8} {t : List UInt8} (ha : a.toNat < 128) : Hd (a :: t) = some (a.toNat, 1) := by
  simp only [Hd]; rw [if_pos ha]
theorem AG6 {c : UInt8} (h : ¬ c.toNat < 128) : qB c = [c] := by
  unfold qB qN
  rw [if_neg (by omega), if_neg (by omega), if_neg (by omega), if_neg (by omega), if_neg (by omega), if_neg (by omega), if_neg (by omega), if_neg (by omega)]
  simp
theorem AFK : ∀ l : List UInt8, (∀ c ∈ l, ¬ c.toNat < 128) → l.flatMap qB = l
  | [], _ => rfl
  | c :: l, h => by
    rw [List.flatMap_cons, AG6 (h c (by simp)), AFK l fun x hx => h x (by simp [hx])]; rfl
theorem AGI {x : UInt8} {r : List UInt8} (hx : x ≠ 117) : FO (92 :: x :: r) = none := by
  cases h : FO (92 :: x :: r) with
  | none => rfl
  | some n =>
    obtain ⟨_, _, r', e⟩ := Iw h
    simp only [List.cons.injEq] at e
    exact absurd e.2.1 hx
theorem Zw {x b : UInt8} {r : List UInt8} (hx : x ≠ 117) (hs : KD x.toNat = some b) : HZ (92 :: x :: r) = ([b], 2, 0) := by
  rw [JW (AGI hx)]
  simp only [Jq, hs]
theorem AFN {c : UInt8} {r : List UInt8} (hc : c.toNat < 32) : HZ (92 :: 117 :: 48 :: 48 :: MC.getD (c.toNat / 16) 0 :: MC.getD (c.toNat % 16) 0 :: r) = ([c], 6, 0) := by
  have f := EA (f := fun n => if n < 32 then ([48, 48, MC.getD (n / 16) 0, MC.getD (n % 16) 0].all Jy && decide (U9 0 [48, 48, MC.getD (n / 16) 0, MC.getD (n % 16) 0] = n)) else true) (g := fun _ => true) (by kernel_rfl) c
  simp only [hc, if_true, Bool.and_eq_true, decide_eq_true_eq] at f
  have hu : FO (92 :: 117 :: 48 :: 48 :: MC.getD (c.toNat / 16) 0 :: MC.getD (c.toNat % 16) 0 :: r) = some c.toNat := by
    simp only [FO]
    rw [if_pos ⟨trivial, trivial, f.1⟩, f.2]
  rw [Jd hu, if_neg (by omega), if_neg (by omega)]
  unfold Kv
  rw [if_pos (by omega)]
  simp
theorem SY {k i : Nat} {t out x : List UInt8} {n : Nat} (h : HZ (92 :: t) = (x, n, 0)) : Bw (k + 1) (92 :: t) i out = Bw k ((92 :: t).drop n) (i + n) (out ++ x) := by
  rw [Bw, if_neg (by decide), if_pos (by decide), h, if_pos rfl]
theorem AJP {c : UInt8} (hc : c.toNat < 128) (k i : Nat) (rest out : List UInt8) : Bw (k + 1) (qB c ++ rest) i out = Bw k rest (i + (qB c).length) (out ++ [c]) := by
  have ch : ∀ n : Nat, n < 256 → c.toNat = n → c = UInt8.ofNat n := fun n h e => UInt8.toNat_inj.1 (by rw [e, toNat_ofNat h])
  have letter : ∀ (x b : UInt8), qB c = [92, x] → x ≠ 117 → KD x.toNat = some b → b = c → Bw (k + 1) (qB c ++ rest) i out = Bw k rest (i + (qB c).length) (out ++ [c]) := by
    rintro x b hq hx hs rfl
    rw [hq]
    exact SY (Zw hx hs)
  by_cases h1 : c.toNat = 34
  · exact letter 34 34 (by unfold qB qN; rw [if_pos h1]) (by decide) (by decide) (ch 34 (by decide) h1).symm
  by_cases h2 : c.toNat = 92
  · exact letter 92 92 (by unfold qB qN; rw [if_neg h1, if_pos h2]) (by decide) (by decide) (ch 92 (by decide) h2).symm
  by_cases h3 : c.toNat = 8
  · exact letter 98 8 (by unfold qB qN; rw [if_neg h1, if_neg h2, if_pos h3]) (by decide) (by decide) (ch 8 (by decide) h3).symm
  by_cases h4 : c.toNat = 12
  · exact letter 102 12 (by unfold qB qN; rw [if_neg h1, if_neg h2, if_neg h3, if_pos h4]) (by decide) (by decide) (ch 12 (by decide) h4).symm
  by_cases h5 : c.toNat = 10
  · exact letter 110 10 (by unfold qB qN; rw [if_neg h1, if_neg h2, if_neg h3, if_neg h4, if_pos h5]) (by decide) (by decide) (ch 10 (by decide) h5).symm
  by_cases h6 : c.toNat = 13
  · exact letter 114 13 (by unfold qB qN; rw [if_neg h1, if_neg h2, if_neg h3, if_neg h4, if_neg h5, if_pos h6]) (by decide) (by decide) (ch 13 (by decide) h6).symm
  by_cases h7 : c.toNat = 9
  · exact letter 116 9 (by unfold qB qN; rw [if_neg h1, if_neg h2, if_neg h3, if_neg h4, if_neg h5, if_neg h6, if_pos h7]) (by decide) (by decide) (ch 9 (by decide) h7).symm
  by_cases h8 : c.toNat < 32
  · have hq : qB c = [92, 117, 48, 48, MC.getD (c.toNat / 16) 0, MC.getD (c.toNat % 16) 0] := by
      unfold qB qN; rw [if_neg h1, if_neg h2, if_neg h3, if_neg h4, if_neg h5, if_neg h6, if_neg h7, if_pos h8]
    rw [hq]
    exact SY (AFN h8)
  · have hq : qB c = [c] := by
      unfold qB qN; rw [if_neg h1, if_neg h2, if_neg h3, if_neg h4, if_neg h5, if_neg h6, if_neg h7, if_neg h8]; simp
    rw [hq, List.cons_append, List.nil_append, Bw, if_neg h1, if_neg h2, if_neg h8, Ve hc]
    rfl
end
end Go.VM
namespace Go.VM
def MW (c : UInt8) : Bool := c == 44 || c == 93 || c == 125 || wsB c
def Stop (r : List UInt8) : Prop := ∀ c t, r = c :: t → MW c = true
theorem QQ : Stop [] := fun _ _ h => by cases h
theorem Fh {c : UInt8} {t : List UInt8} (h : MW c = true) : Stop (c :: t) := fun c' t' e => by cases e; exact h
def AllWs (w : List UInt8) : Prop := ∀ c, c ∈ w → wsB c = true
theorem Hg : AllWs [] := fun _ h => by cases h
theorem ABX : ∀ {w : List UInt8}, AllWs w → ∀ {t : List UInt8}, (∀ c r, t = c :: r → wsB c = false) → (w ++ t).takeWhile wsB = w
  | [], _, [], _ => rfl
  | [], _, c :: r, h => by rw [List.nil_append, List.takeWhile_cons, h c r rfl]; rfl
  | x :: w, hw, t, h => by
    rw [List.cons_append, List.takeWhile_cons, hw x (by simp)]
    simp only [if_true]
    rw [ABX (fun c hc => hw c (by simp [hc])) h]
theorem Stop.ws {w t : List UInt8} (hw : AllWs w) (h : Stop t) : Stop (w ++ t) := by
  cases w with
  | nil => exact h
  | cons c w => exact Fh (by unfold MW; rw [hw c (by simp)]; simp)
section
variable {N : Nat} {l : List UInt8}
theorem Gj {i : Nat} {w t : List UInt8} (h : l.drop i = w ++ t) (hw : AllWs w) (ht : ∀ c r, t = c :: r → wsB c = false) : Ey N l i = GY N (i + w.length) t := by
  unfold Ey
  rw [h, ABX hw ht, ← List.drop_drop, h, List.drop_left]
theorem GR {p : Nat} {c : UInt8} {r : List UInt8} (h : H6.contains c = true) : GY N p (c :: r) = (ApiToken.mk 2 [c] p, ((p + 1 : Nat) : Int), 0) := by rw [Ec, if_pos h]
theorem Pq (rest : List UInt8) : ∀ (k' : Nat) (t : List UInt8), (Dc k' t).isSome = true → ∀ (k i : Nat) (out : List UInt8), t.length < k → Bw k (t.flatMap qB ++ 34 :: rest) i out = (out ++ t, i + (t.flatMap qB).length + 1, 0)
  | 0, t, h, k, i, out, hk => by cases h
  | k' + 1, [], h, k, i, out, hk => by
    obtain ⟨k, rfl⟩ : ∃ j, k = j + 1 := ⟨k - 1, by simp at hk; omega⟩
    simp [Bw]
  | k' + 1, c :: t, h, k, i, out, hk => by
    rw [Dc] at h
    cases hd : Hd (c :: t) with
    | none => rw [hd] at h; cases h
    | some p =>
      obtain ⟨r, n⟩ := p
      rw [hd] at h
      simp only [Option.isSome_map] at h
      obtain ⟨e1, e2, _⟩ := Kw hd
      obtain ⟨k, rfl⟩ : ∃ j, k = j + 1 := ⟨k - 1, by simp only [List.length_cons] at hk; omega⟩
      have hsplit : c :: t = (c :: t).take n ++ (c :: t).drop n := (List.take_append_drop n _).symm
      have ih := Pq rest k' ((c :: t).drop n) h k
      have hlen : ((c :: t).drop n).length < k := by rw [List.length_drop]; omega
      by_cases hc : c.toNat < 128
      · rw [Ve hc] at hd
        simp only [Option.some.injEq, Prod.mk.injEq] at hd
        obtain ⟨_, rfl⟩ := hd
        rw [List.flatMap_cons, List.append_assoc, AJP hc, show t = (c :: t).drop 1 from rfl, ih _ _ hlen]
        simp only [List.drop_succ_cons, List.drop_zero, List.length_append, List.append_assoc, List.singleton_append]
        congr 2; omega
      · have hh := AFK _ (ADQ hd hc)
        have hq : (c :: t).flatMap qB = (c :: t).take n ++ ((c :: t).drop n).flatMap qB := by
          conv => lhs; rw [hsplit]
          rw [List.flatMap_append, hh]
        rw [hq, List.append_assoc]
        have hpre := X3 hd (((c :: t).drop n).flatMap qB ++ 34 :: rest)
        have hl : ((c :: t).take n).length = n := by rw [List.length_take]; omega
        obtain ⟨u, hu⟩ : ∃ u, (c :: t).take n ++ (((c :: t).drop n).flatMap qB ++ 34 :: rest) = c :: u := by
          obtain ⟨m, rfl⟩ : ∃ m, n = m + 1 := ⟨n - 1, by omega⟩
          exact ⟨_, rfl⟩
        have hdrop : (c :: u).drop n = ((c :: t).drop n).flatMap qB ++ 34 :: rest := by
          rw [← hu, List.drop_append, List.drop_of_length_le (by omega), hl, Nat.sub_self]; rfl
        have htake : (c :: u).take n = (c :: t).take n := by
          rw [← hu, List.take_append, hl, Nat.sub_self, List.take_take, Nat.min_self]; simp
        rw [hu] at hpre ⊢
        rw [Bw, if_neg (by omega), if_neg (by omega), if_neg (by omega), hpre]
        simp only []
        rw [hdrop, htake, ih _ _ hlen, List.append_assoc, ← hsplit]
        congr 2
        rw [List.length_append, hl]; omega
theorem OA {p : Nat} {s rest : List UInt8} (h : (Dc N s).isSome = true) (hN : s.length < N) : GY N p (CE s ++ rest) = (ApiToken.mk 3 s p, ((p + (CE s).length : Nat) : Int), 0) := by
  have e : CE s ++ rest = 34 :: (s.flatMap qB ++ 34 :: rest) := by simp [CE]
  rw [e, Ec, if_neg (by decide), if_pos (by decide), Pq rest N s h N (p + 1) [] hN]
  simp only [if_true, List.nil_append]
  congr 2
  simp [CE]; omega
theorem Ib {set x rest : List UInt8} (hr : ∀ c t, rest = c :: t → set.contains c = false) : Bn set (x ++ rest) = Bn set x := by
  cases x with
  | nil =>
    cases rest with
    | nil => rfl
    | cons c t => simpa [Bn] using hr c t rfl
  | cons c x => rfl
theorem Km {x rest : List UInt8} (hr : ∀ c t, rest = c :: t → Cm c = false) : Cu (x ++ rest) = Cu x := by
  unfold Cu
  induction x with
  | nil =>
    cases rest with
    | nil => rfl
    | cons c t => simp [hr c t rfl]
  | cons c x ih =>
    simp only [List.cons_append, List.takeWhile_cons]
    cases Cm c
    · rfl
    · simp only [if_true, List.length_cons, ih]
theorem Xz {c : UInt8} (h : MW c = true) : Cm c = false ∧ ([45] : List UInt8).contains c = false ∧ ([48] : List UInt8).contains c = false ∧ ([46] : List UInt8).contains c = false ∧ ([101, 69] : List UInt8).contains c = false ∧ ([43, 45] : List UInt8).contains c = false ∧ BX c = false := by
  have := EA (f := fun n => if MW (UInt8.ofNat n) = true then (Cm (UInt8.ofNat n) || ([45] : List UInt8).contains (UInt8.ofNat n) || ([48] : List UInt8).contains (UInt8.ofNat n) || ([46] : List UInt8).contains (UInt8.ofNat n) || ([101, 69] : List UInt8).contains (UInt8.ofNat n) || ([43, 45] : List UInt8).contains (UInt8.ofNat n) || BX (UInt8.ofNat n)) else false) (g := fun _ => false) (by kernel_rfl) c
  simp only [UInt8.ofNat_toNat, h, if_true, Bool.or_eq_false_iff] at this
  obtain ⟨⟨⟨⟨⟨⟨a, b⟩, c⟩, d⟩, e⟩, f⟩, g⟩ := this
  exact ⟨a, b, c, d, e, f, g⟩
theorem Hm {x rest : List UInt8} {a : Nat} (h : a ≤ x.length) : (x ++ rest).drop a = x.drop a ++ rest := by
  rw [List.drop_append, show a - x.length = 0 by omega, List.drop_zero]
theorem ACw {x rest : List UInt8} (hr : Stop rest) : Bi (x ++ rest) = Bi x := by
  have hs : ∀ c t, rest = c :: t → _ := fun c t e => Xz (hr c t e)
  have hd := Km (x := x) fun c t e => (hs c t e).1
  have sg : AR (x ++ rest) = AR x := by unfold AR; rw [Ib fun c t e => (hs c t e).2.1]
  have it : ∀ y : List UInt8, BR (y ++ rest) = BR y := fun y => by unfold BR; rw [Ib fun c t e => (hs c t e).2.2.1, Km fun c t e => (hs c t e).1]
  have d1 : ∀ y : List UInt8, Cu ((y ++ rest).drop 1) = Cu (y.drop 1) ∨ y = [] := fun y => by
    cases y with
    | nil => exact .inr rfl
    | cons a y => exact .inl (by rw [Hm (by simp), Km fun c t e => (hs c t e).1])
  have fr : ∀ y : List UInt8, Cb (y ++ rest) = Cb y := fun y => by
    unfold Cb
    rw [Ib fun c t e => (hs c t e).2.2.2.1]
    rcases d1 y with e | rfl
    · rw [e]
    · rw [if_neg (by simp [Bn]), if_neg (by simp [Bn])]
  have ex : ∀ y : List UInt8, Fx (y ++ rest) = Fx y := fun y => by
    cases y with
    | nil =>
      unfold Fx
      rw [Ib fun c t e => (hs c t e).2.2.2.2.1, if_neg (by simp [Bn]), if_neg (by simp [Bn])]
    | cons a y =>
      have eg : EZ (a :: y ++ rest) = EZ (a :: y) := by
        unfold EZ
        rw [Hm (by simp), Ib fun c t e => (hs c t e).2.2.2.2.2.1]
      have ele : 1 + EZ (a :: y) ≤ (a :: y).length ∨ EZ (a :: y) = 0 := by
        unfold EZ
        split
        · rename_i h; have := FI h; simp at this ⊢; omega
        · exact .inr rfl
      have hr2 : Cu ((a :: y ++ rest).drop (1 + EZ (a :: y))) = Cu ((a :: y).drop (1 + EZ (a :: y))) := by
        rcases ele with h | h
        · rw [Hm h, Km fun c t e => (hs c t e).1]
        · rw [h, Hm (by simp), Km fun c t e => (hs c t e).1]
      unfold Fx
      rw [Ib fun c t e => (hs c t e).2.2.2.2.1, eg, hr2]
  have h1 := ND x
  have h2 := Ms (x.drop (AR x))
  have h3 := MV (x.drop (AR x + BR (x.drop (AR x))))
  simp only [List.length_drop] at h2 h3
  unfold Bi
  rw [sg, Hm h1, it, Hm (by omega), fr, Hm (by omega), ex]
theorem Pg {s : List UInt8} (h0 : s ≠ []) (hn : Bi s = s.length) : ∃ c r, s = c :: r ∧ (c = 45 ∨ Cm c = true) := by
  obtain ⟨sg, W, F, FR, P, EX, h⟩ := LA h0 hn
  rcases h.sg with e | e
  · cases hW : W with
    | nil => exact absurd hW h.Wn
    | cons c W' =>
      have := h.Wd
      rw [hW, List.all_cons, Bool.and_eq_true] at this
      exact ⟨c, _, by rw [h.eq, e, hW]; rfl, .inr this.1⟩
  · exact ⟨45, _, by rw [h.eq, e]; rfl, .inl rfl⟩
theorem Qt {c : UInt8} (hc : c = 45 ∨ Cm c = true) : wsB c = false ∧ H6.contains c = false ∧ ¬ c.toNat = 34 ∧ (([45] : List UInt8).contains c || Cm c) = true := by
  have hcN : c.toNat = 45 ∨ (48 ≤ c.toNat ∧ c.toNat ≤ 57) := by
    rcases hc with rfl | hc
    · exact .inl rfl
    · exact .inr (JB hc)
  refine ⟨?_, ?_, by omega, ?_⟩
  · simp only [wsB, wsN, Bool.or_eq_false_iff, decide_eq_false_iff_not]; omega
  · have := EA (f := fun n => if decide (n = 45 ∨ (48 ≤ n ∧ n ≤ 57)) = true then H6.contains (UInt8.ofNat n) else false) (g := fun _ => false) (by kernel_rfl) c
    simp only [UInt8.ofNat_toNat, decide_eq_true hcN, if_true] at this
    exact this
  · rcases hc with rfl | hc
    · rfl
    · rw [hc]; simp
theorem UG {p : Nat} {s rest : List UInt8} (h0 : s ≠ []) (hn : Bi s = s.length) (hr : Stop rest) : GY N p (s ++ rest) = (ApiToken.mk 4 s p, ((p + s.length : Nat) : Int), 0) := by
  obtain ⟨c, r, rfl, hc⟩ := Pg h0 hn
  obtain ⟨_, h2, h3, h4⟩ := Qt hc
  have e := ACw (x := c :: r) hr
  rw [hn] at e
  rw [List.cons_append] at e ⊢
  rw [Ec, if_neg (by rw [h2]; decide), if_neg h3, if_pos h4, e, if_neg (by simp)]
  have : (c :: (r ++ rest)).take (c :: r).length = c :: r := by rw [← List.cons_append, List.take_left]
  rw [this]
theorem AAF {x rest : List UInt8} (hx : x.all BX = true) (hr : Stop rest) : (x ++ rest).takeWhile BX = x := by
  induction x with
  | nil =>
    cases rest with
    | nil => rfl
    | cons c t => rw [List.nil_append, List.takeWhile_cons, (Xz (hr c t rfl)).2.2.2.2.2.2]; rfl
  | cons c x ih =>
    rw [List.all_cons, Bool.and_eq_true] at hx
    rw [List.cons_append, List.takeWhile_cons, hx.1, if_pos rfl, ih hx.2]
theorem Qm {p : Nat} {x rest : List UInt8} (hx : isWord x = true) (hr : Stop rest) : GY N p (x ++ rest) = (ApiToken.mk 5 x p, ((p + x.length : Nat) : Int), 0) := by
  have key : ∃ c r, x = c :: r ∧ x.all BX = true ∧ H6.contains c = false ∧ ¬ c.toNat = 34 ∧ (([45] : List UInt8).contains c || Cm c) = false := by
    unfold isWord at hx
    simp only [Bool.or_eq_true, beq_iff_eq] at hx
    rcases hx with rfl | rfl | rfl <;> exact ⟨_, _, rfl, by decide, by decide, by decide, by decide⟩
  obtain ⟨c, r, rfl, h1, h2, h3, h4⟩ := key
  have hw := AAF h1 hr
  rw [List.cons_append] at hw ⊢
  rw [Ec, if_neg (by rw [h2]; decide), if_neg h3, if_neg (by rw [h4]; decide), hw, if_pos hx]
end
end Go.VM
namespace Go.VM
section
variable {N : Nat} {l : List UInt8}
def AFU (p : Ref14Parser) (i e : Int) : Ref14Parser := if p.fail == 0 then Ref14Parser.mk p.s p.at_ p.nodes e i else p
theorem AG0 {p : Ref14Parser} (h : p.fail = 0) (i e : Int) : AFU p i e = Ref14Parser.mk p.s p.at_ p.nodes e i := by simp [AFU, h]
def noT : ApiToken := ApiToken.mk 0 [] 0
def KS (N : Nat) (l : List UInt8) (E : Nat) (t : ApiToken) (next : Int) (p : JPsr) : Option (ApiValue × Int × Int) :=
  Option.bind (BC N p t) fun q => if q.2 != 0 then some (CG, t.at_, q.2) else if t.kind == 1 then some (q.1.out, l.length, 0) else Dr N l E next q.1
theorem Je (hb : l.length ≤ 2 ^ 40) (hN : l.length + 10 ≤ N) (E i : Nat) (hi : i ≤ l.length) (p : JPsr) :
    Dr N l (E + 1) i p = if (Ey N l i).2.2 ≠ 0 then some (CG, (i : Int), (Ey N l i).2.2) else KS N l E (Ey N l i).1 (Ey N l i).2.1 p := by
  rw [Dr, AEw hb hN hi, Option.bind_some]
  by_cases h : (Ey N l i).2.2 = 0
  · rw [if_neg (by simp [h]), if_neg (by simp [h])]; rfl
  · rw [if_pos (by simp [h]), if_pos h]
structure MR (N : Nat) (l : List UInt8) (X : Option (ApiValue × Int × Int)) (S : Int → JPsr) (p : Ref14Parser) : Prop where
  s : p.s = l
  lo : 0 ≤ p.at_
  hi : p.at_ ≤ l.length
  bad : p.fail ≠ 0 → X = some (CG, p.where_, p.fail)
  ok : p.fail = 0 → ∃ E i : Nat, p.at_ = i ∧ l.length + 2 ≤ E + i ∧ 0 ≤ p.nodes ∧ p.nodes ≤ 20000 ∧ X = Dr N l E i (S p.nodes)
structure TR (N : Nat) (l : List UInt8) (X : Option (ApiValue × Int × Int)) (S : Int → JPsr) (t : ApiToken) (p : Ref14Parser) : Prop where
  s : p.s = l
  lo : 0 ≤ p.at_
  hi : p.at_ ≤ l.length
  bad : p.fail ≠ 0 → X = some (CG, p.where_, p.fail) ∧ t = noT
  ok : p.fail = 0 → TK l.length t ∧ ∃ E i : Nat, p.at_ = i ∧ (t.kind ≠ 1 → l.length + 2 ≤ E + i) ∧ 0 ≤ p.nodes ∧ p.nodes ≤ 20000 ∧ X = KS N l E t i (S p.nodes)
theorem TR.stop {X : Option (ApiValue × Int × Int)} {S : Int → JPsr} {t : ApiToken} {p : Ref14Parser} (h : TR N l X S t p) (hf : p.fail = 0) {e : Int} (he : e ≠ 0) (hx : ∀ n, 0 ≤ n → n ≤ 20000 → ∃ q, BC N (S n) t = some (q, e)) {S' : Int → JPsr} : MR N l X S' (AFU p t.at_ e) := by
  obtain ⟨_, E, i, h1, h2, h3, h4, h5⟩ := h.ok hf
  rw [AG0 hf]
  refine ⟨h.s, h.lo, h.hi, fun _ => ?_, fun hz => absurd hz he⟩
  obtain ⟨q, hq⟩ := hx _ h3 h4
  rw [h5, KS, hq, Option.bind_some, if_pos (by simp [he])]
theorem TR.go {X : Option (ApiValue × Int × Int)} {S S' : Int → JPsr} {t : ApiToken} {p : Ref14Parser} (h : TR N l X S t p) (hk : p.fail = 0 → t.kind ≠ 1 ∧ ∀ n, BC N (S n) t = some (S' n, 0)) : MR N l X S' p := by
  refine ⟨h.s, h.lo, h.hi, fun hz => (h.bad hz).1, fun hf => ?_⟩
  obtain ⟨_, E, i, h1, h2, h3, h4, h5⟩ := h.ok hf
  obtain ⟨h6, h7⟩ := hk hf
  refine ⟨E, i, h1, h2 h6, h3, h4, ?_⟩
  rw [h5, KS, h7, Option.bind_some, if_neg (by simp), if_neg (by simp [h6])]
def inA (st : List ApiValue) (out v : ApiValue) (w : Int) (n : Int) : JPsr := ⟨st ++ [v], w, n, out⟩
def Nf (st : List ApiValue) (out v : ApiValue) (n : Int) : JPsr := Bq ⟨st, 0, n, out⟩ v
def ML (items : List ApiValue) : ApiValue := ⟨6, [], [], items⟩
def Ga (keys : List (List UInt8)) (items : List ApiValue) : ApiValue := ⟨7, [], keys, items⟩
theorem AFB (st : List ApiValue) (out v x : ApiValue) (n : Int) : Nf (st ++ [v]) out x n = inA st out { v with items := v.items ++ [x] } 5 n := by
  simp [Nf, inA, Bq]
def OT (v : ApiValue) : List UInt8 := if v.kind == 7 then [125] else [93]
theorem ABg (st : List ApiValue) (out v : ApiValue) (w n : Int) : DV (inA st out v w n) = OT v := by simp [DV, inA, OT]
theorem Qh (p : JPsr) (w : Int) (v : ApiValue) : Bq { p with want := w } v = Bq p v := by unfold Bq; rfl
def VQ (N : Nat) (l : List UInt8) (X : Option (ApiValue × Int × Int)) (st : List ApiValue) (out : ApiValue) (p : Ref14Parser) (r : ApiValue × Ref14Parser) : Prop :=
  MR N l X (Nf st out r.1) r.2 ∧ p.at_ ≤ r.2.at_ ∧ (r.2.fail = 0 → p.fail = 0)
theorem ADS {st : List ApiValue} {out v : ApiValue} {w n : Int} {p : Int} (hw : w = 1 ∨ w = 3 ∨ w = 5) : Bt (inA st out v w n) (ApiToken.mk 2 (OT v) p) = true := by
  have e : IV (inA st out v w n) (ApiToken.mk 2 (OT v) p) = true := by unfold IV; rw [ABg]; simp
  have hw2 : (inA st out v w n).want = w := rfl
  unfold Bt
  rw [e, hw2]
  rcases hw with rfl | rfl | rfl <;> simp
theorem Qp {st : List ApiValue} {out v : ApiValue} {w n : Int} {p : Int} (hw : w = 1 ∨ w = 3 ∨ w = 5) : BC N (inA st out v w n) (ApiToken.mk 2 (OT v) p) = some (Nf st out v n, 0) := by
  unfold BC
  rw [if_neg (by rw [ADS hw]; decide), if_pos (show ((ApiToken.mk 2 (OT v) p).kind == 2) = true from rfl)]
  have e : (inA st out v w n).stack.getLast? = some v := by simp [inA]
  have e2 : ({ inA st out v w n with stack := (inA st out v w n).stack.dropLast } : JPsr) = ⟨st, w, n, out⟩ := by simp [inA]
  unfold F5
  rw [e, e2]
  unfold OT
  cases v.kind == 7
  · exact congrArg some (congrArg (·, (0 : Int)) (Qh ⟨st, 0, n, out⟩ w v))
  · exact congrArg some (congrArg (·, (0 : Int)) (Qh ⟨st, 0, n, out⟩ w v))
theorem QM {st : List ApiValue} {out v : ApiValue} {n : Int} {p : Int} : BC N (inA st out v 5 n) (ApiToken.mk 2 [44] p) = some (inA st out v (if v.kind == 7 then 2 else 0) n, 0) := by
  have e : (inA st out v 5 n).stack.getLast? = some v := by simp [inA]
  have hf : Bt (inA st out v 5 n) (ApiToken.mk 2 [44] p) = true := by unfold Bt; simp [inA]
  unfold BC
  rw [if_neg (by rw [hf]; decide), if_pos (show ((ApiToken.mk 2 [44] p).kind == 2) = true from rfl)]
  unfold F5
  rw [e]
  rfl
theorem Z8 {st : List ApiValue} {out v : ApiValue} {n : Int} {p : Int} : BC N (inA st out v 4 n) (ApiToken.mk 2 [58] p) = some (inA st out v 0 n, 0) := by
  have hf : Bt (inA st out v 4 n) (ApiToken.mk 2 [58] p) = true := by unfold Bt; simp [inA]
  unfold BC
  rw [if_neg (by rw [hf]; decide), if_pos (show ((ApiToken.mk 2 [58] p).kind == 2) = true from rfl)]
  rfl
theorem ALM {st : List ApiValue} {out v : ApiValue} {w n : Int} {t : ApiToken} (hw : w = 2 ∨ w = 3) (h2 : w = 3 → (t.kind == 2 && t.text == OT v) = false) : Bt (inA st out v w n) t = (t.kind == 3) := by
  unfold Bt IV
  rw [ABg]
  have hw2 : (inA st out v w n).want = w := rfl
  rw [hw2]
  rcases hw with rfl | rfl
  · simp
  · rw [h2 rfl]; simp
theorem AGp {st : List ApiValue} {out : ApiValue} {keys : List (List UInt8)} {items : List ApiValue} {w n : Int} {s : List UInt8} {p : Int} (hw : w = 2 ∨ w = 3) :
    BC N (inA st out (Ga keys items) w n) (ApiToken.mk 3 s p) = if s ∈ keys then some (inA st out (Ga keys items) w n, 143) else some (inA st out (Ga (keys ++ [s]) items) 4 n, 0) := by
  have hf : Bt (inA st out (Ga keys items) w n) (ApiToken.mk 3 s p) = true := by rw [ALM hw (fun _ => rfl)]; rfl
  have hw2 : ((inA st out (Ga keys items) w n).want == 2 || (inA st out (Ga keys items) w n).want == 3) = true := by rcases hw with rfl | rfl <;> rfl
  have e : (inA st out (Ga keys items) w n).stack.getLast? = some (Ga keys items) := by simp [inA]
  unfold BC
  rw [if_neg (by rw [hf]; decide), if_neg (fun h => absurd (show ((3 : Int) == 2) = true from h) (by decide)), if_pos hw2]
  unfold Kl
  rw [e]
  dsimp only
  by_cases h : s ∈ keys
  · rw [if_pos h, if_pos (show s ∈ (Ga keys items).keys from h)]
  · rw [if_neg h, if_neg (show ¬ s ∈ (Ga keys items).keys from h)]; simp [inA, Ga]
theorem SL {st : List ApiValue} {out : ApiValue} {w n : Int} {p : Int} (c : UInt8) (hc : c = 91 ∨ c = 123) (hf : Bt ⟨st, w, n, out⟩ (ApiToken.mk 2 [c] p) = true) :
    BC N ⟨st, w, n, out⟩ (ApiToken.mk 2 [c] p) = some (if c = 91 then Dv ⟨st, w, n, out⟩ 6 1 else Dv ⟨st, w, n, out⟩ 7 3) := by
  unfold BC
  rw [if_neg (by rw [hf]; decide), if_pos (show ((ApiToken.mk 2 [c] p).kind == 2) = true from rfl)]
  rcases hc with rfl | rfl <;> rfl
def Z5 (N : Nat) (t : ApiToken) : ApiValue := if t.kind == 4 then ⟨4, (N9 N t.text).1, [], []⟩ else if t.kind == 5 then ⟨K3 t.text, [], [], []⟩ else ⟨5, t.text, [], []⟩
theorem Zy {st : List ApiValue} {out : ApiValue} {w n : Int} {t : ApiToken} (hw : w = 0 ∨ w = 1) (hf : Bt ⟨st, w, n, out⟩ t = true) (hk : t.kind = 3 ∨ t.kind = 4 ∨ t.kind = 5) (hn : t.kind = 4 → BU N t.text = some (N9 N t.text)) :
    BC N ⟨st, w, n, out⟩ t = some (if t.kind = 4 ∧ (N9 N t.text).2 ≠ 0 then (⟨st, w, n, out⟩, 144) else Fz ⟨st, w, n, out⟩ (Z5 N t)) := by
  have h1 : (t.kind == 2) = false := by rcases hk with h | h | h <;> rw [h] <;> rfl
  have h2 : (w == 2 || w == 3) = false := by rcases hw with h | h <;> rw [h] <;> rfl
  have h3 : (t.kind == 1) = false := by rcases hk with h | h | h <;> rw [h] <;> rfl
  unfold BC
  rw [if_neg (by rw [hf]; decide), if_neg (by rw [h1]; decide)]
  dsimp only
  rw [if_neg (by rw [h2]; decide), if_neg (by rw [h3]; decide)]
  unfold Gd Z5
  rcases hk with h | h | h
  · rw [h]; rfl
  · rw [hn h, h]
    simp only [BEq.rfl, if_true, Option.bind_some, true_and, bne_iff_ne, ne_eq, ite_not]
    split <;> rfl
  · rw [h]; rfl
theorem AGg {st : List ApiValue} {out v : ApiValue} {w n : Int} : Fz ⟨st, w, n, out⟩ v = if n + 1 > 20000 then (⟨st, w, n + 1, out⟩, 142) else (Nf st out v (n + 1), 0) := by
  unfold Fz
  split
  · rfl
  · exact congrArg (·, (0 : Int)) (Qh ⟨st, 0, n + 1, out⟩ w v)
theorem Sv {st : List ApiValue} {out : ApiValue} {w n : Int} {kd w' : Int} (hl : st.length < 64) : Dv ⟨st, w, n, out⟩ kd w' = if n + 1 > 20000 then (⟨st, w, n + 1, out⟩, 142) else (inA st out ⟨kd, [], [], []⟩ w' (n + 1), 0) := by
  unfold Dv
  rw [if_neg (by simp only []; omega)]
  rfl
theorem TR.count {X : Option (ApiValue × Int × Int)} {S S' : Int → JPsr} {t : ApiToken} {p : Ref14Parser} (h : TR N l X S t p) (hf : p.fail = 0) (hk : t.kind ≠ 1) (hx : ∀ n, 0 ≤ n → n ≤ 20000 → (n + 1 > 20000 → ∃ q, BC N (S n) t = some (q, 142)) ∧ (¬ n + 1 > 20000 → BC N (S n) t = some (S' (n + 1), 0))) :
    MR N l X S' (if p.nodes + 1 > 20000 then Ref14Parser.mk p.s p.at_ (p.nodes + 1) 142 t.at_ else Ref14Parser.mk p.s p.at_ (p.nodes + 1) p.fail p.where_) := by
  obtain ⟨_, E, i, h1, h2, h3, h4, h5⟩ := h.ok hf
  obtain ⟨h6, h7⟩ := hx _ h3 h4
  by_cases hc : p.nodes + 1 > 20000
  · rw [if_pos hc]
    obtain ⟨q, hq⟩ := h6 hc
    refine ⟨h.s, h.lo, h.hi, fun _ => ?_, fun hz => by cases hz⟩
    rw [h5, KS, hq, Option.bind_some, if_pos (by simp)]
  · rw [if_neg hc]
    refine ⟨h.s, h.lo, h.hi, fun hz => absurd hf hz, fun _ => ⟨E, i, h1, h2 hk, by simp only []; omega, by simp only []; omega, ?_⟩⟩
    rw [h5, KS, h7 hc, Option.bind_some, if_neg (by simp), if_neg (by simp [hk])]
end
end Go.VM
namespace Go.VM
section
variable {N : Nat} {l : List UInt8}
theorem MR.after {X : Option (ApiValue × Int × Int)} {S : Int → JPsr} {S' : Int → JPsr} (e : ∀ n, S n = S' n) {p : Ref14Parser} (h : MR N l X S p) : MR N l X S' p := by
  have : S = S' := funext e
  rw [← this]; exact h
end
end Go.VM
