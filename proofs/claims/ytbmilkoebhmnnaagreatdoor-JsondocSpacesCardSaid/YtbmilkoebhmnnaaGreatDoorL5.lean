import Derived.Test.YtbmilkoebhmnnaaGreatDoorL4
import Derived.Test.YtbmilkoebhmnnaaGreatDoorRd
set_option linter.unusedVariables false
set_option linter.unusedSimpArgs false
namespace Go.VM
mutual
def Ej : ApiValue → ApiValue
  | ⟨kind, text, keys, items⟩ => if kind == 6 then ⟨kind, text, [], Mj items⟩ else ⟨kind, text, Gy keys, (Gy keys).map fun k => (Ga keys (Mj items) k).1⟩
def Mj : List ApiValue → List ApiValue
  | [] => []
  | x :: xs => Ej x :: Mj xs
end
theorem LG : ∀ xs : List ApiValue, Mj xs = xs.map Ej
  | [] => rfl
  | x :: xs => by rw [Mj, LG xs]; rfl
mutual
def wrV : ApiValue → List UInt8
  | ⟨kind, text, keys, items⟩ =>
    if kind == 1 then [110, 117, 108, 108] else if kind == 2 then [102, 97, 108, 115, 101] else if kind == 3 then [116, 114, 117, 101] else if kind == 4 then text
    else if kind == 5 then BI text else if kind == 7 then 123 :: (wrM true keys items ++ [125]) else 91 :: (wrI true items ++ [93])
def wrI : Bool → List ApiValue → List UInt8
  | _, [] => []
  | b, x :: xs => (if b then [] else [44]) ++ (wrV x ++ wrI false xs)
def wrM : Bool → List (List UInt8) → List ApiValue → List UInt8
  | b, k :: ks, x :: xs => (if b then [] else [44]) ++ (BI k ++ (58 :: (wrV x ++ wrM false ks xs)))
  | _, _, _ => []
end
theorem Np {N : Nat} : ∀ {xs : List ApiValue}, KV N xs = true → ∀ x, x ∈ xs → E5 N x = true
  | [], _, x, hx => by cases hx
  | y :: xs, h, x, hx => by
    rw [KV, Bool.and_eq_true] at h
    rcases List.mem_cons.1 hx with rfl | hx
    · exact h.1
    · exact Np h.2 x hx
theorem RN {N : Nat} : ∀ {xs : List ApiValue}, (∀ x, x ∈ xs → E5 N x = true) → KV N xs = true
  | [], _ => rfl
  | y :: xs, h => by rw [KV, h y (by simp), RN fun x hx => h x (by simp [hx])]; rfl
inductive Shp (N : Nat) : ApiValue → Prop
  | word (k : Int) (hk : k = 1 ∨ k = 2 ∨ k = 3) : Shp N ⟨k, [], [], []⟩
  | num (s : List UInt8) (h : Si N s = true) : Shp N ⟨4, s, [], []⟩
  | str (s : List UInt8) (h : (Dh N s).isSome = true) : Shp N ⟨5, s, [], []⟩
  | arr (xs : List ApiValue) (h : ∀ x, x ∈ xs → E5 N x = true) : Shp N ⟨6, [], [], xs⟩
  | obj (ks : List (List UInt8)) (xs : List ApiValue) (hl : ks.length = xs.length) (hd : Jf N ks = true) (h : ∀ x, x ∈ xs → E5 N x = true) : Shp N ⟨7, [], ks, xs⟩
theorem Jw {N : Nat} {v : ApiValue} (h : E5 N v = true) : Shp N v := by
  obtain ⟨kind, text, keys, items⟩ := v
  rw [E5] at h
  by_cases h1 : (kind == 1 || kind == 2 || kind == 3) = true
  · rw [if_pos h1] at h
    simp only [Bool.and_eq_true, beq_iff_eq, List.isEmpty_iff] at h
    obtain ⟨⟨rfl, rfl⟩, rfl⟩ := h
    simp only [Bool.or_eq_true, beq_iff_eq] at h1
    exact .word _ (by omega)
  rw [if_neg h1] at h
  by_cases h4 : (kind == 4) = true
  · rw [if_pos h4] at h
    simp only [Bool.and_eq_true, List.isEmpty_iff] at h
    obtain ⟨⟨hn, rfl⟩, rfl⟩ := h
    rw [beq_iff_eq] at h4; subst h4
    exact .num _ hn
  rw [if_neg h4] at h
  by_cases h5 : (kind == 5) = true
  · rw [if_pos h5] at h
    simp only [Bool.and_eq_true, List.isEmpty_iff] at h
    obtain ⟨⟨hn, rfl⟩, rfl⟩ := h
    rw [beq_iff_eq] at h5; subst h5
    exact .str _ hn
  rw [if_neg h5] at h
  by_cases h6 : (kind == 6) = true
  · rw [if_pos h6] at h
    simp only [Bool.and_eq_true, beq_iff_eq, List.isEmpty_iff] at h
    obtain ⟨⟨rfl, rfl⟩, hs⟩ := h
    rw [beq_iff_eq] at h6; subst h6
    exact .arr _ (Np hs)
  rw [if_neg h6] at h
  by_cases h7 : (kind == 7) = true
  · rw [if_pos h7] at h
    simp only [Bool.and_eq_true, beq_iff_eq, decide_eq_true_eq] at h
    obtain ⟨⟨⟨rfl, hl⟩, hd⟩, hs⟩ := h
    rw [beq_iff_eq] at h7; subst h7
    exact .obj _ _ hl hd (Np hs)
  rw [if_neg h7] at h; cases h
theorem Shp.b {N : Nat} {v : ApiValue} (h : Shp N v) : E5 N v = true := by
  cases h with
  | word k hk => rcases hk with rfl | rfl | rfl <;> rfl
  | num s h => simp [E5, h]
  | str s h => simp [E5, h]
  | arr xs h => simp [E5, RN h]
  | obj ks xs hl hd h => simp [E5, RN h, hl, hd]
theorem QV (f : ApiValue → ApiValue) : ∀ (ks : List (List UInt8)) (xs : List ApiValue) (k : List UInt8), ks.length = xs.length → k ∈ ks → ∃ x, x ∈ xs ∧ Ga ks xs k = (x, true) ∧ Ga ks (xs.map f) k = (f x, true)
  | [], [], k, _, h => by cases h
  | a :: ks, x :: xs, k, hl, h => by
    by_cases e : a = k
    · exact ⟨x, by simp, by simp [Ga, e], by simp [Ga, e]⟩
    · rcases List.mem_cons.1 h with h | h
      · exact absurd h.symm e
      · obtain ⟨y, h1, h2, h3⟩ := QV f ks xs k (by simpa using hl) h
        exact ⟨y, by simp [h1], by simp [Ga, e, h2], by simp [Ga, e, h3]⟩
section
variable {N : Nat}
theorem He : Gy [] = [] := by simp [Gy]
theorem AE6 {n : Nat} (h : n ≤ 1000000000) : Ba n 72 := by unfold Ba; omega
theorem OO (rc : ApiValue → Option ApiValue) (k2 : List ApiValue → Option ApiValue) : ∀ (xs out : List ApiValue), out.length + xs.length ≤ 1000000 → (∀ x, x ∈ xs → rc x = some (Ej x)) → Cc N rc k2 xs out = k2 (out ++ Mj xs)
  | [], out, _, _ => by rw [Cc, Mj, List.append_nil]
  | x :: xs, out, hb, hr => by
    simp only [List.length_cons] at hb
    rw [Cc]
    simp only [AP]
    rw [hr x (by simp), Option.bind_some, AO (AE6 (by omega)), OO rc k2 xs _ (by simp; omega) fun y hy => hr y (by simp [hy]), Mj]
    simp
theorem Ot (v : ApiValue) (hk7 : v.kind = 7) (hkl : v.keys.length ≤ 1000000) (rc : ApiValue → Option ApiValue) (k13 : List (List UInt8) × List ApiValue → Option ApiValue) (hl : v.keys.length = v.items.length) : ∀ (ks ok : List (List UInt8)) (out : List ApiValue), ok.length + ks.length ≤ 1000000 → ok.length = out.length → (∀ k, k ∈ ks → k ∈ v.keys) → (∀ x, x ∈ v.items → rc x = some (Ej x)) →
    Bl N v rc k13 ks ok out = k13 (ok ++ ks, out ++ ks.map fun k => (Ga v.keys (Mj v.items) k).1)
  | [], ok, out, _, _, _, _ => by rw [Bl]; simp
  | k :: ks, ok, out, hb, ho, hm, hr => by
    simp only [List.length_cons] at hb
    obtain ⟨x, h1, h2, h3⟩ := QV Ej v.keys v.items k hl (hm k (by simp))
    have hg : AHm v k = (x, true) := by unfold AHm; rw [if_pos (by simp [hk7]), h2]
    rw [Bl]
    simp only [AP]
    rw [AI7 v k (by omega), Option.bind_some, hg, AO (MQ (by omega)), hr x h1, Option.bind_some, AO (AE6 (by omega))]
    rw [Ot v hk7 hkl rc k13 hl ks _ _ (by simp; omega) (by simp [ho]) (fun y hy => hm y (by simp [hy])) hr]
    simp [LG, h3]
theorem QM (hN : 2000 ≤ N) : ∀ (D e : Nat) (v : ApiValue), okW e v → e ≤ D → E5 N v = true → CG N D v = some (Ej v)
  | 0, e, v, h, he, _ => by have := h.pos; omega
  | D + 1, e, v, h, he, hs => by
    obtain ⟨e, rfl⟩ : ∃ k, e = k + 1 := ⟨e - 1, by have := h.pos; omega⟩
    have hi := h.items; have hk := h.keys; have hsub := h.sub
    rw [CG]
    cases Jw hs with
    | word k hkw =>
      have h6 : (k == 6) = false := by rcases hkw with rfl | rfl | rfl <;> rfl
      simp only [h6, Bool.false_eq_true, if_false, AP]
      rw [Jb [] (by simp) (by simp; omega), He, Option.bind_some, Ip (by simp), Bl, Ej, h6, He]; rfl
    | num s _ =>
      simp only [AP]
      rw [if_neg (by decide), Jb [] (by simp) (by simp; omega), He, Option.bind_some, Ip (by simp), Bl, Ej, He]; rfl
    | str s _ =>
      simp only [AP]
      rw [if_neg (by decide), Jb [] (by simp) (by simp; omega), He, Option.bind_some, Ip (by simp), Bl, Ej, He]; rfl
    | arr xs hx =>
      simp only [AP] at hi hsub ⊢
      rw [if_pos (show ((6 : Int) == 6) = true from rfl), Ip (by omega), OO _ _ xs [] (by simp; omega) fun x hm => QM hN D e x (hsub x hm) (by omega) (hx x hm)]
      rfl
    | obj ks xs hl hd hx =>
      simp only [AP] at hi hk hsub ⊢
      have hp := Hd ks
      rw [if_neg (by decide), Jb ks (by omega) (by omega), Option.bind_some, Ip (by rw [hp.length_eq]; omega)]
      rw [Ot ⟨7, [], ks, xs⟩ rfl (by simp only []; omega) _ _ hl (Gy ks) [] [] (by rw [hp.length_eq]; simp; omega) rfl (fun k hk => hp.mem_iff.1 hk) fun x hm => QM hN D e x (hsub x hm) (by omega) (hx x hm)]
      rfl
theorem Sr {s : List UInt8} (hs : s.length ≤ 1048576) (h : (Dh N s).isSome = true) : VU N s = (BI s, 0) := by
  unfold VU; rw [if_neg (by omega), if_pos h]
theorem KF (s : List UInt8) : (BI s).length ≤ 6 * s.length + 2 := by
  unfold BI
  have := q_len s
  simp only [List.length_cons, List.length_append, List.length_nil]; omega
theorem Nq {n : Nat} (h : n ≤ 1000000000) : Ba n 1 := by unfold Ba; omega
theorem OM (a : ApiValue) (h7 : (a.kind == 7) = false) (rc : ApiValue → Option (List UInt8)) (k4 : List Int → Option (List UInt8)) : ∀ (xs : List ApiValue) (b : Bool) (n : Nat) (out : List UInt8), (b = true ↔ n = 0) → n ≤ 1000000 → n + xs.length ≤ 1000000 → out.length + (wrI b xs).length ≤ 1000000000 → (∀ x, x ∈ xs → rc x = some (wrV x)) →
    BP N a rc k4 xs (n : Int) (out.map AL) = k4 ((out ++ wrI b xs).map AL)
  | [], b, n, out, _, _, _, _, _ => by rw [BP, wrI, List.append_nil]
  | x :: xs, b, n, out, hb, hn, hx, hl, hr => by
    simp only [List.length_cons] at hx
    rw [wrI] at hl
    simp only [List.length_append] at hl
    rw [BP]
    simp only [AP, h7, Bool.false_eq_true, if_false]
    have step : ∀ o : List UInt8, o.length + (wrV x).length + (wrI false xs).length ≤ 1000000000 → (Option.bind (rc x) fun y19 => grd (Ba ((o.map AL).length + y19.length) 1) (BP N a rc k4 xs ((n : Int) + 1) (o.map AL ++ List.map AL y19))) = k4 ((o ++ (wrV x ++ wrI false xs)).map AL) := by
      intro o ho
      rw [hr x (by simp), Option.bind_some, AO (Nq (by rw [List.length_map]; omega)), ← List.map_append, show (n : Int) + 1 = ((n + 1 : Nat) : Int) by simp]
      rw [OM a h7 rc k4 xs false (n + 1) (o ++ wrV x) (by simp) (by omega) (by omega) (by simp; omega) fun y hy => hr y (by simp [hy])]
      simp
    rw [wrI]
    cases b
    · have hn0 : n ≠ 0 := fun e => by have := hb.2 e; cases this
      simp only [Bool.false_eq_true, if_false, List.length_cons, List.length_nil] at hl
      rw [if_pos (by simp; omega), AO (Nq (by rw [List.length_map]; omega))]
      have e : (out.map AL ++ [44] : List Int) = (out ++ [44]).map AL := by simp [AL]
      rw [e, step (out ++ [44]) (by simp; omega)]
      simp
    · have hn0 : n = 0 := hb.1 rfl
      subst hn0
      simp only [if_true, List.length_nil] at hl
      rw [if_neg (by simp), step out (by omega)]
      simp
theorem O9 (a : ApiValue) (h7 : (a.kind == 7) = true) (rc : ApiValue → Option (List UInt8)) (k4 : List Int → Option (List UInt8)) (hN : 2000 ≤ N) : ∀ (xs : List ApiValue) (pre ks : List (List UInt8)) (b : Bool) (out : List UInt8), a.keys = pre ++ ks → ks.length = xs.length → (b = true ↔ pre.length = 0) → pre.length + xs.length ≤ 1000000 → out.length + (wrM b ks xs).length ≤ 1000000000 → (∀ k, k ∈ ks → (Dh N k).isSome = true ∧ k.length ≤ 1000) → (∀ x, x ∈ xs → rc x = some (wrV x)) →
    BP N a rc k4 xs (pre.length : Int) (out.map AL) = k4 ((out ++ wrM b ks xs).map AL)
  | [], pre, ks, b, out, _, hl, _, _, _, _, _ => by
    have : ks = [] := List.length_eq_zero_iff.1 (by simpa using hl)
    subst this
    rw [BP, wrM, List.append_nil]
    intros; simp_all
  | x :: xs, pre, [], b, out, _, hl, _, _, _, _, _ => by simp at hl
  | x :: xs, pre, k :: ks, b, out, hk, hkl, hb, hx, hl, hq, hr => by
    simp only [List.length_cons] at hx hkl
    obtain ⟨hq1, hq2⟩ := hq k (by simp)
    have hql := KF k
    rw [wrM] at hl
    simp only [List.length_append, List.length_cons] at hl
    rw [BP]
    simp only [AP, h7, if_true]
    have step : ∀ o : List UInt8, o.length + (BI k).length + 1 + (wrV x).length + (wrM false ks xs).length ≤ 1000000000 → (Option.bind (idx a.keys (pre.length : Int)) fun x16 => Option.bind (Fe N x16) fun y17 => grd (Ba ((o.map AL).length + y17.1.length) 1) (grd (Ba ((o.map AL ++ List.map AL y17.1).length + 1) 1)
      (Option.bind (rc x) fun y19 => grd (Ba (((o.map AL ++ List.map AL y17.1) ++ [58]).length + y19.length) 1) (BP N a rc k4 xs ((pre.length : Int) + 1) (((o.map AL ++ List.map AL y17.1) ++ [58]) ++ List.map AL y19))))) = k4 ((o ++ (BI k ++ (58 :: (wrV x ++ wrM false ks xs)))).map AL) := by
      intro o ho
      rw [hk, UG, Option.bind_some, Sc k (.inl (by omega)), Option.bind_some, Sr (by omega) hq1]
      dsimp only
      rw [AO (Nq (by rw [List.length_map]; omega)), AO (Nq (by simp only [List.length_append, List.length_map]; omega)), hr x (by simp), Option.bind_some, AO (Nq (by simp only [List.length_append, List.length_map, List.length_cons, List.length_nil]; omega))]
      have e : (((o.map AL ++ List.map AL (BI k)) ++ [58]) ++ List.map AL (wrV x) : List Int) = (o ++ BI k ++ [58] ++ wrV x).map AL := by simp [AL]
      rw [e, I5 pre k, O9 a h7 rc k4 hN xs (pre ++ [k]) ks false _ (by rw [hk]; simp) (by simpa using hkl) (by simp) (by simp; omega) (by simp; omega) (fun y hy => hq y (by simp [hy])) (fun y hy => hr y (by simp [hy]))]
      simp
    rw [wrM]
    cases b
    · have hn0 : pre.length ≠ 0 := fun e => by have := hb.2 e; cases this
      simp only [Bool.false_eq_true, if_false, List.length_cons, List.length_nil] at hl
      rw [if_pos (by simp only [decide_eq_true_eq]; omega), AO (Nq (by rw [List.length_map]; omega))]
      have e : (out.map AL ++ [44] : List Int) = (out ++ [44]).map AL := by simp [AL]
      rw [e, step (out ++ [44]) (by simp; omega)]
      simp
    · have hn0 : pre.length = 0 := hb.1 rfl
      simp only [if_true, List.length_nil] at hl
      rw [if_neg (by simp only [decide_eq_true_eq]; omega), step out (by omega)]
      simp
theorem OD : ∀ (e : Nat) (v : ApiValue), okW e v → E5 N v = true → (wrV v).length + 1850 ≤ 3700 * EA v
  | 0, v, h, _ => by have := h.pos; omega
  | e + 1, v, h, hs => by
    have ht := h.text; have hsub := h.sub; have hkl := h.klen
    rw [Gu]
    cases Jw hs with
    | word k hkw => rcases hkw with rfl | rfl | rfl <;> (simp only [wrV]; decide +revert) <;> simp [wrV, Bf]
    | num s _ => simp only at ht; simp [wrV, Bf]; omega
    | str s _ =>
      simp only at ht
      have := KF s
      simp [wrV, Bf]; omega
    | arr xs hx =>
      simp only at hsub
      have key : ∀ (b : Bool) (ys : List ApiValue), (∀ y, y ∈ ys → okW e y ∧ E5 N y = true) → (wrI b ys).length ≤ 3700 * Bf ys := by
        intro b ys
        induction ys generalizing b with
        | nil => intro _; simp [wrI]
        | cons y ys ih =>
          intro hy
          have h1 := OD e y (hy y (by simp)).1 (hy y (by simp)).2
          have h2 := ih false fun z hz => hy z (by simp [hz])
          rw [wrI, Bf]
          simp only [List.length_append]
          have : (if b = true then ([] : List UInt8) else [44]).length ≤ 1 := by cases b <;> simp
          omega
      have := key true xs fun y hy => ⟨hsub y hy, hx y hy⟩
      simp [wrV]; omega
    | obj ks xs hl hd hx =>
      simp only at hsub hkl
      have key : ∀ (b : Bool) (ks : List (List UInt8)) (ys : List ApiValue), (∀ k, k ∈ ks → k.length ≤ 300) → (∀ y, y ∈ ys → okW e y ∧ E5 N y = true) → (wrM b ks ys).length ≤ 3700 * Bf ys := by
        intro b ks ys
        induction ys generalizing b ks with
        | nil => intro _ _; cases ks <;> simp [wrM]
        | cons y ys ih =>
          intro hk hy
          cases ks with
          | nil => simp [wrM]
          | cons k ks =>
            have h1 := OD e y (hy y (by simp)).1 (hy y (by simp)).2
            have h2 := ih false ks (fun z hz => hk z (by simp [hz])) fun z hz => hy z (by simp [hz])
            have h3 := KF k
            have h4 := hk k (by simp)
            rw [wrM, Bf]
            simp only [List.length_append, List.length_cons]
            have : (if b = true then ([] : List UInt8) else [44]).length ≤ 1 := by cases b <;> simp
            omega
      have := key true ks xs hkl fun y hy => ⟨hsub y hy, hx y hy⟩
      simp [wrV]; omega
theorem AIa {e : Nat} {xs : List ApiValue} (b : Bool) (h : ∀ y, y ∈ xs → okW e y ∧ E5 N y = true) : (wrI b xs).length ≤ 3700 * Bf xs := by
  induction xs generalizing b with
  | nil => simp [wrI]
  | cons y ys ih =>
    have h1 := OD (N := N) e y (h y (by simp)).1 (h y (by simp)).2
    have h2 := ih false fun z hz => h z (by simp [hz])
    rw [wrI, Bf]
    simp only [List.length_append]
    have : (if b = true then ([] : List UInt8) else [44]).length ≤ 1 := by cases b <;> simp
    omega
theorem AIe {e : Nat} {xs : List ApiValue} {ks : List (List UInt8)} (b : Bool) (hk : ∀ k, k ∈ ks → k.length ≤ 300) (h : ∀ y, y ∈ xs → okW e y ∧ E5 N y = true) : (wrM b ks xs).length ≤ 3700 * Bf xs := by
  induction xs generalizing b ks with
  | nil => cases ks <;> simp [wrM]
  | cons y ys ih =>
    cases ks with
    | nil => simp [wrM]
    | cons k ks =>
      have h1 := OD (N := N) e y (h y (by simp)).1 (h y (by simp)).2
      have h2 := ih (ks := ks) false (fun z hz => hk z (by simp [hz])) fun z hz => h z (by simp [hz])
      have h3 := KF k
      have h4 := hk k (by simp)
      rw [wrM, Bf]
      simp only [List.length_append, List.length_cons]
      have : (if b = true then ([] : List UInt8) else [44]).length ≤ 1 := by cases b <;> simp
      omega
theorem Po (hN : 2000 ≤ N) : ∀ (D e : Nat) (v : ApiValue), okW e v → e ≤ D → EA v ≤ 20000 → E5 N v = true → Cs N D v = some (wrV v)
  | 0, e, v, h, he, _, _ => by have := h.pos; omega
  | D + 1, e, v, h, he, hc, hs => by
    obtain ⟨e, rfl⟩ : ∃ k, e = k + 1 := ⟨e - 1, by have := h.pos; omega⟩
    have ht := h.text; have hi := h.items; have hkl := h.klen; have hsub := h.sub
    rw [Gu] at hc
    rw [Cs]
    cases Jw hs with
    | word k hkw => rcases hkw with rfl | rfl | rfl <;> rfl
    | num s _ => rfl
    | str s hv =>
      simp only at ht
      rw [if_neg (by simp), if_neg (by simp), if_neg (by simp), if_neg (by simp), if_pos (by rfl), Sc s (.inl (by omega)), Option.bind_some, Sr (by omega) hv]
      rfl
    | arr xs hx =>
      simp only at hi hsub hc
      have hw := AIa (N := N) true fun y hy => ⟨hsub y hy, hx y hy⟩
      have := OM (N := N) ⟨6, [], [], xs⟩ rfl (Cs N D) (fun j3 => grd (Ab (([91] : List UInt8).length + (List.map EN j3).length)) (grd (Ab ((([91] : List UInt8) ++ (List.map EN j3)).length + ([93] : List UInt8).length)) (some ((([91] : List UInt8) ++ (List.map EN j3)) ++ ([93] : List UInt8))))) xs true 0 [] (by simp) (by omega) (by omega) (by simp; omega) fun x hm => Po hN D e x (hsub x hm) (by omega) (by have := PU hm; omega) (hx x hm)
      rw [if_neg (by simp), if_neg (by simp), if_neg (by simp), if_neg (by simp), if_neg (by simp)]
      simp only [AP]
      rw [Ip (by omega)]
      refine Eq.trans this ?_
      rw [Ip (by rw [Eu]; simp; omega), Ip (by rw [Eu]; simp; omega), Eu]
      simp [wrV]
    | obj ks xs hl hd hx =>
      simp only at hi hsub hc hkl
      have hw := AIe (N := N) true hkl fun y hy => ⟨hsub y hy, hx y hy⟩
      have hall : ∀ k, k ∈ ks → (Dh N k).isSome = true := by
        unfold Jf at hd
        rw [Bool.and_eq_true, List.all_eq_true] at hd
        exact hd.2
      have := O9 (N := N) ⟨7, [], ks, xs⟩ rfl (Cs N D) (fun j3 => grd (Ab (([123] : List UInt8).length + (List.map EN j3).length)) (grd (Ab ((([123] : List UInt8) ++ (List.map EN j3)).length + ([125] : List UInt8).length)) (some ((([123] : List UInt8) ++ (List.map EN j3)) ++ ([125] : List UInt8))))) hN xs [] ks true [] rfl hl (by simp) (by simp; omega) (by simp; omega) (fun k hk => ⟨hall k hk, by have := hkl k hk; omega⟩) fun x hm => Po hN D e x (hsub x hm) (by omega) (by have := PU hm; omega) (hx x hm)
      rw [if_neg (by simp), if_neg (by simp), if_neg (by simp), if_neg (by simp), if_neg (by simp)]
      simp only [AP]
      rw [Ip (by omega)]
      refine Eq.trans this ?_
      rw [Ip (by rw [Eu]; simp; omega), Ip (by rw [Eu]; simp; omega), Eu]
      simp [wrV]
end
end Go.VM
namespace Go.VM
theorem SV : ∀ (ks : List (List UInt8)) (xs : List ApiValue), ks.length = xs.length → ks.Nodup → (ks.map fun k => (Ga ks xs k).1) = xs
  | [], [], _, _ => rfl
  | k :: ks, x :: xs, h, hn => by
    rw [List.nodup_cons] at hn
    have ih := SV ks xs (by simpa using h) hn.2
    rw [List.map_cons]
    congr 1
    · simp [Ga]
    · conv => rhs; rw [← ih]
      apply List.map_congr_left
      intro y hy
      have : ¬ k = y := fun e => hn.1 (e ▸ hy)
      rw [Ga, if_neg (by simpa using this)]
theorem AD5 {ks : List (List UInt8)} {xs : List ApiValue} (h : ks.length = xs.length) (hn : ks.Nodup) : ((Gy ks).map fun k => (Ga ks xs k).1).Perm xs := by
  have := (Hd ks).map fun k => (Ga ks xs k).1
  rw [SV ks xs h hn] at this
  exact this
theorem AAS {xs ys : List ApiValue} (h : xs.Perm ys) : Bf xs = Bf ys := by
  induction h with
  | nil => rfl
  | cons x _ ih => rw [Bf, Bf, ih]
  | swap x y l => simp only [Bf]; omega
  | trans _ _ h1 h2 => rw [h1, h2]
theorem YQ {xs ys : List ApiValue} (h : xs.Perm ys) : ED xs = ED ys := by
  induction h with
  | nil => rfl
  | cons x _ ih => rw [ED, ED, ih]
  | swap x y l => simp only [ED]; omega
  | trans _ _ h1 h2 => rw [h1, h2]
section
variable {N : Nat}
theorem ABE {l m : List (List UInt8)} (h : l.Perm m) : Jf N l = Jf N m := by
  unfold Jf
  have e1 : decide l.Nodup = decide m.Nodup := by rw [decide_eq_decide]; exact h.nodup_iff
  have e2 : (l.all fun k => (Dh N k).isSome) = m.all fun k => (Dh N k).isSome := by
    rw [Bool.eq_iff_iff, List.all_eq_true, List.all_eq_true]
    exact ⟨fun k x hx => k x (h.mem_iff.2 hx), fun k x hx => k x (h.mem_iff.1 hx)⟩
  rw [e1, e2]
theorem OV {ks : List (List UInt8)} (h : Jf N ks = true) : ks.Nodup := by
  unfold Jf at h
  rw [Bool.and_eq_true, decide_eq_true_eq] at h
  exact h.1
theorem ADw {ks : List (List UInt8)} (h : Jf N ks = true) : ∀ k, k ∈ ks → (Dh N k).isSome = true := by
  unfold Jf at h
  rw [Bool.and_eq_true, List.all_eq_true] at h
  exact h.2
theorem ABv (xs : List ApiValue) : Ej ⟨6, [], [], xs⟩ = ⟨6, [], [], xs.map Ej⟩ := by rw [Ej, LG]; rfl
theorem ABy (ks : List (List UInt8)) (xs : List ApiValue) : Ej ⟨7, [], ks, xs⟩ = ⟨7, [], Gy ks, (Gy ks).map fun k => (Ga ks (xs.map Ej) k).1⟩ := by rw [Ej, LG]; rfl
theorem Il {k : Int} {s : List UInt8} (h : k ≠ 6) : Ej ⟨k, s, [], []⟩ = ⟨k, s, [], []⟩ := by rw [Ej, if_neg (by simpa using h), He]; rfl
theorem Ma : ∀ (e : Nat) (v : ApiValue), okW e v → E5 N v = true → okW e (Ej v) ∧ E5 N (Ej v) = true ∧ EA (Ej v) = EA v ∧ Gx (Ej v) = Gx v
  | 0, v, h, _ => by have := h.pos; omega
  | e + 1, v, h, hs => by
    have ht := h.text; have hsub := h.sub; have hkl := h.klen; have hk := h.keys; have hi := h.items
    cases Jw hs with
    | word k hkw => rw [Il (by omega)]; exact ⟨h, hs, rfl, rfl⟩
    | num s _ => rw [Il (by decide)]; exact ⟨h, hs, rfl, rfl⟩
    | str s _ => rw [Il (by decide)]; exact ⟨h, hs, rfl, rfl⟩
    | arr xs hx =>
      simp only at hsub hi
      have ih := fun x hm => Ma e x (hsub x hm) (hx x hm)
      have hc : ∀ ys : List ApiValue, (∀ y, y ∈ ys → EA (Ej y) = EA y ∧ Gx (Ej y) = Gx y) → Bf (ys.map Ej) = Bf ys ∧ ED (ys.map Ej) = ED ys := by
        intro ys
        induction ys with
        | nil => intro _; exact ⟨rfl, rfl⟩
        | cons y ys ih2 =>
          intro hy
          have h1 := hy y (by simp)
          have h2 := ih2 fun z hz => hy z (by simp [hz])
          simp only [List.map_cons, Bf, ED, h1.1, h1.2, h2.1, h2.2, and_self]
      obtain ⟨c1, c2⟩ := hc xs fun y hy => ⟨(ih y hy).2.2.1, (ih y hy).2.2.2⟩
      rw [ABv]
      refine ⟨.mk _ (by simp) (by simp) (by simp) (by simpa using hi) fun x hm => ?_, ?_, ?_, ?_⟩
      · simp only [List.mem_map] at hm
        obtain ⟨y, hy, rfl⟩ := hm
        exact (ih y hy).1
      · refine (Shp.arr (xs.map Ej) fun x hm => ?_).b
        simp only [List.mem_map] at hm
        obtain ⟨y, hy, rfl⟩ := hm
        exact (ih y hy).2.1
      · rw [Gu, Gu]; simp only [c1]
      · rw [Jm, Jm]; simp only [c2]
    | obj ks xs hl hd hx =>
      simp only at hsub hi hkl hk
      have ih := fun x hm => Ma e x (hsub x hm) (hx x hm)
      have hc : ∀ ys : List ApiValue, (∀ y, y ∈ ys → EA (Ej y) = EA y ∧ Gx (Ej y) = Gx y) → Bf (ys.map Ej) = Bf ys ∧ ED (ys.map Ej) = ED ys := by
        intro ys
        induction ys with
        | nil => intro _; exact ⟨rfl, rfl⟩
        | cons y ys ih2 =>
          intro hy
          have h1 := hy y (by simp)
          have h2 := ih2 fun z hz => hy z (by simp [hz])
          simp only [List.map_cons, Bf, ED, h1.1, h1.2, h2.1, h2.2, and_self]
      obtain ⟨c1, c2⟩ := hc xs fun y hy => ⟨(ih y hy).2.2.1, (ih y hy).2.2.2⟩
      have hp := AD5 (ks := ks) (xs := xs.map Ej) (by simpa using hl) (OV hd)
      have hpk := Hd ks
      have hlen := hp.length_eq
      rw [ABy]
      refine ⟨.mk _ (by simp) (by rw [hpk.length_eq]; exact hk) (fun k hkm => hkl k (hpk.mem_iff.1 hkm)) (by simp only []; rw [hlen]; simpa using hi) fun x hm => ?_, ?_, ?_, ?_⟩
      · have hm := hp.mem_iff.1 hm
        simp only [List.mem_map] at hm
        obtain ⟨y, hy, rfl⟩ := hm
        exact (ih y hy).1
      · refine (Shp.obj _ _ (by simp) (by rw [ABE hpk]; exact hd) fun x hm => ?_).b
        have hm := hp.mem_iff.1 hm
        simp only [List.mem_map] at hm
        obtain ⟨y, hy, rfl⟩ := hm
        exact (ih y hy).2.1
      · rw [Gu, Gu]; simp only [AAS hp, c1]
      · rw [Jm, Jm]; simp only [YQ hp, c2]
theorem QP (k2 : Int → Option Bool) : ∀ (ks : List (List UInt8)) (n : Nat), n + 301 * ks.length ≤ 1000000 → (∀ k, k ∈ ks → k.length ≤ 300) → ∃ m : Nat, m ≤ n + 301 * ks.length ∧ Cy N k2 ks (n : Int) = k2 (m : Int)
  | [], n, _, _ => ⟨n, by omega, by rw [Cy]⟩
  | k :: ks, n, hn, hk => by
    simp only [List.length_cons] at hn
    have h1 := hk k (by simp)
    obtain ⟨m, h2, h3⟩ := QP k2 ks (n + k.length) (by omega) fun x hx => hk x (by simp [hx])
    refine ⟨m, by simp only [List.length_cons]; omega, ?_⟩
    rw [Cy, show (n : Int) + (k.length : Int) = ((n + k.length : Nat) : Int) by simp, F5 (by omega), h3]
theorem Qk (rc : ApiValue → Option Bool) (k7 : Unit → Option Bool) : ∀ xs : List ApiValue, (∀ x, x ∈ xs → rc x = some false) → Cj N rc k7 xs = k7 ()
  | [], _ => by rw [Cj]
  | x :: xs, h => by rw [Cj, h x (by simp), Option.bind_some, if_neg (by simp), Qk rc k7 xs fun y hy => h y (by simp [hy])]
theorem ABY : ∀ (D e : Nat) (v : ApiValue), okW e v → e ≤ D → Dq N D v = some false
  | 0, e, v, h, he => by have := h.pos; omega
  | D + 1, e, v, h, he => by
    obtain ⟨e, rfl⟩ : ∃ k, e = k + 1 := ⟨e - 1, by have := h.pos; omega⟩
    have ht := h.text; have hk := h.keys; have hi := h.items
    rw [Dq]
    simp only [AP]
    rw [Ip (by omega)]
    obtain ⟨m, h1, h2⟩ := QP (N := N) (fun j1 => if decide (j1 > 1048576) = true then some true else grd (Ab v.items.length) (Cj N (Dq N D) (fun j6 => some false) v.items)) v.keys v.text.length (by omega) h.klen
    refine h2.trans ?_
    rw [if_neg (by simp; omega), Ip (by omega), Qk _ _ _ fun x hx => ABY D e x (h.sub x hx) (by omega)]
def V7 (N : Nat) (v : ApiValue) : Bool := decide (Gx v ≤ 64) && E5 N v
theorem AGi (hN : 2000 ≤ N) {v : ApiValue} (h : okW 70 v) (hc : EA v ≤ 280) : IB N v = some (if V7 N v = true then (wrV (Ej v), 0) else ([], 8)) := by
  unfold IB
  rw [AFa hN h (by omega), Option.bind_some]
  show (if V7 N v = true then _ else _) = _
  by_cases hv : V7 N v = true
  · rw [if_pos hv, if_pos hv, ABY N 70 v h (by omega), Option.bind_some, if_neg (by simp)]
    have hs : E5 N v = true := by unfold V7 at hv; rw [Bool.and_eq_true] at hv; exact hv.2
    obtain ⟨o1, o2, o3, o4⟩ := Ma (N := N) 70 v h hs
    have hl := OD (N := N) 70 (Ej v) o1 o2
    rw [QM hN N 70 v h (by omega) hs, Option.bind_some, Po hN N 70 (Ej v) o1 (by omega) (by omega) o2, Option.bind_some, if_neg (by simp only [decide_eq_true_eq]; omega)]
  · rw [if_neg hv, if_neg hv]
theorem AED (hN : 2000 ≤ N) {v : ApiValue} (h : okW 70 v) (hc : EA v ≤ 280) : Hw N v = some (if V7 N v = true then (wrV (Ej v), 0) else ([], 8)) := by
  unfold Hw
  rw [AGi hN h hc, Option.bind_some]
end
end Go.VM
namespace Go.VM
section
variable {N : Nat} {l : List UInt8}
end
end Go.VM
namespace Go.VM
section
variable {N : Nat}
theorem AEu {t : List UInt8} {r n : Nat} (h : IP t = some (r, n)) (u : List UInt8) : IP (t.take n ++ u) = some (r, n) := by
  match t, h with
  | [], h => cases h
  | a :: t, h =>
    simp only [IP] at h
    by_cases c1 : a.toNat < 128
    · rw [if_pos c1] at h
      simp only [Option.some.injEq, Prod.mk.injEq] at h; obtain ⟨rfl, rfl⟩ := h
      simp [IP, c1]
    rw [if_neg c1] at h
    by_cases c2 : a.toNat / 32 = 6
    · rw [if_pos c2] at h
      match t, h with
      | [], h => cases h
      | b :: t, h =>
        simp only at h
        split at h
        · rename_i hc
          simp only [Option.some.injEq, Prod.mk.injEq] at h; obtain ⟨rfl, rfl⟩ := h
          simp only [List.take, List.cons_append, List.nil_append, IP]
          rw [if_neg c1, if_pos c2, if_pos hc]
        · cases h
    rw [if_neg c2] at h
    by_cases c3 : a.toNat / 16 = 14
    · rw [if_pos c3] at h
      match t, h with
      | [], h => cases h
      | [_], h => cases h
      | b :: c :: t, h =>
        simp only at h
        split at h
        · rename_i hc
          simp only [Option.some.injEq, Prod.mk.injEq] at h; obtain ⟨rfl, rfl⟩ := h
          simp only [List.take, List.cons_append, List.nil_append, IP]
          rw [if_neg c1, if_neg c2, if_pos c3, if_pos hc]
        · cases h
    rw [if_neg c3] at h
    by_cases c4 : a.toNat / 8 = 30
    · rw [if_pos c4] at h
      match t, h with
      | [], h => cases h
      | [_], h => cases h
      | [_, _], h => cases h
      | b :: c :: d :: t, h =>
        simp only at h
        split at h
        · rename_i hc
          simp only [Option.some.injEq, Prod.mk.injEq] at h; obtain ⟨rfl, rfl⟩ := h
          simp only [List.take, List.cons_append, List.nil_append, IP]
          rw [if_neg c1, if_neg c2, if_neg c3, if_pos c4, if_pos hc]
        · cases h
    · rw [if_neg c4] at h; cases h
theorem ADY {a : UInt8} {t : List UInt8} {r n : Nat} (h : IP (a :: t) = some (r, n)) (ha : ¬ a.toNat < 128) : ∀ c ∈ (a :: t).take n, ¬ c.toNat < 128 := by
  simp only [IP] at h
  rw [if_neg ha] at h
  by_cases c2 : a.toNat / 32 = 6
  · rw [if_pos c2] at h
    match t, h with
    | [], h => cases h
    | b :: t, h =>
      simp only at h
      split at h
      · rename_i hc
        simp only [Option.some.injEq, Prod.mk.injEq] at h; obtain ⟨rfl, rfl⟩ := h
        have h1 := hc.1
        simp only [DT, decide_eq_true_eq] at h1
        simp only [List.take, List.mem_cons, List.not_mem_nil, or_false]
        rintro c (rfl | rfl) <;> omega
      · cases h
  rw [if_neg c2] at h
  by_cases c3 : a.toNat / 16 = 14
  · rw [if_pos c3] at h
    match t, h with
    | [], h => cases h
    | [_], h => cases h
    | b :: c :: t, h =>
      simp only at h
      split at h
      · rename_i hc
        simp only [Option.some.injEq, Prod.mk.injEq] at h; obtain ⟨rfl, rfl⟩ := h
        have h1 := hc.1
        have h2 := hc.2.1
        simp only [DT, decide_eq_true_eq] at h1 h2
        simp only [List.take, List.mem_cons, List.not_mem_nil, or_false]
        rintro c (rfl | rfl | rfl) <;> omega
      · cases h
  rw [if_neg c3] at h
  by_cases c4 : a.toNat / 8 = 30
  · rw [if_pos c4] at h
    match t, h with
    | [], h => cases h
    | [_], h => cases h
    | [_, _], h => cases h
    | b :: c :: d :: t, h =>
      simp only at h
      split at h
      · rename_i hc
        simp only [Option.some.injEq, Prod.mk.injEq] at h; obtain ⟨rfl, rfl⟩ := h
        have h1 := hc.1
        have h2 := hc.2.1
        have h3 := hc.2.2.1
        simp only [DT, decide_eq_true_eq] at h1 h2 h3
        simp only [List.take, List.mem_cons, List.not_mem_nil, or_false]
        rintro c (rfl | rfl | rfl | rfl) <;> omega
      · cases h
  · rw [if_neg c4] at h; cases h
theorem Yr {a : UInt8} {t : List UInt8} (ha : a.toNat < 128) : IP (a :: t) = some (a.toNat, 1) := by
  simp only [IP]; rw [if_pos ha]
theorem AJb {c : UInt8} (h : ¬ c.toNat < 128) : qB c = [c] := by
  unfold qB qN
  rw [if_neg (by omega), if_neg (by omega), if_neg (by omega), if_neg (by omega), if_neg (by omega), if_neg (by omega), if_neg (by omega), if_neg (by omega)]
  simp
theorem AGI : ∀ l : List UInt8, (∀ c ∈ l, ¬ c.toNat < 128) → l.flatMap qB = l
  | [], _ => rfl
  | c :: l, h => by
    rw [List.flatMap_cons, AJb (h c (by simp)), AGI l fun x hx => h x (by simp [hx])]; rfl
theorem AEf {x : UInt8} {r : List UInt8} (hx : x ≠ 117) : G5 (92 :: x :: r) = none := by
  cases h : G5 (92 :: x :: r) with
  | none => rfl
  | some n =>
    obtain ⟨_, _, r', e⟩ := M0 h
    simp only [List.cons.injEq] at e
    exact absurd e.2.1 hx
theorem Zt {x b : UInt8} {r : List UInt8} (hx : x ≠ 117) (hs : KW x.toNat = some b) : Iy (92 :: x :: r) = ([b], 2, 0) := by
  rw [NZ (AEf hx)]
  simp only [K9, hs]
theorem AFS {c : UInt8} {r : List UInt8} (hc : c.toNat < 32) : Iy (92 :: 117 :: 48 :: 48 :: MP.getD (c.toNat / 16) 0 :: MP.getD (c.toNat % 16) 0 :: r) = ([c], 6, 0) := by
  have f := Co (f := fun n => if n < 32 then ([48, 48, MP.getD (n / 16) 0, MP.getD (n % 16) 0].all J6 && decide (Vl 0 [48, 48, MP.getD (n / 16) 0, MP.getD (n % 16) 0] = n)) else true) (g := fun _ => true) (by kernel_rfl) c
  simp only [hc, if_true, Bool.and_eq_true, decide_eq_true_eq] at f
  have hu : G5 (92 :: 117 :: 48 :: 48 :: MP.getD (c.toNat / 16) 0 :: MP.getD (c.toNat % 16) 0 :: r) = some c.toNat := by
    simp only [G5]
    rw [if_pos ⟨trivial, trivial, f.1⟩, f.2]
  rw [Nz hu, if_neg (by omega), if_neg (by omega)]
  unfold Kc
  rw [if_pos (by omega)]
  simp
theorem TD {k i : Nat} {t out x : List UInt8} {n : Nat} (h : Iy (92 :: t) = (x, n, 0)) : Dr (k + 1) (92 :: t) i out = Dr k ((92 :: t).drop n) (i + n) (out ++ x) := by
  rw [Dr, if_neg (by decide), if_pos (by decide), h, if_pos rfl]
theorem AKH {c : UInt8} (hc : c.toNat < 128) (k i : Nat) (rest out : List UInt8) : Dr (k + 1) (qB c ++ rest) i out = Dr k rest (i + (qB c).length) (out ++ [c]) := by
  have ch : ∀ n : Nat, n < 256 → c.toNat = n → c = UInt8.ofNat n := fun n h e => UInt8.toNat_inj.1 (by rw [e, toNat_ofNat h])
  have letter : ∀ (x b : UInt8), qB c = [92, x] → x ≠ 117 → KW x.toNat = some b → b = c → Dr (k + 1) (qB c ++ rest) i out = Dr k rest (i + (qB c).length) (out ++ [c]) := by
    rintro x b hq hx hs rfl
    rw [hq]
    exact TD (Zt hx hs)
  by_cases h1 : c.toNat = 34
  · exact letter 34 34 (by unfold qB qN; rw [if_pos h1]) (by decide) (by decide) (ch 34 (by decide) h1).symm
  by_cases h2 : c.toNat = 92
  · exact letter 92 92 (by unfold qB qN; rw [if_neg h1, if_pos h2]) (by decide) (by decide) (ch 92 (by decide) h2).symm
  by_cases h3 : c.toNat = 8
  · exact letter 98 8 (by unfold qB qN; rw [if_neg h1, if_neg h2, if_pos h3]) (by decide) (by decide) (ch 8 (by decide) h3).symm
  by_cases h4 : c.toNat = 12
  · exact letter 102 12 (by unfold qB qN; rw [if_neg h1, if_neg h2, if_neg h3, if_pos h4]) (by decide) (by decide) (ch 12 (by decide) h4).symm
  by_cases h5 : c.toNat = 10
  · exact letter 110 10 (by unfold qB qN; rw [if_neg h1, if_neg h2, if_neg h3, if_neg h4, if_pos h5]) (by decide) (by decide) (ch 10 (by decide) h5).symm
  by_cases h6 : c.toNat = 13
  · exact letter 114 13 (by unfold qB qN; rw [if_neg h1, if_neg h2, if_neg h3, if_neg h4, if_neg h5, if_pos h6]) (by decide) (by decide) (ch 13 (by decide) h6).symm
  by_cases h7 : c.toNat = 9
  · exact letter 116 9 (by unfold qB qN; rw [if_neg h1, if_neg h2, if_neg h3, if_neg h4, if_neg h5, if_neg h6, if_pos h7]) (by decide) (by decide) (ch 9 (by decide) h7).symm
  by_cases h8 : c.toNat < 32
  · have hq : qB c = [92, 117, 48, 48, MP.getD (c.toNat / 16) 0, MP.getD (c.toNat % 16) 0] := by
      unfold qB qN; rw [if_neg h1, if_neg h2, if_neg h3, if_neg h4, if_neg h5, if_neg h6, if_neg h7, if_pos h8]
    rw [hq]
    exact TD (AFS h8)
  · have hq : qB c = [c] := by
      unfold qB qN; rw [if_neg h1, if_neg h2, if_neg h3, if_neg h4, if_neg h5, if_neg h6, if_neg h7, if_neg h8]; simp
    rw [hq, List.cons_append, List.nil_append, Dr, if_neg h1, if_neg h2, if_neg h8, Yr hc]
    rfl
end
end Go.VM
namespace Go.VM
def TF (c : UInt8) : Bool := c == 44 || c == 93 || c == 125 || wsB c
def Stop (r : List UInt8) : Prop := ∀ c t, r = c :: t → TF c = true
theorem AEd : Stop [] := fun _ _ h => by cases h
theorem Ij {c : UInt8} {t : List UInt8} (h : TF c = true) : Stop (c :: t) := fun c' t' e => by cases e; exact h
def AllWs (w : List UInt8) : Prop := ∀ c, c ∈ w → wsB c = true
theorem Fh : AllWs [] := fun _ h => by cases h
theorem AB0 : ∀ {w : List UInt8}, AllWs w → ∀ {t : List UInt8}, (∀ c r, t = c :: r → wsB c = false) → (w ++ t).takeWhile wsB = w
  | [], _, [], _ => rfl
  | [], _, c :: r, h => by rw [List.nil_append, List.takeWhile_cons, h c r rfl]; rfl
  | x :: w, hw, t, h => by
    rw [List.cons_append, List.takeWhile_cons, hw x (by simp)]
    simp only [if_true]
    rw [AB0 (fun c hc => hw c (by simp [hc])) h]
theorem Stop.ws {w t : List UInt8} (hw : AllWs w) (h : Stop t) : Stop (w ++ t) := by
  cases w with
  | nil => exact h
  | cons c w => exact Ij (by unfold TF; rw [hw c (by simp)]; simp)
section
variable {N : Nat} {l : List UInt8}
theorem NF {i : Nat} {w t : List UInt8} (h : l.drop i = w ++ t) (hw : AllWs w) (ht : ∀ c r, t = c :: r → wsB c = false) : Kk N l i = LZ N (i + w.length) t := by
  unfold Kk
  rw [h, AB0 hw ht, ← List.drop_drop, h, List.drop_left]
theorem ACk {p : Nat} {c : UInt8} {r : List UInt8} (h : Jg.contains c = true) : LZ N p (c :: r) = (ApiToken.mk 2 [c] p, ((p + 1 : Nat) : Int), 0) := by rw [Js, if_pos h]
theorem P9 (rest : List UInt8) : ∀ (k' : Nat) (t : List UInt8), (Dh k' t).isSome = true → ∀ (k i : Nat) (out : List UInt8), t.length < k → Dr k (t.flatMap qB ++ 34 :: rest) i out = (out ++ t, i + (t.flatMap qB).length + 1, 0)
  | 0, t, h, k, i, out, hk => by cases h
  | k' + 1, [], h, k, i, out, hk => by
    obtain ⟨k, rfl⟩ : ∃ j, k = j + 1 := ⟨k - 1, by simp at hk; omega⟩
    simp [Dr]
  | k' + 1, c :: t, h, k, i, out, hk => by
    rw [Dh] at h
    cases hd : IP (c :: t) with
    | none => rw [hd] at h; cases h
    | some p =>
      obtain ⟨r, n⟩ := p
      rw [hd] at h
      simp only [Option.isSome_map] at h
      obtain ⟨e1, e2, _⟩ := P5 hd
      obtain ⟨k, rfl⟩ : ∃ j, k = j + 1 := ⟨k - 1, by simp only [List.length_cons] at hk; omega⟩
      have hsplit : c :: t = (c :: t).take n ++ (c :: t).drop n := (List.take_append_drop n _).symm
      have ih := P9 rest k' ((c :: t).drop n) h k
      have hlen : ((c :: t).drop n).length < k := by rw [List.length_drop]; omega
      by_cases hc : c.toNat < 128
      · rw [Yr hc] at hd
        simp only [Option.some.injEq, Prod.mk.injEq] at hd
        obtain ⟨_, rfl⟩ := hd
        rw [List.flatMap_cons, List.append_assoc, AKH hc, show t = (c :: t).drop 1 from rfl, ih _ _ hlen]
        simp only [List.drop_succ_cons, List.drop_zero, List.length_append, List.append_assoc, List.singleton_append]
        congr 2; omega
      · have hh := AGI _ (ADY hd hc)
        have hq : (c :: t).flatMap qB = (c :: t).take n ++ ((c :: t).drop n).flatMap qB := by
          conv => lhs; rw [hsplit]
          rw [List.flatMap_append, hh]
        rw [hq, List.append_assoc]
        have hpre := AEu hd (((c :: t).drop n).flatMap qB ++ 34 :: rest)
        have hl : ((c :: t).take n).length = n := by rw [List.length_take]; omega
        obtain ⟨u, hu⟩ : ∃ u, (c :: t).take n ++ (((c :: t).drop n).flatMap qB ++ 34 :: rest) = c :: u := by
          obtain ⟨m, rfl⟩ : ∃ m, n = m + 1 := ⟨n - 1, by omega⟩
          exact ⟨_, rfl⟩
        have hdrop : (c :: u).drop n = ((c :: t).drop n).flatMap qB ++ 34 :: rest := by
          rw [← hu, List.drop_append, List.drop_of_length_le (by omega), hl, Nat.sub_self]; rfl
        have htake : (c :: u).take n = (c :: t).take n := by
          rw [← hu, List.take_append, hl, Nat.sub_self, List.take_take, Nat.min_self]; simp
        rw [hu] at hpre ⊢
        rw [Dr, if_neg (by omega), if_neg (by omega), if_neg (by omega), hpre]
        simp only []
        rw [hdrop, htake, ih _ _ hlen, List.append_assoc, ← hsplit]
        congr 2
        rw [List.length_append, hl]; omega
theorem Sd {p : Nat} {s rest : List UInt8} (h : (Dh N s).isSome = true) (hN : s.length < N) : LZ N p (BI s ++ rest) = (ApiToken.mk 3 s p, ((p + (BI s).length : Nat) : Int), 0) := by
  have e : BI s ++ rest = 34 :: (s.flatMap qB ++ 34 :: rest) := by simp [BI]
  rw [e, Js, if_neg (by decide), if_pos (by decide), P9 rest N s h N (p + 1) [] hN]
  simp only [if_true, List.nil_append]
  congr 2
  simp [BI]; omega
theorem Ii {set x rest : List UInt8} (hr : ∀ c t, rest = c :: t → set.contains c = false) : Bz set (x ++ rest) = Bz set x := by
  cases x with
  | nil =>
    cases rest with
    | nil => rfl
    | cons c t => simpa [Bz] using hr c t rfl
  | cons c x => rfl
theorem Kt {x rest : List UInt8} (hr : ∀ c t, rest = c :: t → Ca c = false) : Dc (x ++ rest) = Dc x := by
  unfold Dc
  induction x with
  | nil =>
    cases rest with
    | nil => rfl
    | cons c t => simp [hr c t rfl]
  | cons c x ih =>
    simp only [List.cons_append, List.takeWhile_cons]
    cases Ca c
    · rfl
    · simp only [if_true, List.length_cons, ih]
theorem ZU {c : UInt8} (h : TF c = true) : Ca c = false ∧ ([45] : List UInt8).contains c = false ∧ ([48] : List UInt8).contains c = false ∧ ([46] : List UInt8).contains c = false ∧ ([101, 69] : List UInt8).contains c = false ∧ ([43, 45] : List UInt8).contains c = false ∧ Bv c = false := by
  have := Co (f := fun n => if TF (UInt8.ofNat n) = true then (Ca (UInt8.ofNat n) || ([45] : List UInt8).contains (UInt8.ofNat n) || ([48] : List UInt8).contains (UInt8.ofNat n) || ([46] : List UInt8).contains (UInt8.ofNat n) || ([101, 69] : List UInt8).contains (UInt8.ofNat n) || ([43, 45] : List UInt8).contains (UInt8.ofNat n) || Bv (UInt8.ofNat n)) else false) (g := fun _ => false) (by kernel_rfl) c
  simp only [UInt8.ofNat_toNat, h, if_true, Bool.or_eq_false_iff] at this
  obtain ⟨⟨⟨⟨⟨⟨a, b⟩, c⟩, d⟩, e⟩, f⟩, g⟩ := this
  exact ⟨a, b, c, d, e, f, g⟩
theorem Hl {x rest : List UInt8} {a : Nat} (h : a ≤ x.length) : (x ++ rest).drop a = x.drop a ++ rest := by
  rw [List.drop_append, show a - x.length = 0 by omega, List.drop_zero]
theorem ACD {x rest : List UInt8} (hr : Stop rest) : Ci (x ++ rest) = Ci x := by
  have hs : ∀ c t, rest = c :: t → _ := fun c t e => ZU (hr c t e)
  have hd := Kt (x := x) fun c t e => (hs c t e).1
  have sg : AY (x ++ rest) = AY x := by unfold AY; rw [Ii fun c t e => (hs c t e).2.1]
  have it : ∀ y : List UInt8, CY (y ++ rest) = CY y := fun y => by unfold CY; rw [Ii fun c t e => (hs c t e).2.2.1, Kt fun c t e => (hs c t e).1]
  have d1 : ∀ y : List UInt8, Dc ((y ++ rest).drop 1) = Dc (y.drop 1) ∨ y = [] := fun y => by
    cases y with
    | nil => exact .inr rfl
    | cons a y => exact .inl (by rw [Hl (by simp), Kt fun c t e => (hs c t e).1])
  have fr : ∀ y : List UInt8, Dv (y ++ rest) = Dv y := fun y => by
    unfold Dv
    rw [Ii fun c t e => (hs c t e).2.2.2.1]
    rcases d1 y with e | rfl
    · rw [e]
    · rw [if_neg (by simp [Bz]), if_neg (by simp [Bz])]
  have ex : ∀ y : List UInt8, IM (y ++ rest) = IM y := fun y => by
    cases y with
    | nil =>
      unfold IM
      rw [Ii fun c t e => (hs c t e).2.2.2.2.1, if_neg (by simp [Bz]), if_neg (by simp [Bz])]
    | cons a y =>
      have eg : F4 (a :: y ++ rest) = F4 (a :: y) := by
        unfold F4
        rw [Hl (by simp), Ii fun c t e => (hs c t e).2.2.2.2.2.1]
      have ele : 1 + F4 (a :: y) ≤ (a :: y).length ∨ F4 (a :: y) = 0 := by
        unfold F4
        split
        · rename_i h; have := FH h; simp at this ⊢; omega
        · exact .inr rfl
      have hr2 : Dc ((a :: y ++ rest).drop (1 + F4 (a :: y))) = Dc ((a :: y).drop (1 + F4 (a :: y))) := by
        rcases ele with h | h
        · rw [Hl h, Kt fun c t e => (hs c t e).1]
        · rw [h, Hl (by simp), Kt fun c t e => (hs c t e).1]
      unfold IM
      rw [Ii fun c t e => (hs c t e).2.2.2.2.1, eg, hr2]
  have h1 := Mm x
  have h2 := NK (x.drop (AY x))
  have h3 := NC (x.drop (AY x + CY (x.drop (AY x))))
  simp only [List.length_drop] at h2 h3
  unfold Ci
  rw [sg, Hl h1, it, Hl (by omega), fr, Hl (by omega), ex]
theorem Zk {s : List UInt8} (h0 : s ≠ []) (hn : Ci s = s.length) : ∃ c r, s = c :: r ∧ (c = 45 ∨ Ca c = true) := by
  obtain ⟨sg, W, F, FR, P, EX, h⟩ := OE h0 hn
  rcases h.sg with e | e
  · cases hW : W with
    | nil => exact absurd hW h.Wn
    | cons c W' =>
      have := h.Wd
      rw [hW, List.all_cons, Bool.and_eq_true] at this
      exact ⟨c, _, by rw [h.eq, e, hW]; rfl, .inr this.1⟩
  · exact ⟨45, _, by rw [h.eq, e]; rfl, .inl rfl⟩
theorem XT {c : UInt8} (hc : c = 45 ∨ Ca c = true) : wsB c = false ∧ Jg.contains c = false ∧ ¬ c.toNat = 34 ∧ (([45] : List UInt8).contains c || Ca c) = true := by
  have hcN : c.toNat = 45 ∨ (48 ≤ c.toNat ∧ c.toNat ≤ 57) := by
    rcases hc with rfl | hc
    · exact .inl rfl
    · exact .inr (JN hc)
  refine ⟨?_, ?_, by omega, ?_⟩
  · simp only [wsB, wsN, Bool.or_eq_false_iff, decide_eq_false_iff_not]; omega
  · have := Co (f := fun n => if decide (n = 45 ∨ (48 ≤ n ∧ n ≤ 57)) = true then Jg.contains (UInt8.ofNat n) else false) (g := fun _ => false) (by kernel_rfl) c
    simp only [UInt8.ofNat_toNat, decide_eq_true hcN, if_true] at this
    exact this
  · rcases hc with rfl | hc
    · rfl
    · rw [hc]; simp
theorem AHq {p : Nat} {s rest : List UInt8} (h0 : s ≠ []) (hn : Ci s = s.length) (hr : Stop rest) : LZ N p (s ++ rest) = (ApiToken.mk 4 s p, ((p + s.length : Nat) : Int), 0) := by
  obtain ⟨c, r, rfl, hc⟩ := Zk h0 hn
  obtain ⟨_, h2, h3, h4⟩ := XT hc
  have e := ACD (x := c :: r) hr
  rw [hn] at e
  rw [List.cons_append] at e ⊢
  rw [Js, if_neg (by rw [h2]; decide), if_neg h3, if_pos h4, e, if_neg (by simp)]
  have : (c :: (r ++ rest)).take (c :: r).length = c :: r := by rw [← List.cons_append, List.take_left]
  rw [this]
theorem ABB {x rest : List UInt8} (hx : x.all Bv = true) (hr : Stop rest) : (x ++ rest).takeWhile Bv = x := by
  induction x with
  | nil =>
    cases rest with
    | nil => rfl
    | cons c t => rw [List.nil_append, List.takeWhile_cons, (ZU (hr c t rfl)).2.2.2.2.2.2]; rfl
  | cons c x ih =>
    rw [List.all_cons, Bool.and_eq_true] at hx
    rw [List.cons_append, List.takeWhile_cons, hx.1, if_pos rfl, ih hx.2]
theorem AEr {p : Nat} {x rest : List UInt8} (hx : isWord x = true) (hr : Stop rest) : LZ N p (x ++ rest) = (ApiToken.mk 5 x p, ((p + x.length : Nat) : Int), 0) := by
  have key : ∃ c r, x = c :: r ∧ x.all Bv = true ∧ Jg.contains c = false ∧ ¬ c.toNat = 34 ∧ (([45] : List UInt8).contains c || Ca c) = false := by
    unfold isWord at hx
    simp only [Bool.or_eq_true, beq_iff_eq] at hx
    rcases hx with rfl | rfl | rfl <;> exact ⟨_, _, rfl, by decide, by decide, by decide, by decide⟩
  obtain ⟨c, r, rfl, h1, h2, h3, h4⟩ := key
  have hw := ABB h1 hr
  rw [List.cons_append] at hw ⊢
  rw [Js, if_neg (by rw [h2]; decide), if_neg h3, if_neg (by rw [h4]; decide), hw, if_pos hx]
end
end Go.VM
namespace Go.VM
section
variable {N : Nat} {l : List UInt8}
def AFq (p : Ref14Parser) (i e : Int) : Ref14Parser := if p.fail == 0 then Ref14Parser.mk p.s p.at_ p.nodes e i else p
theorem AEb {p : Ref14Parser} (h : p.fail = 0) (i e : Int) : AFq p i e = Ref14Parser.mk p.s p.at_ p.nodes e i := by simp [AFq, h]
def noT : ApiToken := ApiToken.mk 0 [] 0
def Ow (N : Nat) (l : List UInt8) (E : Nat) (t : ApiToken) (next : Int) (p : JPsr) : Option (ApiValue × Int × Int) :=
  Option.bind (CE N p t) fun q => if q.2 != 0 then some (DY, t.at_, q.2) else if t.kind == 1 then some (q.1.out, l.length, 0) else Fp N l E next q.1
theorem TI (hb : l.length ≤ 2 ^ 40) (hN : l.length + 10 ≤ N) (E i : Nat) (hi : i ≤ l.length) (p : JPsr) :
    Fp N l (E + 1) i p = if (Kk N l i).2.2 ≠ 0 then some (DY, (i : Int), (Kk N l i).2.2) else Ow N l E (Kk N l i).1 (Kk N l i).2.1 p := by
  rw [Fp, AHD hb hN hi, Option.bind_some]
  by_cases h : (Kk N l i).2.2 = 0
  · rw [if_neg (by simp [h]), if_neg (by simp [h])]; rfl
  · rw [if_pos (by simp [h]), if_pos h]
structure MR (N : Nat) (l : List UInt8) (X : Option (ApiValue × Int × Int)) (S : Int → JPsr) (p : Ref14Parser) : Prop where
  s : p.s = l
  lo : 0 ≤ p.at_
  hi : p.at_ ≤ l.length
  bad : p.fail ≠ 0 → X = some (DY, p.where_, p.fail)
  ok : p.fail = 0 → ∃ E i : Nat, p.at_ = i ∧ l.length + 2 ≤ E + i ∧ 0 ≤ p.nodes ∧ p.nodes ≤ 20000 ∧ X = Fp N l E i (S p.nodes)
structure TR (N : Nat) (l : List UInt8) (X : Option (ApiValue × Int × Int)) (S : Int → JPsr) (t : ApiToken) (p : Ref14Parser) : Prop where
  s : p.s = l
  lo : 0 ≤ p.at_
  hi : p.at_ ≤ l.length
  bad : p.fail ≠ 0 → X = some (DY, p.where_, p.fail) ∧ t = noT
  ok : p.fail = 0 → TK l.length t ∧ ∃ E i : Nat, p.at_ = i ∧ (t.kind ≠ 1 → l.length + 2 ≤ E + i) ∧ 0 ≤ p.nodes ∧ p.nodes ≤ 20000 ∧ X = Ow N l E t i (S p.nodes)
theorem TR.stop {X : Option (ApiValue × Int × Int)} {S : Int → JPsr} {t : ApiToken} {p : Ref14Parser} (h : TR N l X S t p) (hf : p.fail = 0) {e : Int} (he : e ≠ 0) (hx : ∀ n, 0 ≤ n → n ≤ 20000 → ∃ q, CE N (S n) t = some (q, e)) {S' : Int → JPsr} : MR N l X S' (AFq p t.at_ e) := by
  obtain ⟨_, E, i, h1, h2, h3, h4, h5⟩ := h.ok hf
  rw [AEb hf]
  refine ⟨h.s, h.lo, h.hi, fun _ => ?_, fun hz => absurd hz he⟩
  obtain ⟨q, hq⟩ := hx _ h3 h4
  rw [h5, Ow, hq, Option.bind_some, if_pos (by simp [he])]
theorem TR.go {X : Option (ApiValue × Int × Int)} {S S' : Int → JPsr} {t : ApiToken} {p : Ref14Parser} (h : TR N l X S t p) (hk : p.fail = 0 → t.kind ≠ 1 ∧ ∀ n, CE N (S n) t = some (S' n, 0)) : MR N l X S' p := by
  refine ⟨h.s, h.lo, h.hi, fun hz => (h.bad hz).1, fun hf => ?_⟩
  obtain ⟨_, E, i, h1, h2, h3, h4, h5⟩ := h.ok hf
  obtain ⟨h6, h7⟩ := hk hf
  refine ⟨E, i, h1, h2 h6, h3, h4, ?_⟩
  rw [h5, Ow, h7, Option.bind_some, if_neg (by simp), if_neg (by simp [h6])]
def inA (st : List ApiValue) (out v : ApiValue) (w : Int) (n : Int) : JPsr := ⟨st ++ [v], w, n, out⟩
def Nb (st : List ApiValue) (out v : ApiValue) (n : Int) : JPsr := CX ⟨st, 0, n, out⟩ v
def L8 (items : List ApiValue) : ApiValue := ⟨6, [], [], items⟩
def GZ (keys : List (List UInt8)) (items : List ApiValue) : ApiValue := ⟨7, [], keys, items⟩
theorem AGh (st : List ApiValue) (out v x : ApiValue) (n : Int) : Nb (st ++ [v]) out x n = inA st out { v with items := v.items ++ [x] } 5 n := by
  simp [Nb, inA, CX]
def Oy (v : ApiValue) : List UInt8 := if v.kind == 7 then [125] else [93]
theorem ABs (st : List ApiValue) (out v : ApiValue) (w n : Int) : Ec (inA st out v w n) = Oy v := by simp [Ec, inA, Oy]
theorem Ql (p : JPsr) (w : Int) (v : ApiValue) : CX { p with want := w } v = CX p v := by unfold CX; rfl
def VQ (N : Nat) (l : List UInt8) (X : Option (ApiValue × Int × Int)) (st : List ApiValue) (out : ApiValue) (p : Ref14Parser) (r : ApiValue × Ref14Parser) : Prop :=
  MR N l X (Nb st out r.1) r.2 ∧ p.at_ ≤ r.2.at_ ∧ (r.2.fail = 0 → p.fail = 0)
theorem ADq {st : List ApiValue} {out v : ApiValue} {w n : Int} {p : Int} (hw : w = 1 ∨ w = 3 ∨ w = 5) : Dk (inA st out v w n) (ApiToken.mk 2 (Oy v) p) = true := by
  have e : LW (inA st out v w n) (ApiToken.mk 2 (Oy v) p) = true := by unfold LW; rw [ABs]; simp
  have hw2 : (inA st out v w n).want = w := rfl
  unfold Dk
  rw [e, hw2]
  rcases hw with rfl | rfl | rfl <;> simp
theorem QU {st : List ApiValue} {out v : ApiValue} {w n : Int} {p : Int} (hw : w = 1 ∨ w = 3 ∨ w = 5) : CE N (inA st out v w n) (ApiToken.mk 2 (Oy v) p) = some (Nb st out v n, 0) := by
  unfold CE
  rw [if_neg (by rw [ADq hw]; decide), if_pos (show ((ApiToken.mk 2 (Oy v) p).kind == 2) = true from rfl)]
  have e : (inA st out v w n).stack.getLast? = some v := by simp [inA]
  have e2 : ({ inA st out v w n with stack := (inA st out v w n).stack.dropLast } : JPsr) = ⟨st, w, n, out⟩ := by simp [inA]
  unfold I4
  rw [e, e2]
  unfold Oy
  cases v.kind == 7
  · exact congrArg some (congrArg (·, (0 : Int)) (Ql ⟨st, 0, n, out⟩ w v))
  · exact congrArg some (congrArg (·, (0 : Int)) (Ql ⟨st, 0, n, out⟩ w v))
theorem Qh {st : List ApiValue} {out v : ApiValue} {n : Int} {p : Int} : CE N (inA st out v 5 n) (ApiToken.mk 2 [44] p) = some (inA st out v (if v.kind == 7 then 2 else 0) n, 0) := by
  have e : (inA st out v 5 n).stack.getLast? = some v := by simp [inA]
  have hf : Dk (inA st out v 5 n) (ApiToken.mk 2 [44] p) = true := by unfold Dk; simp [inA]
  unfold CE
  rw [if_neg (by rw [hf]; decide), if_pos (show ((ApiToken.mk 2 [44] p).kind == 2) = true from rfl)]
  unfold I4
  rw [e]
  rfl
theorem AAj {st : List ApiValue} {out v : ApiValue} {n : Int} {p : Int} : CE N (inA st out v 4 n) (ApiToken.mk 2 [58] p) = some (inA st out v 0 n, 0) := by
  have hf : Dk (inA st out v 4 n) (ApiToken.mk 2 [58] p) = true := by unfold Dk; simp [inA]
  unfold CE
  rw [if_neg (by rw [hf]; decide), if_pos (show ((ApiToken.mk 2 [58] p).kind == 2) = true from rfl)]
  rfl
theorem AL9 {st : List ApiValue} {out v : ApiValue} {w n : Int} {t : ApiToken} (hw : w = 2 ∨ w = 3) (h2 : w = 3 → (t.kind == 2 && t.text == Oy v) = false) : Dk (inA st out v w n) t = (t.kind == 3) := by
  unfold Dk LW
  rw [ABs]
  have hw2 : (inA st out v w n).want = w := rfl
  rw [hw2]
  rcases hw with rfl | rfl
  · simp
  · rw [h2 rfl]; simp
theorem AGp {st : List ApiValue} {out : ApiValue} {keys : List (List UInt8)} {items : List ApiValue} {w n : Int} {s : List UInt8} {p : Int} (hw : w = 2 ∨ w = 3) :
    CE N (inA st out (GZ keys items) w n) (ApiToken.mk 3 s p) = if s ∈ keys then some (inA st out (GZ keys items) w n, 143) else some (inA st out (GZ (keys ++ [s]) items) 4 n, 0) := by
  have hf : Dk (inA st out (GZ keys items) w n) (ApiToken.mk 3 s p) = true := by rw [AL9 hw (fun _ => rfl)]; rfl
  have hw2 : ((inA st out (GZ keys items) w n).want == 2 || (inA st out (GZ keys items) w n).want == 3) = true := by rcases hw with rfl | rfl <;> rfl
  have e : (inA st out (GZ keys items) w n).stack.getLast? = some (GZ keys items) := by simp [inA]
  unfold CE
  rw [if_neg (by rw [hf]; decide), if_neg (fun h => absurd (show ((3 : Int) == 2) = true from h) (by decide)), if_pos hw2]
  unfold MH
  rw [e]
  dsimp only
  by_cases h : s ∈ keys
  · rw [if_pos h, if_pos (show s ∈ (GZ keys items).keys from h)]
  · rw [if_neg h, if_neg (show ¬ s ∈ (GZ keys items).keys from h)]; simp [inA, GZ]
theorem SQ {st : List ApiValue} {out : ApiValue} {w n : Int} {p : Int} (c : UInt8) (hc : c = 91 ∨ c = 123) (hf : Dk ⟨st, w, n, out⟩ (ApiToken.mk 2 [c] p) = true) :
    CE N ⟨st, w, n, out⟩ (ApiToken.mk 2 [c] p) = some (if c = 91 then Dl ⟨st, w, n, out⟩ 6 1 else Dl ⟨st, w, n, out⟩ 7 3) := by
  unfold CE
  rw [if_neg (by rw [hf]; decide), if_pos (show ((ApiToken.mk 2 [c] p).kind == 2) = true from rfl)]
  rcases hc with rfl | rfl <;> rfl
def ABS (N : Nat) (t : ApiToken) : ApiValue := if t.kind == 4 then ⟨4, (N7 N t.text).1, [], []⟩ else if t.kind == 5 then ⟨LU t.text, [], [], []⟩ else ⟨5, t.text, [], []⟩
theorem AAZ {st : List ApiValue} {out : ApiValue} {w n : Int} {t : ApiToken} (hw : w = 0 ∨ w = 1) (hf : Dk ⟨st, w, n, out⟩ t = true) (hk : t.kind = 3 ∨ t.kind = 4 ∨ t.kind = 5) (hn : t.kind = 4 → BX N t.text = some (N7 N t.text)) :
    CE N ⟨st, w, n, out⟩ t = some (if t.kind = 4 ∧ (N7 N t.text).2 ≠ 0 then (⟨st, w, n, out⟩, 144) else GI ⟨st, w, n, out⟩ (ABS N t)) := by
  have h1 : (t.kind == 2) = false := by rcases hk with h | h | h <;> rw [h] <;> rfl
  have h2 : (w == 2 || w == 3) = false := by rcases hw with h | h <;> rw [h] <;> rfl
  have h3 : (t.kind == 1) = false := by rcases hk with h | h | h <;> rw [h] <;> rfl
  unfold CE
  rw [if_neg (by rw [hf]; decide), if_neg (by rw [h1]; decide)]
  dsimp only
  rw [if_neg (by rw [h2]; decide), if_neg (by rw [h3]; decide)]
  unfold Jp ABS
  rcases hk with h | h | h
  · rw [h]; rfl
  · rw [hn h, h]
    simp only [BEq.rfl, if_true, Option.bind_some, true_and, bne_iff_ne, ne_eq, ite_not]
    split <;> rfl
  · rw [h]; rfl
theorem AEv {st : List ApiValue} {out v : ApiValue} {w n : Int} : GI ⟨st, w, n, out⟩ v = if n + 1 > 20000 then (⟨st, w, n + 1, out⟩, 142) else (Nb st out v (n + 1), 0) := by
  unfold GI
  split
  · rfl
  · exact congrArg (·, (0 : Int)) (Ql ⟨st, 0, n + 1, out⟩ w v)
theorem Sw {st : List ApiValue} {out : ApiValue} {w n : Int} {kd w' : Int} (hl : st.length < 64) : Dl ⟨st, w, n, out⟩ kd w' = if n + 1 > 20000 then (⟨st, w, n + 1, out⟩, 142) else (inA st out ⟨kd, [], [], []⟩ w' (n + 1), 0) := by
  unfold Dl
  rw [if_neg (by simp only []; omega)]
  rfl
theorem TR.count {X : Option (ApiValue × Int × Int)} {S S' : Int → JPsr} {t : ApiToken} {p : Ref14Parser} (h : TR N l X S t p) (hf : p.fail = 0) (hk : t.kind ≠ 1) (hx : ∀ n, 0 ≤ n → n ≤ 20000 → (n + 1 > 20000 → ∃ q, CE N (S n) t = some (q, 142)) ∧ (¬ n + 1 > 20000 → CE N (S n) t = some (S' (n + 1), 0))) :
    MR N l X S' (if p.nodes + 1 > 20000 then Ref14Parser.mk p.s p.at_ (p.nodes + 1) 142 t.at_ else Ref14Parser.mk p.s p.at_ (p.nodes + 1) p.fail p.where_) := by
  obtain ⟨_, E, i, h1, h2, h3, h4, h5⟩ := h.ok hf
  obtain ⟨h6, h7⟩ := hx _ h3 h4
  by_cases hc : p.nodes + 1 > 20000
  · rw [if_pos hc]
    obtain ⟨q, hq⟩ := h6 hc
    refine ⟨h.s, h.lo, h.hi, fun _ => ?_, fun hz => by cases hz⟩
    rw [h5, Ow, hq, Option.bind_some, if_pos (by simp)]
  · rw [if_neg hc]
    refine ⟨h.s, h.lo, h.hi, fun hz => absurd hf hz, fun _ => ⟨E, i, h1, h2 hk, by simp only []; omega, by simp only []; omega, ?_⟩⟩
    rw [h5, Ow, h7 hc, Option.bind_some, if_neg (by simp), if_neg (by simp [hk])]
end
end Go.VM
namespace Go.VM
section
variable {N : Nat} {l : List UInt8}
theorem MR.after {X : Option (ApiValue × Int × Int)} {S : Int → JPsr} {S' : Int → JPsr} (e : ∀ n, S n = S' n) {p : Ref14Parser} (h : MR N l X S p) : MR N l X S' p := by
  have : S = S' := funext e
  rw [← this]; exact h
end
end Go.VM
