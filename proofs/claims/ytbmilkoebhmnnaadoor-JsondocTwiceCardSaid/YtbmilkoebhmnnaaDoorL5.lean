import Derived.Test.YtbmilkoebhmnnaaDoorL4
import Derived.Test.YtbmilkoebhmnnaaDoorRd
set_option linter.unusedVariables false
set_option linter.unusedSimpArgs false
namespace Go.VM
mutual
def FW : ApiValue → ApiValue
  | ⟨kind, text, keys, items⟩ => if kind == 6 then ⟨kind, text, [], Me items⟩ else ⟨kind, text, Ia keys, (Ia keys).map fun k => (JM keys (Me items) k).1⟩
def Me : List ApiValue → List ApiValue
  | [] => []
  | x :: xs => FW x :: Me xs
end
theorem Kz : ∀ xs : List ApiValue, Me xs = xs.map FW
  | [] => rfl
  | x :: xs => by rw [Me, Kz xs]; rfl
mutual
def wrV : ApiValue → List UInt8
  | ⟨kind, text, keys, items⟩ =>
    if kind == 1 then [110, 117, 108, 108] else if kind == 2 then [102, 97, 108, 115, 101] else if kind == 3 then [116, 114, 117, 101] else if kind == 4 then text
    else if kind == 5 then BP text else if kind == 7 then 123 :: (wrM true keys items ++ [125]) else 91 :: (wrI true items ++ [93])
def wrI : Bool → List ApiValue → List UInt8
  | _, [] => []
  | b, x :: xs => (if b then [] else [44]) ++ (wrV x ++ wrI false xs)
def wrM : Bool → List (List UInt8) → List ApiValue → List UInt8
  | b, k :: ks, x :: xs => (if b then [] else [44]) ++ (BP k ++ (58 :: (wrV x ++ wrM false ks xs)))
  | _, _, _ => []
end
theorem Ng {N : Nat} : ∀ {xs : List ApiValue}, KE N xs = true → ∀ x, x ∈ xs → Ed N x = true
  | [], _, x, hx => by cases hx
  | y :: xs, h, x, hx => by
    rw [KE, Bool.and_eq_true] at h
    rcases List.mem_cons.1 hx with rfl | hx
    · exact h.1
    · exact Ng h.2 x hx
theorem QL {N : Nat} : ∀ {xs : List ApiValue}, (∀ x, x ∈ xs → Ed N x = true) → KE N xs = true
  | [], _ => rfl
  | y :: xs, h => by rw [KE, h y (by simp), QL fun x hx => h x (by simp [hx])]; rfl
inductive Shp (N : Nat) : ApiValue → Prop
  | word (k : Int) (hk : k = 1 ∨ k = 2 ∨ k = 3) : Shp N ⟨k, [], [], []⟩
  | num (s : List UInt8) (h : AAY N s = true) : Shp N ⟨4, s, [], []⟩
  | str (s : List UInt8) (h : (Cf N s).isSome = true) : Shp N ⟨5, s, [], []⟩
  | arr (xs : List ApiValue) (h : ∀ x, x ∈ xs → Ed N x = true) : Shp N ⟨6, [], [], xs⟩
  | obj (ks : List (List UInt8)) (xs : List ApiValue) (hl : ks.length = xs.length) (hd : Iz N ks = true) (h : ∀ x, x ∈ xs → Ed N x = true) : Shp N ⟨7, [], ks, xs⟩
theorem NP {N : Nat} {v : ApiValue} (h : Ed N v = true) : Shp N v := by
  obtain ⟨kind, text, keys, items⟩ := v
  rw [Ed] at h
  by_cases h1 : (kind == 1 || kind == 2 || kind == 3) = true
  · rw [if_pos h1] at h
    simp only [Bool.and_eq_true, beq_iff_eq, List.isEmpty_iff] at h
    obtain ⟨⟨rfl, rfl⟩, rfl⟩ := h
    simp only [Bool.or_eq_true, beq_iff_eq] at h1
    exact .word _ (by omega)
  rw [if_neg h1] at h
  by_cases h4 : (kind == 4) = true
  · rw [if_pos h4] at h
    simp only [Bool.and_eq_true, List.isEmpty_iff] at h
    obtain ⟨⟨hn, rfl⟩, rfl⟩ := h
    rw [beq_iff_eq] at h4; subst h4
    exact .num _ hn
  rw [if_neg h4] at h
  by_cases h5 : (kind == 5) = true
  · rw [if_pos h5] at h
    simp only [Bool.and_eq_true, List.isEmpty_iff] at h
    obtain ⟨⟨hn, rfl⟩, rfl⟩ := h
    rw [beq_iff_eq] at h5; subst h5
    exact .str _ hn
  rw [if_neg h5] at h
  by_cases h6 : (kind == 6) = true
  · rw [if_pos h6] at h
    simp only [Bool.and_eq_true, beq_iff_eq, List.isEmpty_iff] at h
    obtain ⟨⟨rfl, rfl⟩, hs⟩ := h
    rw [beq_iff_eq] at h6; subst h6
    exact .arr _ (Ng hs)
  rw [if_neg h6] at h
  by_cases h7 : (kind == 7) = true
  · rw [if_pos h7] at h
    simp only [Bool.and_eq_true, beq_iff_eq, decide_eq_true_eq] at h
    obtain ⟨⟨⟨rfl, hl⟩, hd⟩, hs⟩ := h
    rw [beq_iff_eq] at h7; subst h7
    exact .obj _ _ hl hd (Ng hs)
  rw [if_neg h7] at h; cases h
theorem Shp.b {N : Nat} {v : ApiValue} (h : Shp N v) : Ed N v = true := by
  cases h with
  | word k hk => rcases hk with rfl | rfl | rfl <;> rfl
  | num s h => simp [Ed, h]
  | str s h => simp [Ed, h]
  | arr xs h => simp [Ed, QL h]
  | obj ks xs hl hd h => simp [Ed, QL h, hl, hd]
theorem U7 (f : ApiValue → ApiValue) : ∀ (ks : List (List UInt8)) (xs : List ApiValue) (k : List UInt8), ks.length = xs.length → k ∈ ks → ∃ x, x ∈ xs ∧ JM ks xs k = (x, true) ∧ JM ks (xs.map f) k = (f x, true)
  | [], [], k, _, h => by cases h
  | a :: ks, x :: xs, k, hl, h => by
    by_cases e : a = k
    · exact ⟨x, by simp, by simp [JM, e], by simp [JM, e]⟩
    · rcases List.mem_cons.1 h with h | h
      · exact absurd h.symm e
      · obtain ⟨y, h1, h2, h3⟩ := U7 f ks xs k (by simpa using hl) h
        exact ⟨y, by simp [h1], by simp [JM, e, h2], by simp [JM, e, h3]⟩
section
variable {N : Nat}
theorem HY : Ia [] = [] := by simp [Ia]
theorem Y0 {n : Nat} (h : n ≤ 1000000000) : Bn n 72 := by unfold Bn; omega
theorem OL (rc : ApiValue → Option ApiValue) (k2 : List ApiValue → Option ApiValue) : ∀ (xs out : List ApiValue), out.length + xs.length ≤ 1000000 → (∀ x, x ∈ xs → rc x = some (FW x)) → Cb N rc k2 xs out = k2 (out ++ Me xs)
  | [], out, _, _ => by rw [Cb, Me, List.append_nil]
  | x :: xs, out, hb, hr => by
    simp only [List.length_cons] at hb
    rw [Cb]
    simp only [AO]
    rw [hr x (by simp), Option.bind_some, AL (Y0 (by omega)), OL rc k2 xs _ (by simp; omega) fun y hy => hr y (by simp [hy]), Me]
    simp
theorem Oj (v : ApiValue) (hk7 : v.kind = 7) (hkl : v.keys.length ≤ 1000000) (rc : ApiValue → Option ApiValue) (k13 : List (List UInt8) × List ApiValue → Option ApiValue) (hl : v.keys.length = v.items.length) : ∀ (ks ok : List (List UInt8)) (out : List ApiValue), ok.length + ks.length ≤ 1000000 → ok.length = out.length → (∀ k, k ∈ ks → k ∈ v.keys) → (∀ x, x ∈ v.items → rc x = some (FW x)) →
    Bf N v rc k13 ks ok out = k13 (ok ++ ks, out ++ ks.map fun k => (JM v.keys (Me v.items) k).1)
  | [], ok, out, _, _, _, _ => by rw [Bf]; simp
  | k :: ks, ok, out, hb, ho, hm, hr => by
    simp only [List.length_cons] at hb
    obtain ⟨x, h1, h2, h3⟩ := U7 FW v.keys v.items k hl (hm k (by simp))
    have hg : AHD v k = (x, true) := by unfold AHD; rw [if_pos (by simp [hk7]), h2]
    rw [Bf]
    simp only [AO]
    rw [AHX v k (by omega), Option.bind_some, hg, AL (Kj (by omega)), hr x h1, Option.bind_some, AL (Y0 (by omega))]
    rw [Oj v hk7 hkl rc k13 hl ks _ _ (by simp; omega) (by simp [ho]) (fun y hy => hm y (by simp [hy])) hr]
    simp [Kz, h3]
theorem QH (hN : 2000 ≤ N) : ∀ (D e : Nat) (v : ApiValue), okW e v → e ≤ D → Ed N v = true → CJ N D v = some (FW v)
  | 0, e, v, h, he, _ => by have := h.pos; omega
  | D + 1, e, v, h, he, hs => by
    obtain ⟨e, rfl⟩ : ∃ k, e = k + 1 := ⟨e - 1, by have := h.pos; omega⟩
    have hi := h.items; have hk := h.keys; have hsub := h.sub
    rw [CJ]
    cases NP hs with
    | word k hkw =>
      have h6 : (k == 6) = false := by rcases hkw with rfl | rfl | rfl <;> rfl
      simp only [h6, Bool.false_eq_true, if_false, AO]
      rw [JY [] (by simp) (by simp; omega), HY, Option.bind_some, JC (by simp), Bf, FW, h6, HY]; rfl
    | num s _ =>
      simp only [AO]
      rw [if_neg (by decide), JY [] (by simp) (by simp; omega), HY, Option.bind_some, JC (by simp), Bf, FW, HY]; rfl
    | str s _ =>
      simp only [AO]
      rw [if_neg (by decide), JY [] (by simp) (by simp; omega), HY, Option.bind_some, JC (by simp), Bf, FW, HY]; rfl
    | arr xs hx =>
      simp only [AO] at hi hsub ⊢
      rw [if_pos (show ((6 : Int) == 6) = true from rfl), JC (by omega), OL _ _ xs [] (by simp; omega) fun x hm => QH hN D e x (hsub x hm) (by omega) (hx x hm)]
      rfl
    | obj ks xs hl hd hx =>
      simp only [AO] at hi hk hsub ⊢
      have hp := HV ks
      rw [if_neg (by decide), JY ks (by omega) (by omega), Option.bind_some, JC (by rw [hp.length_eq]; omega)]
      rw [Oj ⟨7, [], ks, xs⟩ rfl (by simp only []; omega) _ _ hl (Ia ks) [] [] (by rw [hp.length_eq]; simp; omega) rfl (fun k hk => hp.mem_iff.1 hk) fun x hm => QH hN D e x (hsub x hm) (by omega) (hx x hm)]
      rfl
theorem SA {s : List UInt8} (hs : s.length ≤ 1048576) (h : (Cf N s).isSome = true) : Uh N s = (BP s, 0) := by
  unfold Uh; rw [if_neg (by omega), if_pos h]
theorem Io (s : List UInt8) : (BP s).length ≤ 6 * s.length + 2 := by
  unfold BP
  have := q_len s
  simp only [List.length_cons, List.length_append, List.length_nil]; omega
theorem Nr {n : Nat} (h : n ≤ 1000000000) : Bn n 1 := by unfold Bn; omega
theorem N7 (a : ApiValue) (h7 : (a.kind == 7) = false) (rc : ApiValue → Option (List UInt8)) (k4 : List Int → Option (List UInt8)) : ∀ (xs : List ApiValue) (b : Bool) (n : Nat) (out : List UInt8), (b = true ↔ n = 0) → n ≤ 1000000 → n + xs.length ≤ 1000000 → out.length + (wrI b xs).length ≤ 1000000000 → (∀ x, x ∈ xs → rc x = some (wrV x)) →
    BK N a rc k4 xs (n : Int) (out.map AP) = k4 ((out ++ wrI b xs).map AP)
  | [], b, n, out, _, _, _, _, _ => by rw [BK, wrI, List.append_nil]
  | x :: xs, b, n, out, hb, hn, hx, hl, hr => by
    simp only [List.length_cons] at hx
    rw [wrI] at hl
    simp only [List.length_append] at hl
    rw [BK]
    simp only [AO, h7, Bool.false_eq_true, if_false]
    have step : ∀ o : List UInt8, o.length + (wrV x).length + (wrI false xs).length ≤ 1000000000 → (Option.bind (rc x) fun y19 => grd (Bn ((o.map AP).length + y19.length) 1) (BK N a rc k4 xs ((n : Int) + 1) (o.map AP ++ List.map AP y19))) = k4 ((o ++ (wrV x ++ wrI false xs)).map AP) := by
      intro o ho
      rw [hr x (by simp), Option.bind_some, AL (Nr (by rw [List.length_map]; omega)), ← List.map_append, show (n : Int) + 1 = ((n + 1 : Nat) : Int) by simp]
      rw [N7 a h7 rc k4 xs false (n + 1) (o ++ wrV x) (by simp) (by omega) (by omega) (by simp; omega) fun y hy => hr y (by simp [hy])]
      simp
    rw [wrI]
    cases b
    · have hn0 : n ≠ 0 := fun e => by have := hb.2 e; cases this
      simp only [Bool.false_eq_true, if_false, List.length_cons, List.length_nil] at hl
      rw [if_pos (by simp; omega), AL (Nr (by rw [List.length_map]; omega))]
      have e : (out.map AP ++ [44] : List Int) = (out ++ [44]).map AP := by simp [AP]
      rw [e, step (out ++ [44]) (by simp; omega)]
      simp
    · have hn0 : n = 0 := hb.1 rfl
      subst hn0
      simp only [if_true, List.length_nil] at hl
      rw [if_neg (by simp), step out (by omega)]
      simp
theorem OU (a : ApiValue) (h7 : (a.kind == 7) = true) (rc : ApiValue → Option (List UInt8)) (k4 : List Int → Option (List UInt8)) (hN : 2000 ≤ N) : ∀ (xs : List ApiValue) (pre ks : List (List UInt8)) (b : Bool) (out : List UInt8), a.keys = pre ++ ks → ks.length = xs.length → (b = true ↔ pre.length = 0) → pre.length + xs.length ≤ 1000000 → out.length + (wrM b ks xs).length ≤ 1000000000 → (∀ k, k ∈ ks → (Cf N k).isSome = true ∧ k.length ≤ 1000) → (∀ x, x ∈ xs → rc x = some (wrV x)) →
    BK N a rc k4 xs (pre.length : Int) (out.map AP) = k4 ((out ++ wrM b ks xs).map AP)
  | [], pre, ks, b, out, _, hl, _, _, _, _, _ => by
    have : ks = [] := List.length_eq_zero_iff.1 (by simpa using hl)
    subst this
    rw [BK, wrM, List.append_nil]
    intros; simp_all
  | x :: xs, pre, [], b, out, _, hl, _, _, _, _, _ => by simp at hl
  | x :: xs, pre, k :: ks, b, out, hk, hkl, hb, hx, hl, hq, hr => by
    simp only [List.length_cons] at hx hkl
    obtain ⟨hq1, hq2⟩ := hq k (by simp)
    have hql := Io k
    rw [wrM] at hl
    simp only [List.length_append, List.length_cons] at hl
    rw [BK]
    simp only [AO, h7, if_true]
    have step : ∀ o : List UInt8, o.length + (BP k).length + 1 + (wrV x).length + (wrM false ks xs).length ≤ 1000000000 → (Option.bind (idx a.keys (pre.length : Int)) fun x16 => Option.bind (FZ N x16) fun y17 => grd (Bn ((o.map AP).length + y17.1.length) 1) (grd (Bn ((o.map AP ++ List.map AP y17.1).length + 1) 1)
      (Option.bind (rc x) fun y19 => grd (Bn (((o.map AP ++ List.map AP y17.1) ++ [58]).length + y19.length) 1) (BK N a rc k4 xs ((pre.length : Int) + 1) (((o.map AP ++ List.map AP y17.1) ++ [58]) ++ List.map AP y19))))) = k4 ((o ++ (BP k ++ (58 :: (wrV x ++ wrM false ks xs)))).map AP) := by
      intro o ho
      rw [hk, TK, Option.bind_some, Sc k (.inl (by omega)), Option.bind_some, SA (by omega) hq1]
      dsimp only
      rw [AL (Nr (by rw [List.length_map]; omega)), AL (Nr (by simp only [List.length_append, List.length_map]; omega)), hr x (by simp), Option.bind_some, AL (Nr (by simp only [List.length_append, List.length_map, List.length_cons, List.length_nil]; omega))]
      have e : (((o.map AP ++ List.map AP (BP k)) ++ [58]) ++ List.map AP (wrV x) : List Int) = (o ++ BP k ++ [58] ++ wrV x).map AP := by simp [AP]
      rw [e, Ms pre k, OU a h7 rc k4 hN xs (pre ++ [k]) ks false _ (by rw [hk]; simp) (by simpa using hkl) (by simp) (by simp; omega) (by simp; omega) (fun y hy => hq y (by simp [hy])) (fun y hy => hr y (by simp [hy]))]
      simp
    rw [wrM]
    cases b
    · have hn0 : pre.length ≠ 0 := fun e => by have := hb.2 e; cases this
      simp only [Bool.false_eq_true, if_false, List.length_cons, List.length_nil] at hl
      rw [if_pos (by simp only [decide_eq_true_eq]; omega), AL (Nr (by rw [List.length_map]; omega))]
      have e : (out.map AP ++ [44] : List Int) = (out ++ [44]).map AP := by simp [AP]
      rw [e, step (out ++ [44]) (by simp; omega)]
      simp
    · have hn0 : pre.length = 0 := hb.1 rfl
      simp only [if_true, List.length_nil] at hl
      rw [if_neg (by simp only [decide_eq_true_eq]; omega), step out (by omega)]
      simp
theorem Nu : ∀ (e : Nat) (v : ApiValue), okW e v → Ed N v = true → (wrV v).length + 1850 ≤ 3700 * ED v
  | 0, v, h, _ => by have := h.pos; omega
  | e + 1, v, h, hs => by
    have ht := h.text; have hsub := h.sub; have hkl := h.klen
    rw [GA]
    cases NP hs with
    | word k hkw => rcases hkw with rfl | rfl | rfl <;> (simp only [wrV]; decide +revert) <;> simp [wrV, Ba]
    | num s _ => simp only at ht; simp [wrV, Ba]; omega
    | str s _ =>
      simp only at ht
      have := Io s
      simp [wrV, Ba]; omega
    | arr xs hx =>
      simp only at hsub
      have key : ∀ (b : Bool) (ys : List ApiValue), (∀ y, y ∈ ys → okW e y ∧ Ed N y = true) → (wrI b ys).length ≤ 3700 * Ba ys := by
        intro b ys
        induction ys generalizing b with
        | nil => intro _; simp [wrI]
        | cons y ys ih =>
          intro hy
          have h1 := Nu e y (hy y (by simp)).1 (hy y (by simp)).2
          have h2 := ih false fun z hz => hy z (by simp [hz])
          rw [wrI, Ba]
          simp only [List.length_append]
          have : (if b = true then ([] : List UInt8) else [44]).length ≤ 1 := by cases b <;> simp
          omega
      have := key true xs fun y hy => ⟨hsub y hy, hx y hy⟩
      simp [wrV]; omega
    | obj ks xs hl hd hx =>
      simp only at hsub hkl
      have key : ∀ (b : Bool) (ks : List (List UInt8)) (ys : List ApiValue), (∀ k, k ∈ ks → k.length ≤ 300) → (∀ y, y ∈ ys → okW e y ∧ Ed N y = true) → (wrM b ks ys).length ≤ 3700 * Ba ys := by
        intro b ks ys
        induction ys generalizing b ks with
        | nil => intro _ _; cases ks <;> simp [wrM]
        | cons y ys ih =>
          intro hk hy
          cases ks with
          | nil => simp [wrM]
          | cons k ks =>
            have h1 := Nu e y (hy y (by simp)).1 (hy y (by simp)).2
            have h2 := ih false ks (fun z hz => hk z (by simp [hz])) fun z hz => hy z (by simp [hz])
            have h3 := Io k
            have h4 := hk k (by simp)
            rw [wrM, Ba]
            simp only [List.length_append, List.length_cons]
            have : (if b = true then ([] : List UInt8) else [44]).length ≤ 1 := by cases b <;> simp
            omega
      have := key true ks xs hkl fun y hy => ⟨hsub y hy, hx y hy⟩
      simp [wrV]; omega
theorem AHk {e : Nat} {xs : List ApiValue} (b : Bool) (h : ∀ y, y ∈ xs → okW e y ∧ Ed N y = true) : (wrI b xs).length ≤ 3700 * Ba xs := by
  induction xs generalizing b with
  | nil => simp [wrI]
  | cons y ys ih =>
    have h1 := Nu (N := N) e y (h y (by simp)).1 (h y (by simp)).2
    have h2 := ih false fun z hz => h z (by simp [hz])
    rw [wrI, Ba]
    simp only [List.length_append]
    have : (if b = true then ([] : List UInt8) else [44]).length ≤ 1 := by cases b <;> simp
    omega
theorem AAk {e : Nat} {xs : List ApiValue} {ks : List (List UInt8)} (b : Bool) (hk : ∀ k, k ∈ ks → k.length ≤ 300) (h : ∀ y, y ∈ xs → okW e y ∧ Ed N y = true) : (wrM b ks xs).length ≤ 3700 * Ba xs := by
  induction xs generalizing b ks with
  | nil => cases ks <;> simp [wrM]
  | cons y ys ih =>
    cases ks with
    | nil => simp [wrM]
    | cons k ks =>
      have h1 := Nu (N := N) e y (h y (by simp)).1 (h y (by simp)).2
      have h2 := ih (ks := ks) false (fun z hz => hk z (by simp [hz])) fun z hz => h z (by simp [hz])
      have h3 := Io k
      have h4 := hk k (by simp)
      rw [wrM, Ba]
      simp only [List.length_append, List.length_cons]
      have : (if b = true then ([] : List UInt8) else [44]).length ≤ 1 := by cases b <;> simp
      omega
theorem P6 (hN : 2000 ≤ N) : ∀ (D e : Nat) (v : ApiValue), okW e v → e ≤ D → ED v ≤ 20000 → Ed N v = true → Cr N D v = some (wrV v)
  | 0, e, v, h, he, _, _ => by have := h.pos; omega
  | D + 1, e, v, h, he, hc, hs => by
    obtain ⟨e, rfl⟩ : ∃ k, e = k + 1 := ⟨e - 1, by have := h.pos; omega⟩
    have ht := h.text; have hi := h.items; have hkl := h.klen; have hsub := h.sub
    rw [GA] at hc
    rw [Cr]
    cases NP hs with
    | word k hkw => rcases hkw with rfl | rfl | rfl <;> rfl
    | num s _ => rfl
    | str s hv =>
      simp only at ht
      rw [if_neg (by simp), if_neg (by simp), if_neg (by simp), if_neg (by simp), if_pos (by rfl), Sc s (.inl (by omega)), Option.bind_some, SA (by omega) hv]
      rfl
    | arr xs hx =>
      simp only at hi hsub hc
      have hw := AHk (N := N) true fun y hy => ⟨hsub y hy, hx y hy⟩
      have := N7 (N := N) ⟨6, [], [], xs⟩ rfl (Cr N D) (fun j3 => grd (Ac (([91] : List UInt8).length + (List.map EY j3).length)) (grd (Ac ((([91] : List UInt8) ++ (List.map EY j3)).length + ([93] : List UInt8).length)) (some ((([91] : List UInt8) ++ (List.map EY j3)) ++ ([93] : List UInt8))))) xs true 0 [] (by simp) (by omega) (by omega) (by simp; omega) fun x hm => P6 hN D e x (hsub x hm) (by omega) (by have := PP hm; omega) (hx x hm)
      rw [if_neg (by simp), if_neg (by simp), if_neg (by simp), if_neg (by simp), if_neg (by simp)]
      simp only [AO]
      rw [JC (by omega)]
      refine Eq.trans this ?_
      rw [JC (by rw [Fb]; simp; omega), JC (by rw [Fb]; simp; omega), Fb]
      simp [wrV]
    | obj ks xs hl hd hx =>
      simp only at hi hsub hc hkl
      have hw := AAk (N := N) true hkl fun y hy => ⟨hsub y hy, hx y hy⟩
      have hall : ∀ k, k ∈ ks → (Cf N k).isSome = true := by
        unfold Iz at hd
        rw [Bool.and_eq_true, List.all_eq_true] at hd
        exact hd.2
      have := OU (N := N) ⟨7, [], ks, xs⟩ rfl (Cr N D) (fun j3 => grd (Ac (([123] : List UInt8).length + (List.map EY j3).length)) (grd (Ac ((([123] : List UInt8) ++ (List.map EY j3)).length + ([125] : List UInt8).length)) (some ((([123] : List UInt8) ++ (List.map EY j3)) ++ ([125] : List UInt8))))) hN xs [] ks true [] rfl hl (by simp) (by simp; omega) (by simp; omega) (fun k hk => ⟨hall k hk, by have := hkl k hk; omega⟩) fun x hm => P6 hN D e x (hsub x hm) (by omega) (by have := PP hm; omega) (hx x hm)
      rw [if_neg (by simp), if_neg (by simp), if_neg (by simp), if_neg (by simp), if_neg (by simp)]
      simp only [AO]
      rw [JC (by omega)]
      refine Eq.trans this ?_
      rw [JC (by rw [Fb]; simp; omega), JC (by rw [Fb]; simp; omega), Fb]
      simp [wrV]
end
end Go.VM
namespace Go.VM
theorem Ry : ∀ (ks : List (List UInt8)) (xs : List ApiValue), ks.length = xs.length → ks.Nodup → (ks.map fun k => (JM ks xs k).1) = xs
  | [], [], _, _ => rfl
  | k :: ks, x :: xs, h, hn => by
    rw [List.nodup_cons] at hn
    have ih := Ry ks xs (by simpa using h) hn.2
    rw [List.map_cons]
    congr 1
    · simp [JM]
    · conv => rhs; rw [← ih]
      apply List.map_congr_left
      intro y hy
      have : ¬ k = y := fun e => hn.1 (e ▸ hy)
      rw [JM, if_neg (by simpa using this)]
theorem ADA {ks : List (List UInt8)} {xs : List ApiValue} (h : ks.length = xs.length) (hn : ks.Nodup) : ((Ia ks).map fun k => (JM ks xs k).1).Perm xs := by
  have := (HV ks).map fun k => (JM ks xs k).1
  rw [Ry ks xs h hn] at this
  exact this
theorem ZB {xs ys : List ApiValue} (h : xs.Perm ys) : Ba xs = Ba ys := by
  induction h with
  | nil => rfl
  | cons x _ ih => rw [Ba, Ba, ih]
  | swap x y l => simp only [Ba]; omega
  | trans _ _ h1 h2 => rw [h1, h2]
theorem YP {xs ys : List ApiValue} (h : xs.Perm ys) : Dr xs = Dr ys := by
  induction h with
  | nil => rfl
  | cons x _ ih => rw [Dr, Dr, ih]
  | swap x y l => simp only [Dr]; omega
  | trans _ _ h1 h2 => rw [h1, h2]
section
variable {N : Nat}
theorem Yt {l m : List (List UInt8)} (h : l.Perm m) : Iz N l = Iz N m := by
  unfold Iz
  have e1 : decide l.Nodup = decide m.Nodup := by rw [decide_eq_decide]; exact h.nodup_iff
  have e2 : (l.all fun k => (Cf N k).isSome) = m.all fun k => (Cf N k).isSome := by
    rw [Bool.eq_iff_iff, List.all_eq_true, List.all_eq_true]
    exact ⟨fun k x hx => k x (h.mem_iff.2 hx), fun k x hx => k x (h.mem_iff.1 hx)⟩
  rw [e1, e2]
theorem OW {ks : List (List UInt8)} (h : Iz N ks = true) : ks.Nodup := by
  unfold Iz at h
  rw [Bool.and_eq_true, decide_eq_true_eq] at h
  exact h.1
theorem R4 {ks : List (List UInt8)} (h : Iz N ks = true) : ∀ k, k ∈ ks → (Cf N k).isSome = true := by
  unfold Iz at h
  rw [Bool.and_eq_true, List.all_eq_true] at h
  exact h.2
theorem AGZ (xs : List ApiValue) : FW ⟨6, [], [], xs⟩ = ⟨6, [], [], xs.map FW⟩ := by rw [FW, Kz]; rfl
theorem AAc (ks : List (List UInt8)) (xs : List ApiValue) : FW ⟨7, [], ks, xs⟩ = ⟨7, [], Ia ks, (Ia ks).map fun k => (JM ks (xs.map FW) k).1⟩ := by rw [FW, Kz]; rfl
theorem Kn {k : Int} {s : List UInt8} (h : k ≠ 6) : FW ⟨k, s, [], []⟩ = ⟨k, s, [], []⟩ := by rw [FW, if_neg (by simpa using h), HY]; rfl
theorem Mi : ∀ (e : Nat) (v : ApiValue), okW e v → Ed N v = true → okW e (FW v) ∧ Ed N (FW v) = true ∧ ED (FW v) = ED v ∧ GK (FW v) = GK v
  | 0, v, h, _ => by have := h.pos; omega
  | e + 1, v, h, hs => by
    have ht := h.text; have hsub := h.sub; have hkl := h.klen; have hk := h.keys; have hi := h.items
    cases NP hs with
    | word k hkw => rw [Kn (by omega)]; exact ⟨h, hs, rfl, rfl⟩
    | num s _ => rw [Kn (by decide)]; exact ⟨h, hs, rfl, rfl⟩
    | str s _ => rw [Kn (by decide)]; exact ⟨h, hs, rfl, rfl⟩
    | arr xs hx =>
      simp only at hsub hi
      have ih := fun x hm => Mi e x (hsub x hm) (hx x hm)
      have hc : ∀ ys : List ApiValue, (∀ y, y ∈ ys → ED (FW y) = ED y ∧ GK (FW y) = GK y) → Ba (ys.map FW) = Ba ys ∧ Dr (ys.map FW) = Dr ys := by
        intro ys
        induction ys with
        | nil => intro _; exact ⟨rfl, rfl⟩
        | cons y ys ih2 =>
          intro hy
          have h1 := hy y (by simp)
          have h2 := ih2 fun z hz => hy z (by simp [hz])
          simp only [List.map_cons, Ba, Dr, h1.1, h1.2, h2.1, h2.2, and_self]
      obtain ⟨c1, c2⟩ := hc xs fun y hy => ⟨(ih y hy).2.2.1, (ih y hy).2.2.2⟩
      rw [AGZ]
      refine ⟨.mk _ (by simp) (by simp) (by simp) (by simpa using hi) fun x hm => ?_, ?_, ?_, ?_⟩
      · simp only [List.mem_map] at hm
        obtain ⟨y, hy, rfl⟩ := hm
        exact (ih y hy).1
      · refine (Shp.arr (xs.map FW) fun x hm => ?_).b
        simp only [List.mem_map] at hm
        obtain ⟨y, hy, rfl⟩ := hm
        exact (ih y hy).2.1
      · rw [GA, GA]; simp only [c1]
      · rw [JZ, JZ]; simp only [c2]
    | obj ks xs hl hd hx =>
      simp only at hsub hi hkl hk
      have ih := fun x hm => Mi e x (hsub x hm) (hx x hm)
      have hc : ∀ ys : List ApiValue, (∀ y, y ∈ ys → ED (FW y) = ED y ∧ GK (FW y) = GK y) → Ba (ys.map FW) = Ba ys ∧ Dr (ys.map FW) = Dr ys := by
        intro ys
        induction ys with
        | nil => intro _; exact ⟨rfl, rfl⟩
        | cons y ys ih2 =>
          intro hy
          have h1 := hy y (by simp)
          have h2 := ih2 fun z hz => hy z (by simp [hz])
          simp only [List.map_cons, Ba, Dr, h1.1, h1.2, h2.1, h2.2, and_self]
      obtain ⟨c1, c2⟩ := hc xs fun y hy => ⟨(ih y hy).2.2.1, (ih y hy).2.2.2⟩
      have hp := ADA (ks := ks) (xs := xs.map FW) (by simpa using hl) (OW hd)
      have hpk := HV ks
      have hlen := hp.length_eq
      rw [AAc]
      refine ⟨.mk _ (by simp) (by rw [hpk.length_eq]; exact hk) (fun k hkm => hkl k (hpk.mem_iff.1 hkm)) (by simp only []; rw [hlen]; simpa using hi) fun x hm => ?_, ?_, ?_, ?_⟩
      · have hm := hp.mem_iff.1 hm
        simp only [List.mem_map] at hm
        obtain ⟨y, hy, rfl⟩ := hm
        exact (ih y hy).1
      · refine (Shp.obj _ _ (by simp) (by rw [Yt hpk]; exact hd) fun x hm => ?_).b
        have hm := hp.mem_iff.1 hm
        simp only [List.mem_map] at hm
        obtain ⟨y, hy, rfl⟩ := hm
        exact (ih y hy).2.1
      · rw [GA, GA]; simp only [ZB hp, c1]
      · rw [JZ, JZ]; simp only [YP hp, c2]
theorem Pb (k2 : Int → Option Bool) : ∀ (ks : List (List UInt8)) (n : Nat), n + 301 * ks.length ≤ 1000000 → (∀ k, k ∈ ks → k.length ≤ 300) → ∃ m : Nat, m ≤ n + 301 * ks.length ∧ Cv N k2 ks (n : Int) = k2 (m : Int)
  | [], n, _, _ => ⟨n, by omega, by rw [Cv]⟩
  | k :: ks, n, hn, hk => by
    simp only [List.length_cons] at hn
    have h1 := hk k (by simp)
    obtain ⟨m, h2, h3⟩ := Pb k2 ks (n + k.length) (by omega) fun x hx => hk x (by simp [hx])
    refine ⟨m, by simp only [List.length_cons]; omega, ?_⟩
    rw [Cv, show (n : Int) + (k.length : Int) = ((n + k.length : Nat) : Int) by simp, FN (by omega), h3]
theorem QK (rc : ApiValue → Option Bool) (k7 : Unit → Option Bool) : ∀ xs : List ApiValue, (∀ x, x ∈ xs → rc x = some false) → Ch N rc k7 xs = k7 ()
  | [], _ => by rw [Ch]
  | x :: xs, h => by rw [Ch, h x (by simp), Option.bind_some, if_neg (by simp), QK rc k7 xs fun y hy => h y (by simp [hy])]
theorem AAU : ∀ (D e : Nat) (v : ApiValue), okW e v → e ≤ D → Dh N D v = some false
  | 0, e, v, h, he => by have := h.pos; omega
  | D + 1, e, v, h, he => by
    obtain ⟨e, rfl⟩ : ∃ k, e = k + 1 := ⟨e - 1, by have := h.pos; omega⟩
    have ht := h.text; have hk := h.keys; have hi := h.items
    rw [Dh]
    simp only [AO]
    rw [JC (by omega)]
    obtain ⟨m, h1, h2⟩ := Pb (N := N) (fun j1 => if decide (j1 > 1048576) = true then some true else grd (Ac v.items.length) (Ch N (Dh N D) (fun j6 => some false) v.items)) v.keys v.text.length (by omega) h.klen
    refine h2.trans ?_
    rw [if_neg (by simp; omega), JC (by omega), QK _ _ _ fun x hx => AAU D e x (h.sub x hx) (by omega)]
def UW (N : Nat) (v : ApiValue) : Bool := decide (GK v ≤ 64) && Ed N v
theorem AFu (hN : 2000 ≤ N) {v : ApiValue} (h : okW 70 v) (hc : ED v ≤ 280) : H6 N v = some (if UW N v = true then (wrV (FW v), 0) else ([], 8)) := by
  unfold H6
  rw [AFg hN h (by omega), Option.bind_some]
  show (if UW N v = true then _ else _) = _
  by_cases hv : UW N v = true
  · rw [if_pos hv, if_pos hv, AAU N 70 v h (by omega), Option.bind_some, if_neg (by simp)]
    have hs : Ed N v = true := by unfold UW at hv; rw [Bool.and_eq_true] at hv; exact hv.2
    obtain ⟨o1, o2, o3, o4⟩ := Mi (N := N) 70 v h hs
    have hl := Nu (N := N) 70 (FW v) o1 o2
    rw [QH hN N 70 v h (by omega) hs, Option.bind_some, P6 hN N 70 (FW v) o1 (by omega) (by omega) o2, Option.bind_some, if_neg (by simp only [decide_eq_true_eq]; omega)]
  · rw [if_neg hv, if_neg hv]
theorem SV (hN : 2000 ≤ N) {v : ApiValue} (h : okW 70 v) (hc : ED v ≤ 280) : Fh N v = some (if UW N v = true then (wrV (FW v), 0) else ([], 8)) := by
  unfold Fh
  rw [AFu hN h hc, Option.bind_some]
end
end Go.VM
namespace Go.VM
section
variable {N : Nat} {l : List UInt8}
end
end Go.VM
namespace Go.VM
section
variable {N : Nat}
theorem AFo {t : List UInt8} {r n : Nat} (h : IC t = some (r, n)) (u : List UInt8) : IC (t.take n ++ u) = some (r, n) := by
  match t, h with
  | [], h => cases h
  | a :: t, h =>
    simp only [IC] at h
    by_cases c1 : a.toNat < 128
    · rw [if_pos c1] at h
      simp only [Option.some.injEq, Prod.mk.injEq] at h; obtain ⟨rfl, rfl⟩ := h
      simp [IC, c1]
    rw [if_neg c1] at h
    by_cases c2 : a.toNat / 32 = 6
    · rw [if_pos c2] at h
      match t, h with
      | [], h => cases h
      | b :: t, h =>
        simp only at h
        split at h
        · rename_i hc
          simp only [Option.some.injEq, Prod.mk.injEq] at h; obtain ⟨rfl, rfl⟩ := h
          simp only [List.take, List.cons_append, List.nil_append, IC]
          rw [if_neg c1, if_pos c2, if_pos hc]
        · cases h
    rw [if_neg c2] at h
    by_cases c3 : a.toNat / 16 = 14
    · rw [if_pos c3] at h
      match t, h with
      | [], h => cases h
      | [_], h => cases h
      | b :: c :: t, h =>
        simp only at h
        split at h
        · rename_i hc
          simp only [Option.some.injEq, Prod.mk.injEq] at h; obtain ⟨rfl, rfl⟩ := h
          simp only [List.take, List.cons_append, List.nil_append, IC]
          rw [if_neg c1, if_neg c2, if_pos c3, if_pos hc]
        · cases h
    rw [if_neg c3] at h
    by_cases c4 : a.toNat / 8 = 30
    · rw [if_pos c4] at h
      match t, h with
      | [], h => cases h
      | [_], h => cases h
      | [_, _], h => cases h
      | b :: c :: d :: t, h =>
        simp only at h
        split at h
        · rename_i hc
          simp only [Option.some.injEq, Prod.mk.injEq] at h; obtain ⟨rfl, rfl⟩ := h
          simp only [List.take, List.cons_append, List.nil_append, IC]
          rw [if_neg c1, if_neg c2, if_neg c3, if_pos c4, if_pos hc]
        · cases h
    · rw [if_neg c4] at h; cases h
theorem ACb {a : UInt8} {t : List UInt8} {r n : Nat} (h : IC (a :: t) = some (r, n)) (ha : ¬ a.toNat < 128) : ∀ c ∈ (a :: t).take n, ¬ c.toNat < 128 := by
  simp only [IC] at h
  rw [if_neg ha] at h
  by_cases c2 : a.toNat / 32 = 6
  · rw [if_pos c2] at h
    match t, h with
    | [], h => cases h
    | b :: t, h =>
      simp only at h
      split at h
      · rename_i hc
        simp only [Option.some.injEq, Prod.mk.injEq] at h; obtain ⟨rfl, rfl⟩ := h
        have h1 := hc.1
        simp only [DI, decide_eq_true_eq] at h1
        simp only [List.take, List.mem_cons, List.not_mem_nil, or_false]
        rintro c (rfl | rfl) <;> omega
      · cases h
  rw [if_neg c2] at h
  by_cases c3 : a.toNat / 16 = 14
  · rw [if_pos c3] at h
    match t, h with
    | [], h => cases h
    | [_], h => cases h
    | b :: c :: t, h =>
      simp only at h
      split at h
      · rename_i hc
        simp only [Option.some.injEq, Prod.mk.injEq] at h; obtain ⟨rfl, rfl⟩ := h
        have h1 := hc.1
        have h2 := hc.2.1
        simp only [DI, decide_eq_true_eq] at h1 h2
        simp only [List.take, List.mem_cons, List.not_mem_nil, or_false]
        rintro c (rfl | rfl | rfl) <;> omega
      · cases h
  rw [if_neg c3] at h
  by_cases c4 : a.toNat / 8 = 30
  · rw [if_pos c4] at h
    match t, h with
    | [], h => cases h
    | [_], h => cases h
    | [_, _], h => cases h
    | b :: c :: d :: t, h =>
      simp only at h
      split at h
      · rename_i hc
        simp only [Option.some.injEq, Prod.mk.injEq] at h; obtain ⟨rfl, rfl⟩ := h
        have h1 := hc.1
        have h2 := hc.2.1
        have h3 := hc.2.2.1
        simp only [DI, decide_eq_true_eq] at h1 h2 h3
        simp only [List.take, List.mem_cons, List.not_mem_nil, or_false]
        rintro c (rfl | rfl | rfl | rfl) <;> omega
      · cases h
  · rw [if_neg c4] at h; cases h
theorem Vm {a : UInt8} {t : List UInt8} (ha : a.toNat < 128) : IC (a :: t) = some (a.toNat, 1) := by
  simp only [IC]; rw [if_pos ha]
theorem AF8 {c : UInt8} (h : ¬ c.toNat < 128) : qB c = [c] := by
  unfold qB qN
  rw [if_neg (by omega), if_neg (by omega), if_neg (by omega), if_neg (by omega), if_neg (by omega), if_neg (by omega), if_neg (by omega), if_neg (by omega)]
  simp
theorem ADw : ∀ l : List UInt8, (∀ c ∈ l, ¬ c.toNat < 128) → l.flatMap qB = l
  | [], _ => rfl
  | c :: l, h => by
    rw [List.flatMap_cons, AF8 (h c (by simp)), ADw l fun x hx => h x (by simp [hx])]; rfl
theorem AEV {x : UInt8} {r : List UInt8} (hx : x ≠ 117) : Gz (92 :: x :: r) = none := by
  cases h : Gz (92 :: x :: r) with
  | none => rfl
  | some n =>
    obtain ⟨_, _, r', e⟩ := Mk h
    simp only [List.cons.injEq] at e
    exact absurd e.2.1 hx
theorem ZG {x b : UInt8} {r : List UInt8} (hx : x ≠ 117) (hs : KY x.toNat = some b) : Ic (92 :: x :: r) = ([b], 2, 0) := by
  rw [NA (AEV hx)]
  simp only [Kv, hs]
theorem AD4 {c : UInt8} {r : List UInt8} (hc : c.toNat < 32) : Ic (92 :: 117 :: 48 :: 48 :: Ll.getD (c.toNat / 16) 0 :: Ll.getD (c.toNat % 16) 0 :: r) = ([c], 6, 0) := by
  have f := EA (f := fun n => if n < 32 then ([48, 48, Ll.getD (n / 16) 0, Ll.getD (n % 16) 0].all Jj && decide (UK 0 [48, 48, Ll.getD (n / 16) 0, Ll.getD (n % 16) 0] = n)) else true) (g := fun _ => true) (by kernel_rfl) c
  simp only [hc, if_true, Bool.and_eq_true, decide_eq_true_eq] at f
  have hu : Gz (92 :: 117 :: 48 :: 48 :: Ll.getD (c.toNat / 16) 0 :: Ll.getD (c.toNat % 16) 0 :: r) = some c.toNat := by
    simp only [Gz]
    rw [if_pos ⟨trivial, trivial, f.1⟩, f.2]
  rw [NI hu, if_neg (by omega), if_neg (by omega)]
  unfold KI
  rw [if_pos (by omega)]
  simp
theorem Rq {k i : Nat} {t out x : List UInt8} {n : Nat} (h : Ic (92 :: t) = (x, n, 0)) : Dn (k + 1) (92 :: t) i out = Dn k ((92 :: t).drop n) (i + n) (out ++ x) := by
  rw [Dn, if_neg (by decide), if_pos (by decide), h, if_pos rfl]
theorem AIe {c : UInt8} (hc : c.toNat < 128) (k i : Nat) (rest out : List UInt8) : Dn (k + 1) (qB c ++ rest) i out = Dn k rest (i + (qB c).length) (out ++ [c]) := by
  have ch : ∀ n : Nat, n < 256 → c.toNat = n → c = UInt8.ofNat n := fun n h e => UInt8.toNat_inj.1 (by rw [e, toNat_ofNat h])
  have letter : ∀ (x b : UInt8), qB c = [92, x] → x ≠ 117 → KY x.toNat = some b → b = c → Dn (k + 1) (qB c ++ rest) i out = Dn k rest (i + (qB c).length) (out ++ [c]) := by
    rintro x b hq hx hs rfl
    rw [hq]
    exact Rq (ZG hx hs)
  by_cases h1 : c.toNat = 34
  · exact letter 34 34 (by unfold qB qN; rw [if_pos h1]) (by decide) (by decide) (ch 34 (by decide) h1).symm
  by_cases h2 : c.toNat = 92
  · exact letter 92 92 (by unfold qB qN; rw [if_neg h1, if_pos h2]) (by decide) (by decide) (ch 92 (by decide) h2).symm
  by_cases h3 : c.toNat = 8
  · exact letter 98 8 (by unfold qB qN; rw [if_neg h1, if_neg h2, if_pos h3]) (by decide) (by decide) (ch 8 (by decide) h3).symm
  by_cases h4 : c.toNat = 12
  · exact letter 102 12 (by unfold qB qN; rw [if_neg h1, if_neg h2, if_neg h3, if_pos h4]) (by decide) (by decide) (ch 12 (by decide) h4).symm
  by_cases h5 : c.toNat = 10
  · exact letter 110 10 (by unfold qB qN; rw [if_neg h1, if_neg h2, if_neg h3, if_neg h4, if_pos h5]) (by decide) (by decide) (ch 10 (by decide) h5).symm
  by_cases h6 : c.toNat = 13
  · exact letter 114 13 (by unfold qB qN; rw [if_neg h1, if_neg h2, if_neg h3, if_neg h4, if_neg h5, if_pos h6]) (by decide) (by decide) (ch 13 (by decide) h6).symm
  by_cases h7 : c.toNat = 9
  · exact letter 116 9 (by unfold qB qN; rw [if_neg h1, if_neg h2, if_neg h3, if_neg h4, if_neg h5, if_neg h6, if_pos h7]) (by decide) (by decide) (ch 9 (by decide) h7).symm
  by_cases h8 : c.toNat < 32
  · have hq : qB c = [92, 117, 48, 48, Ll.getD (c.toNat / 16) 0, Ll.getD (c.toNat % 16) 0] := by
      unfold qB qN; rw [if_neg h1, if_neg h2, if_neg h3, if_neg h4, if_neg h5, if_neg h6, if_neg h7, if_pos h8]
    rw [hq]
    exact Rq (AD4 h8)
  · have hq : qB c = [c] := by
      unfold qB qN; rw [if_neg h1, if_neg h2, if_neg h3, if_neg h4, if_neg h5, if_neg h6, if_neg h7, if_neg h8]; simp
    rw [hq, List.cons_append, List.nil_append, Dn, if_neg h1, if_neg h2, if_neg h8, Vm hc]
    rfl
end
end Go.VM
namespace Go.VM
def Rs (c : UInt8) : Bool := c == 44 || c == 93 || c == 125 || wsB c
def Stop (r : List UInt8) : Prop := ∀ c t, r = c :: t → Rs c = true
theorem AEt : Stop [] := fun _ _ h => by cases h
theorem GN {c : UInt8} {t : List UInt8} (h : Rs c = true) : Stop (c :: t) := fun c' t' e => by cases e; exact h
def AllWs (w : List UInt8) : Prop := ∀ c, c ∈ w → wsB c = true
theorem GH : AllWs [] := fun _ h => by cases h
theorem AAa : ∀ {w : List UInt8}, AllWs w → ∀ {t : List UInt8}, (∀ c r, t = c :: r → wsB c = false) → (w ++ t).takeWhile wsB = w
  | [], _, [], _ => rfl
  | [], _, c :: r, h => by rw [List.nil_append, List.takeWhile_cons, h c r rfl]; rfl
  | x :: w, hw, t, h => by
    rw [List.cons_append, List.takeWhile_cons, hw x (by simp)]
    simp only [if_true]
    rw [AAa (fun c hc => hw c (by simp [hc])) h]
theorem Stop.ws {w t : List UInt8} (hw : AllWs w) (h : Stop t) : Stop (w ++ t) := by
  cases w with
  | nil => exact h
  | cons c w => exact GN (by unfold Rs; rw [hw c (by simp)]; simp)
section
variable {N : Nat} {l : List UInt8}
theorem KG {i : Nat} {w t : List UInt8} (h : l.drop i = w ++ t) (hw : AllWs w) (ht : ∀ c r, t = c :: r → wsB c = false) : J7 N l i = LA N (i + w.length) t := by
  unfold J7
  rw [h, AAa hw ht, ← List.drop_drop, h, List.drop_left]
theorem ABN {p : Nat} {c : UInt8} {r : List UInt8} (h : J6.contains c = true) : LA N p (c :: r) = (ApiToken.mk 2 [c] p, ((p + 1 : Nat) : Int), 0) := by rw [JP, if_pos h]
theorem Qh (rest : List UInt8) : ∀ (k' : Nat) (t : List UInt8), (Cf k' t).isSome = true → ∀ (k i : Nat) (out : List UInt8), t.length < k → Dn k (t.flatMap qB ++ 34 :: rest) i out = (out ++ t, i + (t.flatMap qB).length + 1, 0)
  | 0, t, h, k, i, out, hk => by cases h
  | k' + 1, [], h, k, i, out, hk => by
    obtain ⟨k, rfl⟩ : ∃ j, k = j + 1 := ⟨k - 1, by simp at hk; omega⟩
    simp [Dn]
  | k' + 1, c :: t, h, k, i, out, hk => by
    rw [Cf] at h
    cases hd : IC (c :: t) with
    | none => rw [hd] at h; cases h
    | some p =>
      obtain ⟨r, n⟩ := p
      rw [hd] at h
      simp only [Option.isSome_map] at h
      obtain ⟨e1, e2, _⟩ := Qd hd
      obtain ⟨k, rfl⟩ : ∃ j, k = j + 1 := ⟨k - 1, by simp only [List.length_cons] at hk; omega⟩
      have hsplit : c :: t = (c :: t).take n ++ (c :: t).drop n := (List.take_append_drop n _).symm
      have ih := Qh rest k' ((c :: t).drop n) h k
      have hlen : ((c :: t).drop n).length < k := by rw [List.length_drop]; omega
      by_cases hc : c.toNat < 128
      · rw [Vm hc] at hd
        simp only [Option.some.injEq, Prod.mk.injEq] at hd
        obtain ⟨_, rfl⟩ := hd
        rw [List.flatMap_cons, List.append_assoc, AIe hc, show t = (c :: t).drop 1 from rfl, ih _ _ hlen]
        simp only [List.drop_succ_cons, List.drop_zero, List.length_append, List.append_assoc, List.singleton_append]
        congr 2; omega
      · have hh := ADw _ (ACb hd hc)
        have hq : (c :: t).flatMap qB = (c :: t).take n ++ ((c :: t).drop n).flatMap qB := by
          conv => lhs; rw [hsplit]
          rw [List.flatMap_append, hh]
        rw [hq, List.append_assoc]
        have hpre := AFo hd (((c :: t).drop n).flatMap qB ++ 34 :: rest)
        have hl : ((c :: t).take n).length = n := by rw [List.length_take]; omega
        obtain ⟨u, hu⟩ : ∃ u, (c :: t).take n ++ (((c :: t).drop n).flatMap qB ++ 34 :: rest) = c :: u := by
          obtain ⟨m, rfl⟩ : ∃ m, n = m + 1 := ⟨n - 1, by omega⟩
          exact ⟨_, rfl⟩
        have hdrop : (c :: u).drop n = ((c :: t).drop n).flatMap qB ++ 34 :: rest := by
          rw [← hu, List.drop_append, List.drop_of_length_le (by omega), hl, Nat.sub_self]; rfl
        have htake : (c :: u).take n = (c :: t).take n := by
          rw [← hu, List.take_append, hl, Nat.sub_self, List.take_take, Nat.min_self]; simp
        rw [hu] at hpre ⊢
        rw [Dn, if_neg (by omega), if_neg (by omega), if_neg (by omega), hpre]
        simp only []
        rw [hdrop, htake, ih _ _ hlen, List.append_assoc, ← hsplit]
        congr 2
        rw [List.length_append, hl]; omega
theorem M9 {p : Nat} {s rest : List UInt8} (h : (Cf N s).isSome = true) (hN : s.length < N) : LA N p (BP s ++ rest) = (ApiToken.mk 3 s p, ((p + (BP s).length : Nat) : Int), 0) := by
  have e : BP s ++ rest = 34 :: (s.flatMap qB ++ 34 :: rest) := by simp [BP]
  rw [e, JP, if_neg (by decide), if_pos (by decide), Qh rest N s h N (p + 1) [] hN]
  simp only [if_true, List.nil_append]
  congr 2
  simp [BP]; omega
theorem IZ {set x rest : List UInt8} (hr : ∀ c t, rest = c :: t → set.contains c = false) : Bz set (x ++ rest) = Bz set x := by
  cases x with
  | nil =>
    cases rest with
    | nil => rfl
    | cons c t => simpa [Bz] using hr c t rfl
  | cons c x => rfl
theorem KW {x rest : List UInt8} (hr : ∀ c t, rest = c :: t → Cq c = false) : DU (x ++ rest) = DU x := by
  unfold DU
  induction x with
  | nil =>
    cases rest with
    | nil => rfl
    | cons c t => simp [hr c t rfl]
  | cons c x ih =>
    simp only [List.cons_append, List.takeWhile_cons]
    cases Cq c
    · rfl
    · simp only [if_true, List.length_cons, ih]
theorem XI {c : UInt8} (h : Rs c = true) : Cq c = false ∧ ([45] : List UInt8).contains c = false ∧ ([48] : List UInt8).contains c = false ∧ ([46] : List UInt8).contains c = false ∧ ([101, 69] : List UInt8).contains c = false ∧ ([43, 45] : List UInt8).contains c = false ∧ Bu c = false := by
  have := EA (f := fun n => if Rs (UInt8.ofNat n) = true then (Cq (UInt8.ofNat n) || ([45] : List UInt8).contains (UInt8.ofNat n) || ([48] : List UInt8).contains (UInt8.ofNat n) || ([46] : List UInt8).contains (UInt8.ofNat n) || ([101, 69] : List UInt8).contains (UInt8.ofNat n) || ([43, 45] : List UInt8).contains (UInt8.ofNat n) || Bu (UInt8.ofNat n)) else false) (g := fun _ => false) (by kernel_rfl) c
  simp only [UInt8.ofNat_toNat, h, if_true, Bool.or_eq_false_iff] at this
  obtain ⟨⟨⟨⟨⟨⟨a, b⟩, c⟩, d⟩, e⟩, f⟩, g⟩ := this
  exact ⟨a, b, c, d, e, f, g⟩
theorem Ha {x rest : List UInt8} {a : Nat} (h : a ≤ x.length) : (x ++ rest).drop a = x.drop a ++ rest := by
  rw [List.drop_append, show a - x.length = 0 by omega, List.drop_zero]
theorem ABW {x rest : List UInt8} (hr : Stop rest) : Ck (x ++ rest) = Ck x := by
  have hs : ∀ c t, rest = c :: t → _ := fun c t e => XI (hr c t e)
  have hd := KW (x := x) fun c t e => (hs c t e).1
  have sg : AY (x ++ rest) = AY x := by unfold AY; rw [IZ fun c t e => (hs c t e).2.1]
  have it : ∀ y : List UInt8, CY (y ++ rest) = CY y := fun y => by unfold CY; rw [IZ fun c t e => (hs c t e).2.2.1, KW fun c t e => (hs c t e).1]
  have d1 : ∀ y : List UInt8, DU ((y ++ rest).drop 1) = DU (y.drop 1) ∨ y = [] := fun y => by
    cases y with
    | nil => exact .inr rfl
    | cons a y => exact .inl (by rw [Ha (by simp), KW fun c t e => (hs c t e).1])
  have fr : ∀ y : List UInt8, Dk (y ++ rest) = Dk y := fun y => by
    unfold Dk
    rw [IZ fun c t e => (hs c t e).2.2.2.1]
    rcases d1 y with e | rfl
    · rw [e]
    · rw [if_neg (by simp [Bz]), if_neg (by simp [Bz])]
  have ex : ∀ y : List UInt8, IJ (y ++ rest) = IJ y := fun y => by
    cases y with
    | nil =>
      unfold IJ
      rw [IZ fun c t e => (hs c t e).2.2.2.2.1, if_neg (by simp [Bz]), if_neg (by simp [Bz])]
    | cons a y =>
      have eg : F3 (a :: y ++ rest) = F3 (a :: y) := by
        unfold F3
        rw [Ha (by simp), IZ fun c t e => (hs c t e).2.2.2.2.2.1]
      have ele : 1 + F3 (a :: y) ≤ (a :: y).length ∨ F3 (a :: y) = 0 := by
        unfold F3
        split
        · rename_i h; have := FL h; simp at this ⊢; omega
        · exact .inr rfl
      have hr2 : DU ((a :: y ++ rest).drop (1 + F3 (a :: y))) = DU ((a :: y).drop (1 + F3 (a :: y))) := by
        rcases ele with h | h
        · rw [Ha h, KW fun c t e => (hs c t e).1]
        · rw [h, Ha (by simp), KW fun c t e => (hs c t e).1]
      unfold IJ
      rw [IZ fun c t e => (hs c t e).2.2.2.2.1, eg, hr2]
  have h1 := Mg x
  have h2 := Mm (x.drop (AY x))
  have h3 := MW (x.drop (AY x + CY (x.drop (AY x))))
  simp only [List.length_drop] at h2 h3
  unfold Ck
  rw [sg, Ha h1, it, Ha (by omega), fr, Ha (by omega), ex]
theorem Xf {s : List UInt8} (h0 : s ≠ []) (hn : Ck s = s.length) : ∃ c r, s = c :: r ∧ (c = 45 ∨ Cq c = true) := by
  obtain ⟨sg, W, F, FR, P, EX, h⟩ := SI h0 hn
  rcases h.sg with e | e
  · cases hW : W with
    | nil => exact absurd hW h.Wn
    | cons c W' =>
      have := h.Wd
      rw [hW, List.all_cons, Bool.and_eq_true] at this
      exact ⟨c, _, by rw [h.eq, e, hW]; rfl, .inr this.1⟩
  · exact ⟨45, _, by rw [h.eq, e]; rfl, .inl rfl⟩
theorem Xk {c : UInt8} (hc : c = 45 ∨ Cq c = true) : wsB c = false ∧ J6.contains c = false ∧ ¬ c.toNat = 34 ∧ (([45] : List UInt8).contains c || Cq c) = true := by
  have hcN : c.toNat = 45 ∨ (48 ≤ c.toNat ∧ c.toNat ≤ 57) := by
    rcases hc with rfl | hc
    · exact .inl rfl
    · exact .inr (Iw hc)
  refine ⟨?_, ?_, by omega, ?_⟩
  · simp only [wsB, wsN, Bool.or_eq_false_iff, decide_eq_false_iff_not]; omega
  · have := EA (f := fun n => if decide (n = 45 ∨ (48 ≤ n ∧ n ≤ 57)) = true then J6.contains (UInt8.ofNat n) else false) (g := fun _ => false) (by kernel_rfl) c
    simp only [UInt8.ofNat_toNat, decide_eq_true hcN, if_true] at this
    exact this
  · rcases hc with rfl | hc
    · rfl
    · rw [hc]; simp
theorem AGT {p : Nat} {s rest : List UInt8} (h0 : s ≠ []) (hn : Ck s = s.length) (hr : Stop rest) : LA N p (s ++ rest) = (ApiToken.mk 4 s p, ((p + s.length : Nat) : Int), 0) := by
  obtain ⟨c, r, rfl, hc⟩ := Xf h0 hn
  obtain ⟨_, h2, h3, h4⟩ := Xk hc
  have e := ABW (x := c :: r) hr
  rw [hn] at e
  rw [List.cons_append] at e ⊢
  rw [JP, if_neg (by rw [h2]; decide), if_neg h3, if_pos h4, e, if_neg (by simp)]
  have : (c :: (r ++ rest)).take (c :: r).length = c :: r := by rw [← List.cons_append, List.take_left]
  rw [this]
theorem Zw {x rest : List UInt8} (hx : x.all Bu = true) (hr : Stop rest) : (x ++ rest).takeWhile Bu = x := by
  induction x with
  | nil =>
    cases rest with
    | nil => rfl
    | cons c t => rw [List.nil_append, List.takeWhile_cons, (XI (hr c t rfl)).2.2.2.2.2.2]; rfl
  | cons c x ih =>
    rw [List.all_cons, Bool.and_eq_true] at hx
    rw [List.cons_append, List.takeWhile_cons, hx.1, if_pos rfl, ih hx.2]
theorem AED {p : Nat} {x rest : List UInt8} (hx : isWord x = true) (hr : Stop rest) : LA N p (x ++ rest) = (ApiToken.mk 5 x p, ((p + x.length : Nat) : Int), 0) := by
  have key : ∃ c r, x = c :: r ∧ x.all Bu = true ∧ J6.contains c = false ∧ ¬ c.toNat = 34 ∧ (([45] : List UInt8).contains c || Cq c) = false := by
    unfold isWord at hx
    simp only [Bool.or_eq_true, beq_iff_eq] at hx
    rcases hx with rfl | rfl | rfl <;> exact ⟨_, _, rfl, by decide, by decide, by decide, by decide⟩
  obtain ⟨c, r, rfl, h1, h2, h3, h4⟩ := key
  have hw := Zw h1 hr
  rw [List.cons_append] at hw ⊢
  rw [JP, if_neg (by rw [h2]; decide), if_neg h3, if_neg (by rw [h4]; decide), hw, if_pos hx]
end
end Go.VM
namespace Go.VM
section
variable {N : Nat} {l : List UInt8}
def noT : ApiToken := ApiToken.mk 0 [] 0
def AAb (N : Nat) (l : List UInt8) (E : Nat) (t : ApiToken) (next : Int) (p : JPsr) : Option (ApiValue × Int × Int) :=
  Option.bind (DN N p t) fun q => if q.2 != 0 then some (BM, t.at_, q.2) else if t.kind == 1 then some (q.1.out, l.length, 0) else F8 N l E next q.1
theorem NL (hb : l.length ≤ 2 ^ 40) (hN : l.length + 10 ≤ N) (E i : Nat) (hi : i ≤ l.length) (p : JPsr) :
    F8 N l (E + 1) i p = if (J7 N l i).2.2 ≠ 0 then some (BM, (i : Int), (J7 N l i).2.2) else AAb N l E (J7 N l i).1 (J7 N l i).2.1 p := by
  rw [F8, AEN hb hN hi, Option.bind_some]
  by_cases h : (J7 N l i).2.2 = 0
  · rw [if_neg (by simp [h]), if_neg (by simp [h])]; rfl
  · rw [if_pos (by simp [h]), if_pos h]
def inA (st : List ApiValue) (out v : ApiValue) (w : Int) (n : Int) : JPsr := ⟨st ++ [v], w, n, out⟩
def QC (st : List ApiValue) (out v : ApiValue) (n : Int) : JPsr := CV ⟨st, 0, n, out⟩ v
def Lm (items : List ApiValue) : ApiValue := ⟨6, [], [], items⟩
def EQ (keys : List (List UInt8)) (items : List ApiValue) : ApiValue := ⟨7, [], keys, items⟩
theorem Y8 (st : List ApiValue) (out v x : ApiValue) (n : Int) : QC (st ++ [v]) out x n = inA st out { v with items := v.items ++ [x] } 5 n := by
  simp [QC, inA, CV]
def OE (v : ApiValue) : List UInt8 := if v.kind == 7 then [125] else [93]
theorem AAX (st : List ApiValue) (out v : ApiValue) (w n : Int) : ET (inA st out v w n) = OE v := by simp [ET, inA, OE]
theorem QD (p : JPsr) (w : Int) (v : ApiValue) : CV { p with want := w } v = CV p v := by unfold CV; rfl
theorem ACm {st : List ApiValue} {out v : ApiValue} {w n : Int} {p : Int} (hw : w = 1 ∨ w = 3 ∨ w = 5) : De (inA st out v w n) (ApiToken.mk 2 (OE v) p) = true := by
  have e : K9 (inA st out v w n) (ApiToken.mk 2 (OE v) p) = true := by unfold K9; rw [AAX]; simp
  have hw2 : (inA st out v w n).want = w := rfl
  unfold De
  rw [e, hw2]
  rcases hw with rfl | rfl | rfl <;> simp
theorem QN {st : List ApiValue} {out v : ApiValue} {w n : Int} {p : Int} (hw : w = 1 ∨ w = 3 ∨ w = 5) : DN N (inA st out v w n) (ApiToken.mk 2 (OE v) p) = some (QC st out v n, 0) := by
  unfold DN
  rw [if_neg (by rw [ACm hw]; decide), if_pos (show ((ApiToken.mk 2 (OE v) p).kind == 2) = true from rfl)]
  have e : (inA st out v w n).stack.getLast? = some v := by simp [inA]
  have e2 : ({ inA st out v w n with stack := (inA st out v w n).stack.dropLast } : JPsr) = ⟨st, w, n, out⟩ := by simp [inA]
  unfold JU
  rw [e, e2]
  unfold OE
  cases v.kind == 7
  · exact congrArg some (congrArg (·, (0 : Int)) (QD ⟨st, 0, n, out⟩ w v))
  · exact congrArg some (congrArg (·, (0 : Int)) (QD ⟨st, 0, n, out⟩ w v))
theorem Lt {st : List ApiValue} {out v : ApiValue} {n : Int} {p : Int} : DN N (inA st out v 5 n) (ApiToken.mk 2 [44] p) = some (inA st out v (if v.kind == 7 then 2 else 0) n, 0) := by
  have e : (inA st out v 5 n).stack.getLast? = some v := by simp [inA]
  have hf : De (inA st out v 5 n) (ApiToken.mk 2 [44] p) = true := by unfold De; simp [inA]
  unfold DN
  rw [if_neg (by rw [hf]; decide), if_pos (show ((ApiToken.mk 2 [44] p).kind == 2) = true from rfl)]
  unfold JU
  rw [e]
  rfl
theorem Pt {st : List ApiValue} {out v : ApiValue} {n : Int} {p : Int} : DN N (inA st out v 4 n) (ApiToken.mk 2 [58] p) = some (inA st out v 0 n, 0) := by
  have hf : De (inA st out v 4 n) (ApiToken.mk 2 [58] p) = true := by unfold De; simp [inA]
  unfold DN
  rw [if_neg (by rw [hf]; decide), if_pos (show ((ApiToken.mk 2 [58] p).kind == 2) = true from rfl)]
  rfl
theorem AKD {st : List ApiValue} {out v : ApiValue} {w n : Int} {t : ApiToken} (hw : w = 2 ∨ w = 3) (h2 : w = 3 → (t.kind == 2 && t.text == OE v) = false) : De (inA st out v w n) t = (t.kind == 3) := by
  unfold De K9
  rw [AAX]
  have hw2 : (inA st out v w n).want = w := rfl
  rw [hw2]
  rcases hw with rfl | rfl
  · simp
  · rw [h2 rfl]; simp
theorem QJ {st : List ApiValue} {out : ApiValue} {keys : List (List UInt8)} {items : List ApiValue} {w n : Int} {s : List UInt8} {p : Int} (hw : w = 2 ∨ w = 3) :
    DN N (inA st out (EQ keys items) w n) (ApiToken.mk 3 s p) = if s ∈ keys then some (inA st out (EQ keys items) w n, 143) else some (inA st out (EQ (keys ++ [s]) items) 4 n, 0) := by
  have hf : De (inA st out (EQ keys items) w n) (ApiToken.mk 3 s p) = true := by rw [AKD hw (fun _ => rfl)]; rfl
  have hw2 : ((inA st out (EQ keys items) w n).want == 2 || (inA st out (EQ keys items) w n).want == 3) = true := by rcases hw with rfl | rfl <;> rfl
  have e : (inA st out (EQ keys items) w n).stack.getLast? = some (EQ keys items) := by simp [inA]
  unfold DN
  rw [if_neg (by rw [hf]; decide), if_neg (fun h => absurd (show ((3 : Int) == 2) = true from h) (by decide)), if_pos hw2]
  unfold M8
  rw [e]
  dsimp only
  by_cases h : s ∈ keys
  · rw [if_pos h, if_pos (show s ∈ (EQ keys items).keys from h)]
  · rw [if_neg h, if_neg (show ¬ s ∈ (EQ keys items).keys from h)]; simp [inA, EQ]
theorem NG {st : List ApiValue} {out : ApiValue} {w n : Int} {p : Int} (c : UInt8) (hc : c = 91 ∨ c = 123) (hf : De ⟨st, w, n, out⟩ (ApiToken.mk 2 [c] p) = true) :
    DN N ⟨st, w, n, out⟩ (ApiToken.mk 2 [c] p) = some (if c = 91 then EM ⟨st, w, n, out⟩ 6 1 else EM ⟨st, w, n, out⟩ 7 3) := by
  unfold DN
  rw [if_neg (by rw [hf]; decide), if_pos (show ((ApiToken.mk 2 [c] p).kind == 2) = true from rfl)]
  rcases hc with rfl | rfl <;> rfl
def Y3 (N : Nat) (t : ApiToken) : ApiValue := if t.kind == 4 then ⟨4, (NB N t.text).1, [], []⟩ else if t.kind == 5 then ⟨Kt t.text, [], [], []⟩ else ⟨5, t.text, [], []⟩
theorem ZK {st : List ApiValue} {out : ApiValue} {w n : Int} {t : ApiToken} (hw : w = 0 ∨ w = 1) (hf : De ⟨st, w, n, out⟩ t = true) (hk : t.kind = 3 ∨ t.kind = 4 ∨ t.kind = 5) (hn : t.kind = 4 → Bd N t.text = some (NB N t.text)) :
    DN N ⟨st, w, n, out⟩ t = some (if t.kind = 4 ∧ (NB N t.text).2 ≠ 0 then (⟨st, w, n, out⟩, 144) else IG ⟨st, w, n, out⟩ (Y3 N t)) := by
  have h1 : (t.kind == 2) = false := by rcases hk with h | h | h <;> rw [h] <;> rfl
  have h2 : (w == 2 || w == 3) = false := by rcases hw with h | h <;> rw [h] <;> rfl
  have h3 : (t.kind == 1) = false := by rcases hk with h | h | h <;> rw [h] <;> rfl
  unfold DN
  rw [if_neg (by rw [hf]; decide), if_neg (by rw [h1]; decide)]
  dsimp only
  rw [if_neg (by rw [h2]; decide), if_neg (by rw [h3]; decide)]
  unfold Kg Y3
  rcases hk with h | h | h
  · rw [h]; rfl
  · rw [hn h, h]
    simp only [BEq.rfl, if_true, Option.bind_some, true_and, bne_iff_ne, ne_eq, ite_not]
    split <;> rfl
  · rw [h]; rfl
theorem AFy {st : List ApiValue} {out v : ApiValue} {w n : Int} : IG ⟨st, w, n, out⟩ v = if n + 1 > 20000 then (⟨st, w, n + 1, out⟩, 142) else (QC st out v (n + 1), 0) := by
  unfold IG
  split
  · rfl
  · exact congrArg (·, (0 : Int)) (QD ⟨st, 0, n + 1, out⟩ w v)
theorem Nb {st : List ApiValue} {out : ApiValue} {w n : Int} {kd w' : Int} (hl : st.length < 64) : EM ⟨st, w, n, out⟩ kd w' = if n + 1 > 20000 then (⟨st, w, n + 1, out⟩, 142) else (inA st out ⟨kd, [], [], []⟩ w' (n + 1), 0) := by
  unfold EM
  rw [if_neg (by simp only []; omega)]
  rfl
end
end Go.VM
namespace Go.VM
section
variable {N : Nat} {l : List UInt8}
end
end Go.VM
