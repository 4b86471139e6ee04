import Derived.Test.YtooeobhihpkicaaGreatDoorL4
import Derived.Test.YtooeobhihpkicaaGreatDoorRd
import Derived.KernelRfl
set_option linter.unusedVariables false
set_option linter.unusedSimpArgs false
namespace Go.VM
section
variable {N : Nat}
theorem AEo {v : ApiValue} (ht : v.text.length ≤ 1000000) (hN : 2000000 ≤ N) : FN N v = some (if v.kind == 4 then V4 N v.text else if v.kind == 5 then (Em N v.text).isSome else v.text == []) := by
  unfold FN
  cases h4 : v.kind == 4
  · cases h5 : v.kind == 5
    · rfl
    · simp only [Bool.false_eq_true, if_false, if_true]
      rw [M8 (by omega) (by omega)]; rfl
  · simp only [if_true]
    rw [(AGR (N := N) v.text (by omega) (by omega)).2, Option.bind_some]
    unfold V4
    cases (AAE N v.text).2 == 0 <;> simp
theorem AHL (hN : 2000000 ≤ N) : ∀ (ks seen : List (List UInt8)), (∀ k, k ∈ ks → k.length ≤ 1000000) → seen.Nodup → IG N ks seen = some (decide (seen ++ ks).Nodup && ks.all fun k => (Em N k).isSome)
  | [], seen, _, hs => by rw [IG, List.append_nil, decide_eq_true hs]; rfl
  | k :: ks, seen, hk, hs => by
    rw [IG]
    by_cases hin : k ∈ seen
    · rw [if_pos hin, decide_eq_false]
      · rfl
      · intro h
        rw [List.nodup_append] at h
        exact h.2.2 k hin k (by simp) rfl
    · have hk1 := hk k (by simp)
      rw [if_neg hin, M8 (by omega) (by omega), Option.bind_some, List.all_cons]
      cases (Em N k).isSome
      · simp
      · rw [if_pos rfl, AHL hN ks (seen ++ [k]) (fun y hy => hk y (by simp [hy])) (by rw [List.nodup_append]; exact ⟨hs, by simp, fun a ha b hb e => by simp at hb; subst hb; exact hin (e ▸ ha)⟩)]
        rw [List.append_assoc]; simp
theorem AFx {ks : List (List UInt8)} (hl : ks.length ≤ 1000000) (hN : 2000000 ≤ N) (hk : ∀ k, k ∈ ks → k.length ≤ 1000000) : GD N ks = some (JK N ks) := by
  unfold GD
  rw [Z5 (by omega), AHL hN ks [] hk (by simp)]; rfl
theorem ACv {α β : Type} (xs : List α) (ys : List β) (h : xs.length ≤ 1000000) (h2 : ys.length ≤ 1000000) : (wr .i64 ((xs.length : Int) + (ys.length : Int)) == 0) = (ys.isEmpty && xs.isEmpty) := by
  rw [A8 (by omega)]
  cases xs <;> cases ys <;> simp <;> omega
theorem OX {d : Nat} (rc : JsonwriteCounter → ApiValue → Int → Option (Bool × JsonwriteCounter)) : ∀ (xs : List ApiValue) (n : Nat), n + Ez xs ≤ 20000 → d ≤ 64 → (∀ x, x ∈ xs → ∀ n : Nat, n + Ho x ≤ 20000 → Ok (rc ⟨(n : Int)⟩ x ((d + 1 : Nat) : Int)) fun r => r.1 = (decide (d + 1 + IU x ≤ 64) && F8 N x) ∧ (r.1 = true → r.2.nodes = ((n + Ho x : Nat) : Int))) → (d + 1 ≤ 64) →
    Ok (BO N (d : Int) rc (fun j17 => some (true, JsonwriteCounter.mk j17)) xs (n : Int)) fun r => r.1 = (decide (d + 1 + FL xs ≤ 64) && Gt N xs) ∧ (r.1 = true → r.2.nodes = ((n + Ez xs : Nat) : Int))
  | [], n, _, _, _, hd => by
    rw [BO, FL, Gt, Ez]
    exact Ok.ret ⟨by simp; omega, fun _ => rfl⟩
  | x :: xs, n, hn, hd, hr, hd1 => by
    rw [Ez] at hn ⊢
    rw [BO, show (d : Int) + 1 = ((d + 1 : Nat) : Int) by omega, A8 (by omega), FL, Gt]
    refine (hr x (by simp) n (by omega)).bind fun r h => ?_
    cases e : r.1
    · rw [if_neg (by decide)]
      rw [e] at h
      refine Ok.ret ⟨?_, fun k => by cases k⟩
      have h1 := h.1.symm
      rw [Bool.and_eq_false_iff] at h1
      rcases h1 with h1 | h1
      · rw [decide_eq_false_iff_not] at h1
        rw [decide_eq_false (by omega)]; rfl
      · rw [h1]; simp
    · rw [if_pos rfl, h.2 e]
      rw [e] at h
      have h1 := h.1.symm
      rw [Bool.and_eq_true, decide_eq_true_eq] at h1
      refine (OX rc xs (n + Ho x) (by omega) hd (fun y hy => hr y (by simp [hy])) hd1).mono fun r2 h2 => ⟨?_, fun k => ?_⟩
      · rw [h2.1, h1.2]
        by_cases hx : d + 1 + FL xs ≤ 64
        · rw [decide_eq_true hx, decide_eq_true (by omega)]; simp
        · rw [decide_eq_false hx, decide_eq_false (by omega)]; simp
      · rw [h2.2 k]; congr 1; omega
def AEl (N : Nat) (v : ApiValue) : Bool := if v.kind == 4 then V4 N v.text else if v.kind == 5 then (Em N v.text).isSome else v.text == []
theorem Pz (v : ApiValue) : F8 N v = (decide (1 ≤ v.kind ∧ v.kind ≤ 7) && AEl N v && (if v.kind < 6 then v.keys.isEmpty && v.items.isEmpty else if v.kind == 6 then v.keys.isEmpty && Gt N v.items else decide (v.keys.length = v.items.length) && JK N v.keys && Gt N v.items)) := by
  obtain ⟨kind, text, keys, items⟩ := v
  rw [F8]
  unfold AEl
  simp only []
  by_cases h : 1 ≤ kind ∧ kind ≤ 7
  · have : kind = 1 ∨ kind = 2 ∨ kind = 3 ∨ kind = 4 ∨ kind = 5 ∨ kind = 6 ∨ kind = 7 := by omega
    rcases this with rfl | rfl | rfl | rfl | rfl | rfl | rfl <;> simp [Bool.and_assoc]
  · rw [decide_eq_false h]
    have e : ∀ k : Int, (1 ≤ k ∧ k ≤ 7) → (kind == k) = false := fun k hk => by simp; omega
    rw [e 1 (by omega), e 2 (by omega), e 3 (by omega), e 4 (by omega), e 5 (by omega), e 6 (by omega), e 7 (by omega)]
    simp
theorem Qn (hN : 2000000 ≤ N) : ∀ (D e d n : Nat) (v : ApiValue), okW e v → e ≤ D → d ≤ 64 → n + Ho v ≤ 20000 →
    Ok (BM N D ⟨(n : Int)⟩ v (d : Int)) fun r => r.1 = (decide (d + IU v ≤ 64) && F8 N v) ∧ (r.1 = true → r.2.nodes = ((n + Ho v : Nat) : Int))
  | 0, e, d, n, v, h, he, _, _ => by have := h.pos; omega
  | D + 1, e, d, n, v, h, he, hd, hn => by
    obtain ⟨e, rfl⟩ : ∃ k, e = k + 1 := ⟨e - 1, by have := h.pos; omega⟩
    have hi := h.items; have ht := h.text; have hk := h.keys; have hkl := h.klen; have hsub := h.sub
    have hcp := AEd v
    have hts : FN N v = some (AEl N v) := AEo (N := N) (v := v) (by omega) hN
    have hks := AFx (N := N) (ks := v.keys) (by omega) hN fun k h => by have := hkl k h; omega
    have hcnt := IJ v
    have hnest := Kw v
    have e1 : (n : Int) + 1 = ((n + 1 : Nat) : Int) := by omega
    have no : ∀ x : JsonwriteCounter, F8 N v = false ∨ ¬ d + IU v ≤ 64 → Ok (some (false, x)) fun r : Bool × JsonwriteCounter => r.1 = (decide (d + IU v ≤ 64) && F8 N v) ∧ (r.1 = true → r.2.nodes = ((n + Ho v : Nat) : Int)) := fun x hx => by
      refine Ok.ret ⟨?_, fun k => by cases k⟩
      rcases hx with hx | hx
      · rw [hx]; simp
      · rw [decide_eq_false hx]; rfl
    rw [BM]
    dsimp only
    rw [e1, A8 (by omega)]
    refine Ok.meet (fun j1 => j1 = !(decide (1 ≤ v.kind ∧ v.kind ≤ 7) && AEl N v)) ?_ ?_
    · rintro _ rfl
      cases hg : (decide (1 ≤ v.kind ∧ v.kind ≤ 7) && AEl N v)
      · rw [if_pos (by decide)]
        exact no _ (.inl (by rw [Pz, hg]; rfl))
      · have hse := Pz (N := N) v
        rw [hg, Bool.true_and] at hse
        rw [Bool.and_eq_true, decide_eq_true_eq] at hg
        rw [if_neg (by decide)]
        by_cases hk6 : v.kind < 6
        · rw [if_pos (by simpa using hk6)]
          rw [if_pos hk6] at hse
          rw [ACv v.items v.keys (by omega) (by omega)]
          have h67 : (v.kind == 6 || v.kind == 7) = false := by
            rw [Bool.or_eq_false_iff]; exact ⟨by simp; omega, by simp; omega⟩
          rw [h67] at hnest
          cases hb : (v.keys.isEmpty && v.items.isEmpty)
          · exact no _ (.inl (by rw [hse, hb]))
          · rw [hb] at hse
            rw [Bool.and_eq_true, List.isEmpty_iff, List.isEmpty_iff] at hb
            rw [hb.2] at hnest hcnt
            simp only [FL, Ez, Bool.false_eq_true, if_false] at hnest hcnt
            refine Ok.ret ⟨?_, fun _ => ?_⟩
            · rw [hse, hnest, decide_eq_true (by omega)]; rfl
            · show ((n + 1 : Nat) : Int) = _
              rw [hcnt]
        · rw [if_neg (by simpa using hk6)]
          rw [if_neg hk6] at hse
          have h67 : (v.kind == 6 || v.kind == 7) = true := by
            rw [Bool.or_eq_true]
            by_cases h6 : v.kind = 6
            · exact .inl (by simp [h6])
            · exact .inr (by simp; omega)
          rw [h67, if_pos rfl] at hnest
          by_cases hd64 : 64 ≤ d
          · rw [if_pos (by simp only [decide_eq_true_eq]; omega)]
            exact no _ (.inr (by omega))
          · rw [if_neg (by simp only [decide_eq_true_eq]; omega)]
            have loop := OX (N := N) (d := d) (BM N D) v.items (n + 1) (by omega) hd (fun x hx m hm => Qn hN D e (d + 1) m x (hsub x hx) (by omega) (by omega) hm) (by omega)
            have fin : F8 N v = Gt N v.items → Ok (AZ (fun j17 : Int => some (true, JsonwriteCounter.mk j17)) fun k18 => grd (Bi v.items.length) (BO N (d : Int) (BM N D) k18 v.items ((n + 1 : Nat) : Int))) fun r => r.1 = (decide (d + IU v ≤ 64) && F8 N v) ∧ (r.1 = true → r.2.nodes = ((n + Ho v : Nat) : Int)) := fun hs => by
              rw [Au, Z5 (by omega)]
              refine loop.mono fun r hr => ⟨?_, fun k => ?_⟩
              · rw [hr.1, hs, hnest, Nat.add_assoc]
              · rw [hr.2 k, hcnt]; congr 1; omega
            refine Ok.meet (fun j7 => j7 = (v.kind == 6 && !v.keys.isEmpty)) ?_ ?_
            · rintro _ rfl
              cases h6 : v.kind == 6
              · have h7 : (v.kind == 7) = true := by simp at h6; simp; omega
                rw [Bool.false_and, if_neg (by decide)]
                rw [h6, if_neg (by decide)] at hse
                refine Ok.meet (fun j11 => j11 = !(decide (v.keys.length = v.items.length) && JK N v.keys)) ?_ ?_
                · rintro _ rfl
                  cases hg2 : (decide (v.keys.length = v.items.length) && JK N v.keys)
                  · rw [if_pos (by decide)]; exact no _ (.inl (by rw [hse, hg2]; rfl))
                  · rw [if_neg (by decide)]; exact fin (by rw [hse, hg2]; rfl)
                · intro k12 hk12
                  rw [if_pos h7]
                  by_cases hl : v.keys.length = v.items.length
                  · rw [if_neg (by simp [hl]), hks, Option.bind_some]
                    exact hk12 _ (by rw [decide_eq_true hl, Bool.true_and])
                  · rw [if_pos (by simp; omega)]
                    exact hk12 _ (by rw [decide_eq_false hl]; rfl)
              · rw [h6, if_pos rfl] at hse
                have h7 : (v.kind == 7) = false := by simp at h6; simp; omega
                cases hke : v.keys.isEmpty
                · rw [if_pos (by decide)]; exact no _ (.inl (by rw [hse, hke]; rfl))
                · rw [if_neg (by decide)]
                  refine Ok.meet (fun j11 => j11 = false) ?_ ?_
                  · rintro _ rfl
                    rw [if_neg (by decide)]; exact fin (by rw [hse, hke]; rfl)
                  · intro k12 hk12
                    rw [h7, if_neg (by decide)]
                    exact hk12 _ rfl
            · intro k8 hk8
              cases h6 : v.kind == 6
              · rw [if_neg (by decide)]; exact hk8 _ (by rw [h6]; rfl)
              · rw [if_pos rfl]
                refine hk8 _ ?_
                rw [h6, Bool.true_and]
                cases v.keys <;> simp <;> omega
    · intro k2 hk2
      rw [if_neg (by simp only [decide_eq_true_eq]; omega)]
      by_cases h1 : v.kind < 1
      · rw [if_pos (by simpa using h1)]; exact hk2 _ (by rw [decide_eq_false (by omega)]; rfl)
      · rw [if_neg (by simpa using h1)]
        by_cases h7 : v.kind > 7
        · rw [if_pos (by simpa using h7)]; exact hk2 _ (by rw [decide_eq_false (by omega)]; rfl)
        · rw [if_neg (by simpa using h7), hts, Option.bind_some]
          exact hk2 _ (by rw [decide_eq_true (by omega), Bool.true_and])
theorem AAY (hN : 2000000 ≤ N) {v : ApiValue} (h : okW 70 v) (hc : Ho v ≤ 20000) : D8 N v = some (SE N v) := by
  unfold D8
  obtain ⟨r, h1, h2, _⟩ := Qn (N := N) hN N 70 0 0 v h (by omega) (by omega) (by omega)
  rw [show (0 : Int) = ((0 : Nat) : Int) from rfl, h1, Option.bind_some, h2, Nat.zero_add]
  rfl
end
end Go.VM
namespace Go.VM
def Wb (b : List UInt8) : JsonwriteWriter := ⟨⟨true, b⟩⟩
def itm (v : ApiValue) (x : Int) : ApiValue := v.items.getD x.toNat zeroV
def NU (v : ApiValue) (b : Bool) (l : List Int) : List UInt8 := if (v.kind == 7) = true then wrM b (l.map (kth v)) (l.map fun x => DU (itm v x)) else wrI b (l.map fun x => DU (itm v x))
theorem VG : ∀ {ks : List (List UInt8)} {ys : List ApiValue} {i : Nat}, ks.Nodup → ks.length = ys.length → (h : i < ks.length) → (h2 : i < ys.length) → Jc ks ys ks[i] = (ys[i], true)
  | k :: ks, y :: ys, 0, _, _, _, _ => by simp [Jc]
  | k :: ks, y :: ys, i + 1, hn, hl, h, h2 => by
    rw [List.nodup_cons] at hn
    have h' : i < ks.length := by simpa using h
    have hne : ¬ k = ks[i] := fun e => hn.1 (e ▸ List.getElem_mem h')
    simp only [List.getElem_cons_succ]
    rw [Jc, if_neg (by simpa using hne)]
    exact VG hn.2 (by simpa using hl) h' (by simpa using h2)
section
variable {N : Nat}
theorem Ii (w : JsonwriteWriter) (s : List UInt8) (h : w.builder.buf.length + s.length ≤ 1000000000) : AL N w s = some ((s.length : Int), (), Wb (w.builder.buf ++ s)) := by
  unfold AL CE
  cases hw : w.builder.addr
  · rw [if_neg (by decide), Option.bind_some, Aa (AEk (by simpa using h))]; rfl
  · rw [if_pos rfl, Option.bind_some, Aa (AEk h), hw]; rfl
theorem Py (hN : 2000000 ≤ N) (w : JsonwriteWriter) (s : List UInt8) (hs : (Em N s).isSome = true) (hl : s.length ≤ 1000000) (h : w.builder.buf.length + (I7 s).length ≤ 1000000000) : Ce N w s = some (Wb (w.builder.buf ++ I7 s)) := by
  unfold Ce
  rw [AAd s (.inl (by omega)), Option.bind_some, AAC (by omega) hs]
  dsimp only
  rw [Ii w _ h, Option.bind_some, if_neg (by simp only [decide_eq_true_eq]; omega)]
theorem AHN (hN : 2000000 ≤ N) (v : ApiValue) (rc : JsonwriteWriter → ApiValue → Option JsonwriteWriter) (k4 : JsonwriteWriter → Option JsonwriteWriter) : ∀ (l : List Int) (n : Nat) (b : Bool) (buf : List UInt8), (b = true ↔ n = 0) →
    (∀ x, x ∈ l → 0 ≤ x ∧ x.toNat < v.items.length ∧ ((v.kind == 7) = true → x.toNat < v.keys.length ∧ (Em N (kth v x)).isSome = true ∧ (kth v x).length ≤ 1000000)) →
    (∀ x, x ∈ l → ∀ buf : List UInt8, buf.length + (wrV (DU (itm v x))).length ≤ 1048576 → rc (Wb buf) (itm v x) = some (Wb (buf ++ wrV (DU (itm v x))))) → buf.length + (NU v b l).length ≤ 1048576 →
    Bc N v rc k4 l (n : Int) (Wb buf) = k4 (Wb (buf ++ NU v b l))
  | [], n, b, buf, _, _, _, _ => by
    rw [Bc]
    have : NU v b [] = [] := by
      unfold NU
      split
      · rw [List.map_nil, wrM]; intros; simp_all
      · rw [List.map_nil, wrI]
    rw [this, List.append_nil]
  | x :: l, n, b, buf, hb, hx, hr, hl => by
    obtain ⟨h0, hi, hk⟩ := hx x (by simp)
    have eit : idx v.items x = some (itm v x) := by
      unfold idx itm
      rw [if_pos h0, List.getElem?_eq_getElem hi, List.getD_eq_getElem?_getD, List.getElem?_eq_getElem hi]; rfl
    have sep : ∀ K : JsonwriteWriter → Option JsonwriteWriter, (if decide ((n : Int) > 0) = true then Option.bind (AL N (Wb buf) ([44] : List UInt8)) fun y14 => K y14.2.2 else K (Wb buf)) = K (Wb (buf ++ (if b then [] else [44]))) := fun K => by
      cases b
      · have hn0 : n ≠ 0 := fun e => by have := hb.2 e; cases this
        rw [if_pos (by simp only [decide_eq_true_eq]; omega), Ii _ _ (by show buf.length + _ ≤ _; simp only [List.length_cons, List.length_nil]; omega)]
        rfl
      · have hn0 : n = 0 := hb.1 rfl
        rw [if_neg (by simp only [decide_eq_true_eq]; omega)]
        simp
    have ih := fun buf' h => AHN hN v rc k4 l (n + 1) false buf' (by simp) (fun y hy => hx y (by simp [hy])) (fun y hy => hr y (by simp [hy])) h
    rw [Bc]
    refine (CZ sep).trans ?_
    dsimp only [Au]
    rw [eit]
    unfold NU at hl ih ⊢
    cases h7 : v.kind == 7
    · simp only [h7, Bool.false_eq_true, if_false, List.map_cons] at hl ih ⊢
      rw [wrI] at hl ⊢
      simp only [List.length_append] at hl
      rw [Option.bind_some, hr x (by simp) _ (by simp only [List.length_append]; omega), Option.bind_some, show (n : Int) + 1 = ((n + 1 : Nat) : Int) by omega, ih _ (by simp only [List.length_append]; omega)]
      simp
    · simp only [h7, if_true, List.map_cons] at hl ih ⊢
      rw [wrM] at hl ⊢
      simp only [List.length_append, List.length_cons] at hl
      obtain ⟨hk1, hk2, hk3⟩ := hk h7
      have eky : idx v.keys x = some (kth v x) := by
        unfold idx kth
        rw [if_pos h0, List.getElem?_eq_getElem hk1, List.getD_eq_getElem?_getD, List.getElem?_eq_getElem hk1]; rfl
      rw [eky, Option.bind_some, Py hN _ _ hk2 hk3 (by show (buf ++ _).length + _ ≤ _; simp only [List.length_append]; omega), Option.bind_some]
      rw [Ii _ _ (by show ((buf ++ _) ++ _).length + _ ≤ _; simp only [List.length_append, List.length_cons, List.length_nil]; omega), Option.bind_some]
      dsimp only [Wb]
      rw [Option.bind_some]
      have h2 := hr x (by simp) (((buf ++ (if b then [] else [44])) ++ I7 (kth v x)) ++ [58]) (by simp only [List.length_append, List.length_cons, List.length_nil]; omega)
      unfold Wb at h2
      rw [h2, Option.bind_some, show (n : Int) + 1 = ((n + 1 : Nat) : Int) by omega]
      have h3 := ih ((((buf ++ (if b then [] else [44])) ++ I7 (kth v x)) ++ [58]) ++ wrV (DU (itm v x))) (by simp only [List.length_append, List.length_cons, List.length_nil]; omega)
      unfold Wb at h3
      rw [h3]
      simp
theorem YZ (hN : 2000000 ≤ N) {e : Nat} {v : ApiValue} (hv : okW e v) (hs : F8 N v = true) (hk : v.kind = 6 ∨ v.kind = 7) : ∃ l, Di N v = some l ∧ (∀ x, x ∈ l → 0 ≤ x ∧ x.toNat < v.items.length ∧ ((v.kind == 7) = true → x.toNat < v.keys.length ∧ (Em N (kth v x)).isSome = true ∧ (kth v x).length ≤ 1000000)) ∧ l.length = v.items.length ∧
    (v.kind = 6 → (l.map fun x => DU (itm v x)) = v.items.map DU) ∧ (v.kind = 7 → l.map (kth v) = Gw v.keys ∧ (l.map fun x => DU (itm v x)) = (Gw v.keys).map fun k => (Jc v.keys (v.items.map DU) k).1) := by
  have hi := hv.items; have hkk := hv.keys; have hkl := hv.klen
  have idm : ∀ x, x ∈ Je v.items.length → 0 ≤ x ∧ x.toNat < v.items.length := fun x hx => by
    simp only [Je, List.mem_map, List.mem_range] at hx
    obtain ⟨i, h1, rfl⟩ := hx
    exact ⟨by omega, by simpa using h1⟩
  rcases hk with hk | hk
  · have h7 : (v.kind == 7) = false := by simp [hk]
    refine ⟨_, Zr h7 (by omega), fun x hx => ⟨(idm x hx).1, (idm x hx).2, fun h => by rw [h7] at h; cases h⟩, FD _, fun _ => ?_, fun h => by omega⟩
    refine List.ext_getElem (by simp [FD]) fun i h1 h2 => ?_
    have hi2 : i < v.items.length := by simpa using h2
    simp only [List.getElem_map, Je, List.getElem_range, itm, Int.toNat_natCast, List.getD_eq_getElem?_getD, List.getElem?_eq_getElem hi2, Option.getD_some]
  · have h7 : (v.kind == 7) = true := by simp [hk]
    have hse := Pz (N := N) v
    rw [hs, hk, if_neg (by decide), if_neg (by decide)] at hse
    have hse := hse.symm
    simp only [Bool.and_eq_true, decide_eq_true_eq] at hse
    obtain ⟨_, ⟨hl, hd⟩, _⟩ := hse
    have hnd := Kr hd
    obtain ⟨l, h1, h2, h3⟩ := Z6 (N := N) h7 hl hnd (by omega) (by omega)
    have hm : ∀ x, x ∈ l → 0 ≤ x ∧ x.toNat < v.items.length := fun x hx => idm x (h3.mem_iff.1 hx)
    have kk : ∀ x, x ∈ l → ∃ (h : x.toNat < v.keys.length), kth v x = v.keys[x.toNat] := fun x hx => by
      have hx2 : x.toNat < v.keys.length := by have := (hm x hx).2; omega
      exact ⟨hx2, by unfold kth; rw [List.getD_eq_getElem?_getD, List.getElem?_eq_getElem hx2]; rfl⟩
    refine ⟨l, h1, fun x hx => ⟨(hm x hx).1, (hm x hx).2, fun _ => ?_⟩, by rw [h3.length_eq, FD], fun h => by omega, fun _ => ⟨h2, ?_⟩⟩
    · obtain ⟨hx2, e⟩ := kk x hx
      rw [e]
      exact ⟨hx2, Zz hd _ (List.getElem_mem hx2), by have := hkl _ (List.getElem_mem hx2); omega⟩
    · rw [← h2, List.map_map]
      refine List.map_congr_left fun x hx => ?_
      obtain ⟨hx2, e⟩ := kk x hx
      have hx3 := (hm x hx).2
      show DU (itm v x) = (Jc v.keys (v.items.map DU) (kth v x)).1
      rw [e, VG hnd (by simpa using hl) hx2 (by simpa using hx3), List.getElem_map]
      unfold itm
      rw [List.getD_eq_getElem?_getD, List.getElem?_eq_getElem hx3]; rfl
theorem Ql (hN : 2000000 ≤ N) : ∀ (e D : Nat) (v : ApiValue) (w : JsonwriteWriter), okW e v → 2 * e ≤ D → F8 N v = true → w.builder.buf.length + (wrV (DU v)).length ≤ 1048576 → BX N D w v = some (Wb (w.builder.buf ++ wrV (DU v)))
  | 0, D, v, w, h, _, _, _ => by have := h.pos; omega
  | e + 1, D, v, w, hv, hD, hs, hl => by
    obtain ⟨D, rfl⟩ : ∃ k, D = k + 2 := ⟨D - 2, by omega⟩
    have ht := hv.text; have hsub := hv.sub
    rw [BX]
    unfold Bh
    rw [Option.bind_some]
    dsimp only
    rw [if_neg (by simp only [decide_eq_true_eq]; omega)]
    have both : ∀ (left right : List UInt8), left.length = 1 → right.length = 1 → (v.kind = 6 ∨ v.kind = 7) → (wrV (DU v) = left ++ ((if (v.kind == 7) = true then wrM true (DU v).keys (DU v).items else wrI true (DU v).items) ++ right)) → CQ N (D + 1) w v left right = some (Wb (w.builder.buf ++ wrV (DU v))) := by
      intro left right hll hrl hk hw
      obtain ⟨l, h1, h2, h3, h4, h5⟩ := YZ (N := N) hN hv hs hk
      have hbody : NU v true l = if (v.kind == 7) = true then wrM true (DU v).keys (DU v).items else wrI true (DU v).items := by
        unfold NU
        rcases hk with hk | hk
        · have ho : (DU v).items = v.items.map DU := by
            obtain ⟨kind, text, keys, items⟩ := v
            simp only at hk; subst hk
            rw [DU]; exact H6 items
          rw [if_neg (by simp [hk]), if_neg (by simp [hk]), h4 hk, ho]
        · have ho : (DU v).keys = Gw v.keys ∧ (DU v).items = (Gw v.keys).map fun k => (Jc v.keys (v.items.map DU) k).1 := by
            obtain ⟨kind, text, keys, items⟩ := v
            simp only at hk; subst hk
            rw [DU]; exact ⟨rfl, by rw [← H6]; rfl⟩
          rw [if_pos (by simp [hk]), if_pos (by simp [hk]), (h5 hk).1, (h5 hk).2, ho.1, ho.2]
      rw [hw] at hl ⊢
      rw [← hbody] at hl ⊢
      simp only [List.length_append] at hl
      have hn := hv.items
      rw [CQ, Ii w left (by omega), Option.bind_some]
      dsimp only [Au]
      rw [h1, Option.bind_some, Z5 (by omega), show (0 : Int) = ((0 : Nat) : Int) from rfl]
      rw [AHN hN v (BX N D) _ l 0 true (w.builder.buf ++ left) (by simp) h2 (fun x hx buf hb => ?_) (by simp only [List.length_append]; omega)]
      · rw [Ii _ right (by show ((w.builder.buf ++ left) ++ _).length + _ ≤ _; simp only [List.length_append]; omega), Option.bind_some]
        show some (Wb (((w.builder.buf ++ left) ++ NU v true l) ++ right)) = _
        simp
      · obtain ⟨q0, q1, _⟩ := h2 x hx
        have hmem : itm v x ∈ v.items := by
          unfold itm
          rw [List.getD_eq_getElem?_getD, List.getElem?_eq_getElem q1]; exact List.getElem_mem q1
        have hss : F8 N (itm v x) = true := by
          have hse := Pz (N := N) v
          rw [hs] at hse
          have hse := hse.symm
          have : Gt N v.items = true := by
            rcases hk with hk | hk <;> rw [hk] at hse <;> simp at hse
            · exact hse.2.2
            · exact hse.2.2
          exact LF this _ hmem
        exact Ql hN e D (itm v x) (Wb buf) (hsub _ hmem) (by omega) hss hb
    cases Y6 hs with
    | word k hk =>
      rw [Ir (by omega)] at hl ⊢
      rcases hk with rfl | rfl | rfl
      · show Option.bind (AL N w [110, 117, 108, 108]) (fun y => some y.2.2) = _
        rw [Ii _ _ (by simp only [List.length_cons, List.length_nil]; omega)]; rfl
      · show Option.bind (AL N w [102, 97, 108, 115, 101]) (fun y => some y.2.2) = _
        rw [Ii _ _ (by simp only [List.length_cons, List.length_nil]; omega)]; rfl
      · show Option.bind (AL N w [116, 114, 117, 101]) (fun y => some y.2.2) = _
        rw [Ii _ _ (by simp only [List.length_cons, List.length_nil]; omega)]; rfl
    | num s _ =>
      simp only at ht
      rw [Ir (by decide)] at hl ⊢
      show Option.bind (AL N w s) (fun y => some y.2.2) = _
      rw [Ii _ _ (by omega)]; rfl
    | str s hq =>
      simp only at ht
      have := L6 s
      rw [Ir (by decide)] at hl ⊢
      show Option.bind (Ce N w s) (fun y => some y) = _
      rw [Py hN _ _ hq (by omega) (by omega)]; rfl
    | arr xs _ =>
      show Option.bind (CQ N (D + 1) w ⟨6, [], [], xs⟩ [91] [93]) (fun y => some y) = _
      rw [both [91] [93] rfl rfl (.inl rfl) (by rw [ZX, wrV]; rfl)]; rfl
    | obj ks xs hl2 hd hx =>
      show Option.bind (CQ N (D + 1) w ⟨7, [], ks, xs⟩ [123] [125]) (fun y => some y) = _
      rw [both [123] [125] rfl rfl (.inr rfl) (by rw [ZQ, wrV]; rfl)]; rfl
theorem Mv (hN : 2000000 ≤ N) {v : ApiValue} (h : okW 70 v) (hc : Ho v ≤ 20000) (hl : F8 N v = true → (wrV (DU v)).length ≤ 1048576) : Cr N v = some (if SE N v = true then (wrV (DU v), 0) else ([], 8)) := by
  unfold Cr
  rw [AAY hN h hc, Option.bind_some]
  cases hw : SE N v
  · rfl
  · have hs : F8 N v = true := by unfold SE at hw; rw [Bool.and_eq_true] at hw; exact hw.2
    have hb := hl hs
    rw [if_pos rfl, Ql hN 70 N v _ h (by omega) hs (by simpa using hb), Option.bind_some]
    unfold Bh CV
    rw [Option.bind_some, if_pos rfl]
    refine (if_neg fun hh => ?_).trans rfl
    have h3 : ((([] ++ wrV (DU v) : List UInt8).length : Nat) : Int) > 1048576 := of_decide_eq_true hh
    rw [List.nil_append] at h3
    omega
end
end Go.VM
namespace Go.VM
theorem AH2 : J5 1099511627776 = some true := by kernel_rfl
section
variable {N : Nat}
theorem Kz : ∀ {a b : List (List UInt8)} {x y : List ApiValue} {k : List UInt8} {v : ApiValue}, a.length = x.length → k ∉ a → Jc (a ++ k :: b) (x ++ v :: y) k = (v, true)
  | [], b, [], y, k, v, _, _ => by simp [Jc]
  | c :: a, b, z :: x, y, k, v, hl, hn => by
    simp only [List.mem_cons, not_or] at hn
    rw [List.cons_append, List.cons_append, Jc, if_neg (by simpa using fun e : c = k => hn.1 e.symm)]
    exact Kz (by simpa using hl) hn.2
theorem VN {ks : List (List UInt8)} {xs : List ApiValue} {k : List UInt8} (hl : ks.length = xs.length) (hk : k ∈ ks) : ∃ a b x y v, ks = a ++ k :: b ∧ xs = x ++ v :: y ∧ a.length = x.length := by
  obtain ⟨a, b, rfl⟩ := List.append_of_mem hk
  refine ⟨a, b, xs.take a.length, xs.drop (a.length + 1), xs[a.length]'(by simp at hl; omega), rfl, ?_, by simp at hl ⊢; omega⟩
  rw [List.getElem_cons_drop, List.take_append_drop]
theorem AC0 {a b : List (List UInt8)} {x y : List ApiValue} {k : List UInt8} (h1 : a.length = x.length) (h2 : b.length = y.length) (hn : (a ++ b).Nodup) (hk : k ∈ a ++ b) : Jc (a ++ b) (x ++ y) k = Jc (b ++ a) (y ++ x) k := by
  rw [List.nodup_append] at hn
  rcases List.mem_append.1 hk with h | h
  · have hb : k ∉ b := fun hb => hn.2.2 k h k hb rfl
    obtain ⟨p, q, u, w, v, rfl, rfl, hpu⟩ := VN h1 h
    have hp : k ∉ p := fun hp => by
      have := (List.nodup_append.1 hn.1).2.2 k hp k (by simp)
      exact this rfl
    rw [List.append_assoc, List.append_assoc, List.cons_append, List.cons_append, Kz hpu hp, ← List.append_assoc, ← List.append_assoc, Kz (by simp [hpu, h2]) (by simp [hb, hp])]
  · have ha : k ∉ a := fun ha => hn.2.2 k ha k h rfl
    obtain ⟨p, q, u, w, v, rfl, rfl, hpu⟩ := VN h2 h
    have hp : k ∉ p := fun hp => by
      have := (List.nodup_append.1 hn.2.1).2.2 k hp k (by simp)
      exact this rfl
    rw [← List.append_assoc, ← List.append_assoc, Kz (by simp [hpu, h1]) (by simp [ha, hp]), List.append_assoc, List.append_assoc, List.cons_append, List.cons_append, Kz hpu hp]
theorem AGG {t : List UInt8} {a b : List (List UInt8)} {x y : List ApiValue} (h1 : a.length = x.length) (h2 : b.length = y.length) (hn : (a ++ b).Nodup) : DU ⟨7, t, a ++ b, x ++ y⟩ = DU ⟨7, t, b ++ a, y ++ x⟩ := by
  have hs : Gw (a ++ b) = Gw (b ++ a) := Pp ((H5 _).trans (List.perm_append_comm.trans (H5 _).symm)) (Mt _) (Mt _)
  rw [DU, DU]
  show ApiValue.mk 7 t (Gw (a ++ b)) ((Gw (a ++ b)).map fun k => (Jc (a ++ b) (Pb (x ++ y)) k).1) = ApiValue.mk 7 t (Gw (b ++ a)) ((Gw (b ++ a)).map fun k => (Jc (b ++ a) (Pb (y ++ x)) k).1)
  rw [← hs]
  congr 1
  refine List.map_congr_left fun k hk => ?_
  rw [H6, H6, List.map_append, List.map_append, AC0 (by simpa using h1) (by simpa using h2) hn ((H5 _).mem_iff.1 hk)]
theorem AGx {t : List UInt8} {a b : List (List UInt8)} {x y : List ApiValue} : SE N ⟨7, t, a ++ b, x ++ y⟩ = SE N ⟨7, t, b ++ a, y ++ x⟩ := by
  have hx : (x ++ y).Perm (y ++ x) := List.perm_append_comm
  have hk : (a ++ b).Perm (b ++ a) := List.perm_append_comm
  have e1 : ∀ (ks : List (List UInt8)) (xs : List ApiValue), F8 N ⟨7, t, ks, xs⟩ = (t == [] && decide (ks.length = xs.length) && JK N ks && Gt N xs) := fun ks xs => by rw [F8]; rfl
  have e2 : ∀ (ks : List (List UInt8)) (xs : List ApiValue), IU ⟨7, t, ks, xs⟩ = 1 + FL xs := fun ks xs => by rw [IU]; rfl
  unfold SE
  rw [e1, e1, e2, e2, Ni hx, Xx hx, Po hk, hk.length_eq, hx.length_eq]
theorem AGO {e : Nat} {t : List UInt8} {a b : List (List UInt8)} {x y : List ApiValue} (h : okW e ⟨7, t, a ++ b, x ++ y⟩) : okW e ⟨7, t, b ++ a, y ++ x⟩ := by
  obtain ⟨e, rfl⟩ : ∃ k, e = k + 1 := ⟨e - 1, by have := h.pos; omega⟩
  have h1 := h.text; have h2 := h.keys; have h3 := h.klen; have h4 := h.items; have h5 := h.sub
  simp only at h1 h2 h3 h4 h5
  refine .mk _ h1 (by simp at h2 ⊢; omega) (fun k hk => h3 k ?_) (by simp at h4 ⊢; omega) fun z hz => h5 z ?_
  · simp only [List.mem_append] at hk ⊢; exact hk.symm
  · simp only [List.mem_append] at hz ⊢; exact hz.symm
theorem AAO (hN : 2000000 ≤ N) {t : List UInt8} {a b : List (List UInt8)} {x y : List ApiValue} (h1 : a.length = x.length) (h2 : b.length = y.length) (h : okW 70 ⟨7, t, a ++ b, x ++ y⟩) (hc : Ho ⟨7, t, a ++ b, x ++ y⟩ ≤ 280) : Cr N ⟨7, t, a ++ b, x ++ y⟩ = Cr N ⟨7, t, b ++ a, y ++ x⟩ := by
  have hx : (y ++ x).Perm (x ++ y) := List.perm_append_comm
  have hc2 : Ho ⟨7, t, b ++ a, y ++ x⟩ = Ho ⟨7, t, a ++ b, x ++ y⟩ := by rw [IJ, IJ]; simp only [Od hx]
  have len : ∀ v : ApiValue, okW 70 v → Ho v ≤ 280 → F8 N v = true → (wrV (DU v)).length ≤ 1048576 := fun v k1 k2 k3 => by
    obtain ⟨o1, o2, o3, o4⟩ := Mo (N := N) 70 v k1 k3
    have := Rh (N := N) 70 (DU v) o1 o2
    omega
  have h' := AGO h
  rw [Mv hN h (by omega) (len _ h hc), Mv hN h' (by omega) (len _ h' (by omega)), ← AGx (a := a) (b := b) (x := x) (y := y)]
  cases hw : SE N ⟨7, t, a ++ b, x ++ y⟩
  · rfl
  · have hs : F8 N ⟨7, t, a ++ b, x ++ y⟩ = true := by unfold SE at hw; rw [Bool.and_eq_true] at hw; exact hw.2
    have hnd : (a ++ b).Nodup := by
      have hse := (Pz (N := N) ⟨7, t, a ++ b, x ++ y⟩).symm
      rw [hs] at hse
      simp at hse
      exact Kr hse.2.1.2
    rw [AGG h1 h2 hnd]
end
theorem LZ (v : ApiValue) (_ : okApiValue v) (turn : Int) (ht : (Lit.int .u8 turn).wf = true) : En 1099511627776 v turn = some true := by
  unfold En
  rw [AH2, Option.bind_some, if_pos rfl]
  dsimp only [Au]
  obtain ⟨b, e1, hb⟩ := AEt (N := 1099511627776) (by omega) v 40 (by omega)
  rw [show (40 : Int) = ((40 : Nat) : Int) from rfl, e1, Option.bind_some]
  cases b
  · rfl
  obtain ⟨hv, hc⟩ := hb rfl
  rw [if_pos rfl]
  by_cases h7 : v.kind = 7
  · rw [if_neg (by simp [h7])]
    by_cases hl : v.keys.length = v.items.length
    · rw [if_neg (by simp [hl])]
      by_cases h0 : v.keys.length = 0
      · rw [if_pos (by simp [h0])]
      · rw [if_neg (fun e => h0 (by simpa using e))]
        have hi := hv.items; have hk := hv.keys
        obtain ⟨n, rfl⟩ := Int.eq_ofNat_of_zero_le (wf_u8 ht).1
        have hn := (wf_u8 ht).2
        have em : (wr .i64 (n : Int)).tmod (v.keys.length : Int) = ((n % v.keys.length : Nat) : Int) := by rw [JW (by omega)]; rfl
        have hm : n % v.keys.length < v.keys.length := Nat.mod_lt _ (by omega)
        rw [Aa (show ((v.keys.length : Nat) : Int) ≠ 0 by omega), em]
        generalize n % v.keys.length = m at hm ⊢
        have s1 : sub v.keys (m : Int) (v.keys.length : Int) = some (v.keys.drop m) := by
          rw [FE _ _ _ (by omega) (by omega), List.take_of_length_le (by rw [List.length_drop]; exact Nat.le_refl _)]
        have s2 : sub v.keys 0 (m : Int) = some (v.keys.take m) := by
          rw [show (0 : Int) = ((0 : Nat) : Int) from rfl, FE _ _ _ (by omega) (by omega)]; rfl
        have s3 : sub v.items (m : Int) (v.items.length : Int) = some (v.items.drop m) := by
          rw [FE _ _ _ (by omega) (by omega), List.take_of_length_le (by rw [List.length_drop]; exact Nat.le_refl _)]
        have s4 : sub v.items 0 (m : Int) = some (v.items.take m) := by
          rw [show (0 : Int) = ((0 : Nat) : Int) from rfl, FE _ _ _ (by omega) (by omega)]; rfl
        rw [s1, Option.bind_some, Aa (AEA (by simp; omega)), s2, Option.bind_some, Aa (AEA (by simp; omega)), s3, Option.bind_some, Aa (ACz (by simp; omega)), s4, Option.bind_some, Aa (ACz (by simp; omega))]
        obtain ⟨kind, t, ks, xs⟩ := v
        simp only at h7 hl hm ⊢
        subst h7
        have ek : ks.take m ++ ks.drop m = ks := List.take_append_drop ..
        have ex : xs.take m ++ xs.drop m = xs := List.take_append_drop ..
        have := AAO (N := 1099511627776) (by omega) (t := t) (a := ks.take m) (b := ks.drop m) (x := xs.take m) (y := xs.drop m) (by simp; omega) (by simp; omega) (by rw [ek, ex]; exact hv) (by rw [ek, ex]; omega)
        rw [ek, ex] at this
        rw [← this]
        have hcv : ∃ r, Cr 1099511627776 ⟨7, t, ks, xs⟩ = some r := ⟨_, Mv (N := 1099511627776) (by omega) hv (by omega) fun k3 => by
          obtain ⟨o1, o2, o3, o4⟩ := Mo (N := 1099511627776) 70 _ hv k3
          have := Rh (N := 1099511627776) 70 _ o1 o2
          omega⟩
        obtain ⟨r, hr⟩ := hcv
        rw [hr, Option.bind_some, Option.bind_some, if_pos (by simp)]
        simp
    · rw [if_pos (by simp; omega)]; rfl
  · rw [if_pos (by simpa using h7)]; rfl
end Go.VM
