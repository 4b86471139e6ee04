/- The reference's parser of JSON texts answers, with a value that is not too long. -/
import Derived.Test.YtdbeiialamganaaTnext
import Derived.Test.YtdbeiialamganaaJref
set_option linter.unusedVariables false
set_option linter.unusedSimpArgs false
namespace Go.VM
section
variable {N : Nat} {l : List UInt8}
def stopP (p : Ref14Parser) (i e : Int) : Ref14Parser := if p.fail == 0 then Ref14Parser.mk p.s p.at_ p.nodes e i else p
theorem pstop_eq (p : Ref14Parser) (i e : Int) : ref14_parser_stop N p i e = some (stopP p i e) := by
  unfold ref14_parser_stop stopP; split <;> rfl
theorem is_eq (t : ApiToken) (c : List UInt8) : ref14_is N t c = some (t.kind == 2 && t.text == c) := by
  unfold ref14_is; cases t.kind == 2 <;> simp
structure PI (l : List UInt8) (p : Ref14Parser) : Prop where
  s : p.s = l
  lo : 0 ≤ p.at_
  hi : p.at_ ≤ l.length
theorem PI.stop {p : Ref14Parser} (h : PI l p) (i e : Int) : PI l (stopP p i e) := by
  unfold stopP; split
  · exact ⟨h.s, h.lo, h.hi⟩
  · exact h
theorem stop_at (p : Ref14Parser) (i e : Int) : (stopP p i e).at_ = p.at_ := by unfold stopP; split <;> rfl
theorem stop_fail (p : Ref14Parser) (i e : Int) (he : e ≠ 0) : (stopP p i e).fail ≠ 0 := by
  unfold stopP; split
  · exact he
  · rename_i h; simpa using h
structure NX (l : List UInt8) (p : Ref14Parser) (r : ApiToken × Ref14Parser) : Prop where
  pi : PI l r.2
  le : p.at_ ≤ r.2.at_
  txt : r.1.text.length ≤ 4 * l.length
  on : r.2.fail = 0 → p.fail = 0 ∧ (r.1.kind ≠ 1 → p.at_ < r.2.at_)
theorem pnext_ok (hb : l.length ≤ 100000) (hN : l.length + 10 ≤ N) (p : Ref14Parser) (h : PI l p) : Ok (ref14_parser_next N p) (NX l p) := by
  unfold ref14_parser_next
  refine Ok.ite (fun hf => Ok.ret ⟨h, Int.le_refl _, by simp, fun e => by simp at hf; exact absurd e hf⟩) (fun hf => ?_)
  have hf0 : p.fail = 0 := by simpa using hf
  rw [h.s]
  refine Ok.join (Ok.bind (next_ok l p.at_ h.lo h.hi (by omega) hN) fun y hy => ?_)
  refine Ok.ite (fun he => ?_) (fun he => ?_)
  · rw [pstop_eq, Option.bind_some]
    have he' : y.2.2 ≠ 0 := by simpa using he
    exact Ok.ret ⟨h.stop _ _, by rw [stop_at]; exact Int.le_refl _, by simp, fun e => absurd e (stop_fail _ _ _ he')⟩
  · obtain ⟨a1, a2, a3, a4⟩ := hy.good (by simpa using he)
    exact Ok.ret ⟨⟨rfl, by have := h.lo; simp only []; omega, a2⟩, a1, a3, fun _ => ⟨hf0, a4⟩⟩
structure VR (l : List UInt8) (p : Ref14Parser) (r : ApiValue × Ref14Parser) : Prop where
  v : okV r.1
  pi : PI l r.2
  le : p.at_ ≤ r.2.at_
/-- how many rounds are left -/
def left (l : List UInt8) (p : Ref14Parser) : Nat := if p.fail = 0 then l.length - p.at_.toNat + 2 else 1
theorem left_pos (p : Ref14Parser) : 1 ≤ left l p := by unfold left; split <;> omega
theorem left_less {p q : Ref14Parser} (hp : PI l p) (hf : p.fail = 0) (hq : PI l q) (h : q.fail = 0 → p.at_ < q.at_) : left l q + 1 ≤ left l p := by
  have := hp.lo; have := hp.hi; have := hq.hi
  unfold left
  rw [if_pos hf]
  split
  · rename_i e; have := h e; omega
  · omega
theorem okV_arr {items : List ApiValue} (kind : Int) (text : List UInt8) (hl : items.length ≤ 900000) (h : ∀ x, x ∈ items → okV x) : okV (ApiValue.mk kind text [] items) := .mk _ (by simp) hl h
theorem arr_loop (hb : l.length ≤ 100000) (hN : l.length + 10 ≤ N) (d : Int) (rc : Ref14Parser → ApiToken → Int → Option (ApiValue × Ref14Parser)) (hrc : ∀ p t, PI l p → t.text.length ≤ 4 * l.length → Ok (rc p t d) (VR l p)) (p0 : Ref14Parser) : ∀ (k : Nat) (t : ApiToken) (items : List ApiValue) (p : Ref14Parser), PI l p → p0.at_ ≤ p.at_ → t.text.length ≤ 4 * l.length → (∀ x, x ∈ items → okV x) → left l p ≤ k → items.length + left l p ≤ 200000 →
    Ok (ref14_parser_array_L1 N d rc (fun j5 => some (ApiValue.mk 6 [] [] j5.2.1, j5.2.2)) k t items p) (VR l p0)
  | 0, t, items, p, _, _, _, _, h, _ => by have := left_pos (l := l) p; omega
  | k + 1, t, items, p, hp, hle, ht, hi, hk, hB => by
    rw [ref14_parser_array_L1]
    have hpos := left_pos (l := l) p
    refine Ok.ite (fun hf => ?_) (fun _ => Ok.ret ⟨okV_arr _ _ (by simp only []; omega) hi, hp, hle⟩)
    have hf0 : p.fail = 0 := by simpa using hf
    refine Ok.join (Ok.bind (hrc p t hp ht) fun y14 h14 => Ok.grd (fits_small (by omega) (by omega)) ?_)
    refine Ok.bind (pnext_ok hb hN y14.2 h14.pi) fun y16 h16 => ?_
    rw [is_eq, Option.bind_some]
    have hitems : ∀ x, x ∈ items ++ [y14.1] → okV x := fun x hx => by
      rcases List.mem_append.1 hx with hx | hx
      · exact hi x hx
      · simp at hx; rw [hx]; exact h14.v
    have a1 := h14.le; have a2 := h16.le
    refine Ok.ite (fun _ => Ok.ret ⟨okV_arr _ _ (by simp; omega) hitems, h16.pi, by simp only []; omega⟩) (fun _ => ?_)
    refine Ok.meet (fun j : Ref14Parser => PI l j ∧ p.at_ ≤ j.at_ ∧ (j.fail = 0 → p.at_ < j.at_)) (fun j hj => ?_) (fun k21 h21 => ?_)
    · refine Ok.bind (pnext_ok hb hN j hj.1) fun y32 h32 => ?_
      have a3 := h32.le
      have hl := left_less hp hf0 h32.pi (fun e => by have := hj.2.2 (h32.on e).1; omega)
      exact arr_loop hb hN d rc hrc p0 k y32.1 _ y32.2 h32.pi (by omega) h32.txt hitems (by omega) (by simp; omega)
    · refine Ok.meet (fun b : Bool => b = false → y16.2.fail = 0 → p.at_ < y16.2.at_) (fun b hb' => ?_) (fun k25 h25 => ?_)
      · refine Ok.ite (fun _ => ?_) (fun hf => h21 _ ⟨h16.pi, by omega, hb' hf⟩)
        rw [pstop_eq, Option.bind_some]
        exact h21 _ ⟨h16.pi.stop _ _, by rw [stop_at]; omega, fun e => absurd e (stop_fail _ _ _ (by decide))⟩
      · refine Ok.ite (fun hz => ?_) (fun hz => h25 _ (fun _ e => by simp [e] at hz))
        rw [is_eq, Option.bind_some]
        refine h25 _ (fun hc e => ?_)
        have hk2 : y16.1.kind = 2 := by
          simp only [Bool.not_eq_false', Bool.and_eq_true, beq_iff_eq] at hc
          exact hc.1
        have := (h16.on e).2 (by rw [hk2]; decide)
        omega
theorem obj_loop (hb : l.length ≤ 100000) (hN : l.length + 10 ≤ N) (d : Int) (rc : Ref14Parser → ApiToken → Int → Option (ApiValue × Ref14Parser)) (hrc : ∀ p t, PI l p → t.text.length ≤ 4 * l.length → Ok (rc p t d) (VR l p)) (p0 : Ref14Parser) : ∀ (k : Nat) (t : ApiToken) (keys : List (List UInt8)) (items : List ApiValue) (p : Ref14Parser), PI l p → p0.at_ ≤ p.at_ → t.text.length ≤ 4 * l.length → (∀ x, x ∈ items → okV x) → left l p ≤ k → items.length + left l p ≤ 200000 → keys.length = items.length →
    Ok (ref14_parser_object_L1 N d rc (fun j5 => some (ApiValue.mk 7 [] j5.2.1 j5.2.2.1, j5.2.2.2)) k t keys items p) (VR l p0)
  | 0, t, keys, items, p, _, _, _, _, h, _, _ => by have := left_pos (l := l) p; omega
  | k + 1, t, keys, items, p, hp, hle, ht, hi, hk, hB, hkl => by
    rw [ref14_parser_object_L1]
    have hpos := left_pos (l := l) p
    have okO : ∀ (ks : List (List UInt8)) (xs : List ApiValue), ks.length ≤ 900000 → xs.length ≤ 900000 → (∀ x, x ∈ xs → okV x) → okV (ApiValue.mk 7 [] ks xs) := fun ks xs h1 h2 h3 => .mk _ h1 h2 h3
    refine Ok.ite (fun hf => ?_) (fun _ => Ok.ret ⟨okO _ _ (by simp only []; omega) (by simp only []; omega) hi, hp, hle⟩)
    have hf0 : p.fail = 0 := by simpa using hf
    refine Ok.meet (fun j : Ref14Parser => PI l j ∧ p.at_ ≤ j.at_) (fun j10 h10 => ?_) (fun k11 h11 => ?_)
    · refine Ok.meet (fun j : Ref14Parser => PI l j ∧ p.at_ ≤ j.at_) (fun j16 h16 => ?_) (fun k17 h17 => ?_)
      · refine Ok.meet (fun j : ApiToken × Ref14Parser => PI l j.2 ∧ p.at_ ≤ j.2.at_) (fun j24 h24 => ?_) (fun k25 h25 => ?_)
        · refine Ok.bind (pnext_ok hb hN j24.2 h24.1) fun y38 h38 => ?_
          refine Ok.bind (hrc y38.2 y38.1 h38.pi h38.txt) fun y40 h40 => Ok.grd (fits_small (by omega) (by omega)) (Ok.grd (fits_small (by omega) (by omega)) ?_)
          refine Ok.bind (pnext_ok hb hN y40.2 h40.pi) fun y42 h42 => ?_
          rw [is_eq, Option.bind_some]
          have hitems : ∀ x, x ∈ items ++ [y40.1] → okV x := fun x hx => by
            rcases List.mem_append.1 hx with hx | hx
            · exact hi x hx
            · simp at hx; rw [hx]; exact h40.v
          have a0 := h24.2; have a1 := h38.le; have a2 := h40.le; have a3 := h42.le
          refine Ok.ite (fun _ => Ok.ret ⟨okO _ _ (by simp; omega) (by simp; omega) hitems, h42.pi, by simp only []; omega⟩) (fun _ => ?_)
          refine Ok.meet (fun j : Ref14Parser => PI l j ∧ p.at_ ≤ j.at_ ∧ (j.fail = 0 → p.at_ < j.at_)) (fun j hj => ?_) (fun k47 h47 => ?_)
          · refine Ok.bind (pnext_ok hb hN j hj.1) fun y58 h58 => ?_
            have a4 := h58.le
            have hl := left_less hp hf0 h58.pi (fun e => by have := hj.2.2 (h58.on e).1; omega)
            exact obj_loop hb hN d rc hrc p0 k y58.1 _ _ y58.2 h58.pi (by omega) h58.txt hitems (by omega) (by simp; omega) (by simp; omega)
          · refine Ok.meet (fun b : Bool => b = false → y42.2.fail = 0 → p.at_ < y42.2.at_) (fun b hb' => ?_) (fun k51 h51 => ?_)
            · refine Ok.ite (fun _ => ?_) (fun hf => h47 _ ⟨h42.pi, by omega, hb' hf⟩)
              rw [pstop_eq, Option.bind_some]
              exact h47 _ ⟨h42.pi.stop _ _, by rw [stop_at]; omega, fun e => absurd e (stop_fail _ _ _ (by decide))⟩
            · refine Ok.ite (fun hz => ?_) (fun hz => h51 _ (fun _ e => by simp [e] at hz))
              rw [is_eq, Option.bind_some]
              refine h51 _ (fun hc e => ?_)
              have hk2 : y42.1.kind = 2 := by
                simp only [Bool.not_eq_false', Bool.and_eq_true, beq_iff_eq] at hc
                exact hc.1
              have := (h42.on e).2 (by rw [hk2]; decide)
              omega
        · refine Ok.bind (pnext_ok hb hN j16 h16.1) fun y28 h28 => ?_
          have a1 := h28.le; have a2 := h16.2
          refine Ok.meet (fun _ : Bool => True) (fun b _ => Ok.ite (fun _ => ?_) (fun _ => h25 _ ⟨h28.pi, by simp only []; omega⟩)) (fun k31 h31 => Ok.ite (fun _ => by rw [is_eq, Option.bind_some]; exact h31 _ trivial) (fun _ => h31 _ trivial))
          rw [pstop_eq, Option.bind_some]
          exact h25 _ ⟨h28.pi.stop _ _, by simp only [stop_at]; omega⟩
      · rw [rget_eq _ _ (by simp only []; omega), Option.bind_some]
        refine Ok.ite (fun _ => ?_) (fun _ => h17 _ h10)
        rw [pstop_eq, Option.bind_some]
        exact h17 _ ⟨h10.1.stop _ _, by rw [stop_at]; exact h10.2⟩
    · refine Ok.ite (fun _ => ?_) (fun _ => h11 _ ⟨hp, Int.le_refl _⟩)
      rw [pstop_eq, Option.bind_some]
      exact h11 _ ⟨hp.stop _ _, by rw [stop_at]; exact Int.le_refl _⟩
theorem word_ok (t : List UInt8) : Ok (ref14_word N t) (fun _ => True) := by
  unfold ref14_word
  exact Ok.ite (fun _ => Ok.ret trivial) (fun _ => Ok.ite (fun _ => Ok.ret trivial) (fun _ => Ok.ret trivial))
theorem parser_ok (hb : l.length ≤ 10000) (hN : 4 * l.length + 1000 ≤ N) : ∀ D : Nat,
    (∀ (p : Ref14Parser) (t : ApiToken) (d : Int), PI l p → t.text.length ≤ 4 * l.length → 0 ≤ d → d ≤ 64 → 2 * (64 - d) + 2 ≤ D → Ok (ref14_parser_value N D p t d) (VR l p)) ∧
    (∀ (p : Ref14Parser) (d : Int), PI l p → 0 ≤ d → d ≤ 64 → 2 * (64 - d) + 3 ≤ D → Ok (ref14_parser_array N D p d) (VR l p)) ∧
    (∀ (p : Ref14Parser) (d : Int), PI l p → 0 ≤ d → d ≤ 64 → 2 * (64 - d) + 3 ≤ D → Ok (ref14_parser_object N D p d) (VR l p))
  | 0 => ⟨fun p t d _ _ _ _ h => by omega, fun p d _ _ _ h => by omega, fun p d _ _ _ h => by omega⟩
  | D + 1 => by
    obtain ⟨ihv, iha, iho⟩ := parser_ok hb hN D
    have hleft : ∀ q : Ref14Parser, left l q ≤ l.length + 2 := fun q => by unfold left; split <;> omega
    refine ⟨fun p t d hp ht h0 h64 hD => ?_, fun p d hp h0 h64 hD => ?_, fun p d hp h0 h64 hD => ?_⟩
    · rw [ref14_parser_value]
      simp only [is_eq, Option.bind_some]
      have z : ∀ q, PI l q → p.at_ ≤ q.at_ → Ok (some (ApiValue.mk 0 [] [] [], q)) (VR l p) := fun q h1 h2 => Ok.ret ⟨okV_zero, h1, h2⟩
      refine Ok.meet (fun _ : Bool => True) (fun b _ => ?_) (fun k2 h2 => ?_)
      · refine Ok.ite (fun _ => z p hp (Int.le_refl _)) (fun _ => Ok.ite (fun _ => ?_) (fun _ => ?_))
        · refine Ok.meet (fun b : Bool => b = false → t.kind = 2 → d < 64) (fun b hb' => ?_) (fun k10 h10 => ?_)
          · refine Ok.ite (fun _ => ?_) (fun hf => ?_)
            · rw [pstop_eq, Option.bind_some]
              exact z _ (hp.stop _ _) (by rw [stop_at]; exact Int.le_refl _)
            · have hd := hb' hf
              refine Ok.meet (fun j : Int × List UInt8 × Ref14Parser => PI l j.2.2 ∧ p.at_ ≤ j.2.2.at_) (fun j hj => ?_) (fun k16 h16 => ?_)
              · refine Ok.meet (fun q : List UInt8 × Int × Int × Int × Int => PI l (Ref14Parser.mk q.1 q.2.1 q.2.2.1 q.2.2.2.1 q.2.2.2.2) ∧ p.at_ ≤ q.2.1) (fun q hq => ?_) (fun k28 h28 => ?_)
                · refine Ok.ite (fun _ => Ok.bind (word_ok _) fun y _ => Ok.ret ⟨.mk _ (by simp) (by simp) (by simp), hq.1, hq.2⟩) (fun _ => ?_)
                  refine Ok.ite (fun hc => ?_) (fun _ => Ok.ite (fun hc => ?_) (fun _ => Ok.ret ⟨.mk _ (by simp) (by simp) (by simp), hq.1, hq.2⟩))
                  · have hk : t.kind = 2 := by simp only [Bool.and_eq_true, beq_iff_eq] at hc; exact hc.1
                    have := hd hk
                    rw [wr_i64 (n := d + 1) (by omega)]
                    refine Ok.bind (iha _ (d + 1) hq.1 (by omega) (by omega) (by omega)) fun y hy => Ok.ret ⟨hy.v, hy.pi, ?_⟩
                    exact Int.le_trans hq.2 hy.le
                  · have hk : t.kind = 2 := by simp only [Bool.and_eq_true, beq_iff_eq] at hc; exact hc.1
                    have := hd hk
                    rw [wr_i64 (n := d + 1) (by omega)]
                    refine Ok.bind (iho _ (d + 1) hq.1 (by omega) (by omega) (by omega)) fun y hy => Ok.ret ⟨hy.v, hy.pi, ?_⟩
                    exact Int.le_trans hq.2 hy.le
                · have hm : PI l (Ref14Parser.mk j.2.2.s j.2.2.at_ (wr .i64 (j.2.2.nodes + 1)) j.2.2.fail j.2.2.where_) := ⟨hj.1.s, hj.1.lo, hj.1.hi⟩
                  refine Ok.ite (fun _ => ?_) (fun _ => h28 _ ⟨hm, hj.2⟩)
                  rw [pstop_eq, Option.bind_some]
                  exact h28 _ ⟨hm.stop _ _, by simp only [stop_at]; exact hj.2⟩
              · refine Ok.ite (fun _ => ?_) (fun _ => h16 _ ⟨hp, Int.le_refl _⟩)
                refine Ok.bind (number_ok t.text (by omega) (by omega)) fun y _ => ?_
                refine Ok.join (Ok.ite (fun _ => ?_) (fun _ => h16 _ ⟨hp, Int.le_refl _⟩))
                rw [pstop_eq, Option.bind_some]
                exact h16 _ ⟨hp.stop _ _, by simp only [stop_at]; exact Int.le_refl _⟩
          · refine Ok.ite (fun _ => h10 _ (fun hf _ => ?_)) (fun hk => h10 _ (fun _ h => by simp [h] at hk))
            have : d ≠ 64 := by simpa using hf
            omega
        · rw [pstop_eq, Option.bind_some]
          exact z _ (hp.stop _ _) (by rw [stop_at]; exact Int.le_refl _)
      · refine Ok.ite (fun _ => h2 _ trivial) (fun _ => Ok.ite (fun _ => h2 _ trivial) (fun _ => Ok.ite (fun _ => h2 _ trivial) (fun _ => Ok.ite (fun _ => h2 _ trivial) (fun _ => h2 _ trivial))))
    · rw [ref14_parser_array]
      refine Ok.bind (pnext_ok (by omega) (by omega) p hp) fun y1 h1 => ?_
      rw [is_eq, Option.bind_some]
      refine Ok.ite (fun _ => Ok.ret ⟨.mk _ (by simp) (by simp) (by simp), h1.pi, h1.le⟩) (fun _ => ?_)
      have := hleft y1.2
      exact Ok.join (arr_loop (by omega) (by omega) d (ref14_parser_value N D) (fun q t hq ht => ihv q t d hq ht h0 h64 (by omega)) p N y1.1 [] y1.2 h1.pi h1.le h1.txt (by simp) (by omega) (by simp; omega))
    · rw [ref14_parser_object]
      refine Ok.bind (pnext_ok (by omega) (by omega) p hp) fun y1 h1 => ?_
      rw [is_eq, Option.bind_some]
      refine Ok.ite (fun _ => Ok.ret ⟨.mk _ (by simp) (by simp) (by simp), h1.pi, h1.le⟩) (fun _ => ?_)
      have := hleft y1.2
      exact Ok.join (obj_loop (by omega) (by omega) d (ref14_parser_value N D) (fun q t hq ht => ihv q t d hq ht h0 h64 (by omega)) p N y1.1 [] [] y1.2 h1.pi h1.le h1.txt (by simp) (by omega) (by simp; omega) rfl)
theorem parse_ok (hb : l.length ≤ 10000) (hN : 4 * l.length + 1000 ≤ N) : Ok (ref14_Parse N l) (fun r => okV r.1 ∧ (r.2.2 ≠ 0 → r.1 = zeroV)) := by
  unfold ref14_Parse
  refine Ok.ite (fun _ => Ok.ret ⟨okV_zero, fun _ => rfl⟩) (fun _ => ?_)
  have h0 : PI l (Ref14Parser.mk l 0 0 0 0) := ⟨rfl, Int.le_refl _, by simp only []; omega⟩
  refine Ok.bind (pnext_ok (by omega) (by omega) _ h0) fun y1 h1 => ?_
  refine Ok.bind ((parser_ok hb hN N).1 y1.2 y1.1 0 h1.pi h1.txt (by omega) (by omega) (by omega)) fun y3 h3 => ?_
  refine Ok.join (Ok.bind (pnext_ok (by omega) (by omega) y3.2 h3.pi) fun y9 h9 => ?_)
  have fin : ∀ p : Ref14Parser, Ok (if (p.fail != 0) = true then some (ApiValue.mk 0 [] [] [], p.where_, p.fail) else some (y3.1, (l.length : Int), 0)) (fun r => okV r.1 ∧ (r.2.2 ≠ 0 → r.1 = zeroV)) := fun p => Ok.ite (fun _ => Ok.ret ⟨okV_zero, fun _ => rfl⟩) (fun _ => Ok.ret ⟨h3.v, by simp⟩)
  refine Ok.join (Ok.ite (fun _ => Ok.ite (fun _ => ?_) (fun _ => fin _)) (fun _ => Ok.ite (fun h => by cases h) (fun _ => fin _)))
  rw [pstop_eq, Option.bind_some]
  exact fin _
end
end Go.VM
