/- The program's parser of JSON texts and the reference's: values, arrays, objects. -/
import Derived.Test.YtbmilkoebhmnnaaGreatDoorJpar
set_option linter.unusedVariables false
set_option linter.unusedSimpArgs false
namespace Go.VM
section
variable {N : Nat} {l : List UInt8}
theorem is_txt {t : ApiToken} {c : List UInt8} (h : (t.kind == 2 && t.text == c) = true) : t = ApiToken.mk 2 c t.at_ := by
  simp only [Bool.and_eq_true, beq_iff_eq] at h
  cases t; simp only at h; rw [h.1, h.2]
/-- after a value inside an array or object: the text's end of it, or a comma -/
theorem MR.after {X : Option (ApiValue × Int × Int)} {S : Int → JPsr} {S' : Int → JPsr} (e : ∀ n, S n = S' n) {p : Ref14Parser} (h : MR N l X S p) : MR N l X S' p := by
  have : S = S' := funext e
  rw [← this]; exact h
theorem arr_loopQ (hb : l.length ≤ 1048576) (hN : l.length + 100 ≤ N) (st : List ApiValue) (out : ApiValue) (X : Option (ApiValue × Int × Int)) (rc : Ref14Parser → ApiToken → Int → Option (ApiValue × Ref14Parser))
    (hrc : ∀ (p : Ref14Parser) (t : ApiToken) (v : ApiValue) (w : Int), TR N l X (inA st out v w) t p → (w = 0 ∨ w = 1) → (p.fail = 0 → ∀ n, jd_fits (inA st out v w n) t = jd_opens t) → Ok (rc p t ((st.length + 1 : Nat) : Int)) (VQ N l X (st ++ [v]) out p))
    (p0 : Ref14Parser) : ∀ (k : Nat) (t : ApiToken) (items : List ApiValue) (p : Ref14Parser) (w : Int), TR N l X (inA st out (arrV items) w) t p → (w = 0 ∨ w = 1) → (p.fail = 0 → ∀ n, jd_fits (inA st out (arrV items) w n) t = jd_opens t) →
      p0.at_ ≤ p.at_ → (p.fail = 0 → p0.fail = 0) → leftQ l p ≤ k → items.length + leftQ l p ≤ 4000000 →
      Ok (ref14_parser_array_L1 N ((st.length + 1 : Nat) : Int) rc (fun j5 => some (ApiValue.mk 6 [] [] j5.2.1, j5.2.2)) k t items p) (VQ N l X st out p0)
  | 0, t, items, p, w, _, _, _, _, _, h, _ => by have := leftQ_pos (l := l) p; omega
  | k + 1, t, items, p, w, hp, hw, hfit, hle, hp0, hk, hB => by
    rw [ref14_parser_array_L1]
    have hpos := leftQ_pos (l := l) p
    refine Ok.ite (fun hf => ?_) (fun hf => Ok.ret ⟨hp.dead (by simpa using hf), hle, hp0⟩)
    have hf0 : p.fail = 0 := by simpa using hf
    refine Ok.join (Ok.bind (hrc p t (arrV items) w hp hw hfit) fun y14 h14 => Ok.grd (fits_big (by omega) (by omega)) ?_)
    obtain ⟨h14, a1, a1f⟩ := h14
    refine Ok.bind (nextQ (by omega) (by omega) (h14.after (S' := inA st out (arrV (items ++ [y14.1])) 5) fun n => aft_in _ _ _ _ n)) fun y16 h16 => ?_
    rw [isQ, Option.bind_some]
    have a2 : y14.2.at_ ≤ y16.2.at_ := h16.le
    have o2 : y16.2.fail = 0 → y14.2.fail = 0 ∧ (y16.1.kind ≠ 1 → y14.2.at_ < y16.2.at_) := h16.on
    refine Ok.ite (fun hc => Ok.ret ⟨h16.tr.go fun _ => ?_, by simp only []; omega, fun hz => hp0 hf0⟩) (fun hc => ?_)
    · have e := is_txt hc
      rw [e]
      exact ⟨by simp, fun n => take_close (v := arrV (items ++ [y14.1])) (.inr (.inr rfl))⟩
    refine Ok.meet (fun j : Ref14Parser => MR N l X (inA st out (arrV (items ++ [y14.1])) 0) j ∧ p.at_ ≤ j.at_ ∧ (j.fail = 0 → p.at_ < j.at_)) (fun j hj => ?_) (fun k21 h21 => ?_)
    · refine Ok.bind (nextQ (by omega) (by omega) hj.1) fun y32 h32 => ?_
      have a3 := h32.le
      have hl := leftQ_less ⟨hp.lo, hp.hi⟩ hf0 ⟨h32.tr.lo, h32.tr.hi⟩ (fun e => by have := hj.2.2 (h32.on e).1; omega)
      exact arr_loopQ hb hN st out X rc hrc p0 k y32.1 _ y32.2 0 h32.tr (.inl rfl) (fun _ n => fits0 rfl) (by have := hj.2.1; omega) (fun _ => hp0 hf0) (by omega) (by simp; omega)
    · refine Ok.meet (fun b : Bool => (b = true → y16.2.fail = 0 ∧ (y16.1.kind == 2 && y16.1.text == [44]) = false) ∧ (b = false → y16.2.fail = 0 → (y16.1.kind == 2 && y16.1.text == [44]) = true)) (fun b hb' => ?_) (fun k25 h25 => ?_)
      · refine Ok.ite (fun hbt => ?_) (fun hbf => ?_)
        · obtain ⟨g1, g2⟩ := hb'.1 hbt
          rw [pstopQ, Option.bind_some]
          refine h21 _ ⟨h16.tr.stop g1 (by decide) fun n _ _ => ⟨_, take_bad (fits5 g2 hc)⟩, ?_, ?_⟩
          · rw [stopQ_ok g1]; simp only []; omega
          · rw [stopQ_ok g1]; intro hz; cases hz
        · refine h21 _ ⟨h16.tr.go fun hz => ?_, by omega, fun hz => ?_⟩
          · have e := is_txt (hb'.2 hbf hz)
            rw [e]
            exact ⟨by simp, fun n => take_comma⟩
          · have e := is_txt (hb'.2 hbf hz)
            have := (o2 hz).2 (by rw [e]; simp)
            omega
      · refine Ok.ite (fun hz => ?_) (fun hz => h25 _ ⟨fun h => (by cases h), fun _ h => (by rw [h] at hz; simp at hz)⟩)
        rw [isQ, Option.bind_some]
        refine h25 _ ⟨fun h => ⟨(by simpa using hz), (by rw [Bool.not_eq_true'] at h; exact h)⟩, fun h _ => (by rw [Bool.not_eq_false'] at h; exact h)⟩
theorem getL_there : ∀ (ks : List (List UInt8)) (xs : List ApiValue) (key : List UInt8), ks.length = xs.length → (getL ks xs key).2 = decide (key ∈ ks)
  | [], [], key, _ => by simp [getL]
  | k :: ks, x :: xs, key, h => by
    rw [getL]
    by_cases hk : k = key
    · simp [hk]
    · rw [if_neg (by simpa using hk), getL_there ks xs key (by simpa using h)]
      simp [Ne.symm hk]
theorem obj_loopQ (hb : l.length ≤ 1048576) (hN : l.length + 100 ≤ N) (st : List ApiValue) (out : ApiValue) (X : Option (ApiValue × Int × Int)) (rc : Ref14Parser → ApiToken → Int → Option (ApiValue × Ref14Parser))
    (hrc : ∀ (p : Ref14Parser) (t : ApiToken) (v : ApiValue) (w : Int), TR N l X (inA st out v w) t p → (w = 0 ∨ w = 1) → (p.fail = 0 → ∀ n, jd_fits (inA st out v w n) t = jd_opens t) → Ok (rc p t ((st.length + 1 : Nat) : Int)) (VQ N l X (st ++ [v]) out p))
    (p0 : Ref14Parser) : ∀ (k : Nat) (t : ApiToken) (keys : List (List UInt8)) (items : List ApiValue) (p : Ref14Parser) (w : Int), TR N l X (inA st out (objV keys items) w) t p → (w = 2 ∨ w = 3) → (w = 3 → p.fail = 0 → (t.kind == 2 && t.text == [125]) = false) →
      p0.at_ ≤ p.at_ → (p.fail = 0 → p0.fail = 0) → leftQ l p ≤ k → items.length + leftQ l p ≤ 4000000 → keys.length = items.length →
      Ok (ref14_parser_object_L1 N ((st.length + 1 : Nat) : Int) rc (fun j5 => some (ApiValue.mk 7 [] j5.2.1 j5.2.2.1, j5.2.2.2)) k t keys items p) (VQ N l X st out p0)
  | 0, t, keys, items, p, w, _, _, _, _, _, h, _, _ => by have := leftQ_pos (l := l) p; omega
  | k + 1, t, keys, items, p, w, hp, hw, hend, hle, hp0, hk, hB, hkl => by
    rw [ref14_parser_object_L1]
    have hpos := leftQ_pos (l := l) p
    refine Ok.ite (fun hf => ?_) (fun hf => Ok.ret ⟨hp.dead (by simpa using hf), hle, hp0⟩)
    have hf0 : p.fail = 0 := by simpa using hf
    have hfk : ∀ n, jd_fits (inA st out (objV keys items) w n) t = (t.kind == 3) := fun n => fitsK hw fun h => hend h hf0
    -- the key
    refine Ok.meet (fun j : Ref14Parser => (t.kind = 3 ∧ j = p) ∨ (j.fail ≠ 0 ∧ MR N l X (inA st out (objV keys items) w) j ∧ p.at_ ≤ j.at_)) (fun j10 h10 => ?_) (fun k11 h11 => ?_)
    · refine Ok.meet (fun j : Ref14Parser => MR N l X (inA st out (objV (keys ++ [t.text]) items) 4) j ∧ p.at_ ≤ j.at_) (fun j16 h16 => ?_) (fun k17 h17 => ?_)
      · refine Ok.meet (fun j : ApiToken × Ref14Parser => MR N l X (inA st out (objV (keys ++ [t.text]) items) 0) j.2 ∧ p.at_ ≤ j.2.at_ ∧ (j.2.fail = 0 → p.at_ < j.2.at_)) (fun j24 h24 => ?_) (fun k25 h25 => ?_)
        · refine Ok.bind (nextQ (by omega) (by omega) h24.1) fun y38 h38 => ?_
          refine Ok.bind (hrc y38.2 y38.1 (objV (keys ++ [t.text]) items) 0 h38.tr (.inl rfl) fun _ n => fits0 rfl) fun y40 h40 => Ok.grd (fits_big (by omega) (by omega)) (Ok.grd (fits_big (by omega) (by omega)) ?_)
          obtain ⟨h40, a1, a1f⟩ := h40
          refine Ok.bind (nextQ (by omega) (by omega) (h40.after (S' := inA st out (objV (keys ++ [t.text]) (items ++ [y40.1])) 5) fun n => aft_in _ _ _ _ n)) fun y42 h42 => ?_
          rw [isQ, Option.bind_some]
          have a0 := h24.2.1; have a2 := h38.le; have a3 := h42.le
          refine Ok.ite (fun hc => Ok.ret ⟨h42.tr.go fun _ => ?_, by simp only []; omega, fun hz => hp0 hf0⟩) (fun hc => ?_)
          · have e := is_txt hc
            rw [e]
            exact ⟨by simp, fun n => take_close (v := objV (keys ++ [t.text]) (items ++ [y40.1])) (.inr (.inr rfl))⟩
          refine Ok.meet (fun j : Ref14Parser => MR N l X (inA st out (objV (keys ++ [t.text]) (items ++ [y40.1])) 2) j ∧ p.at_ ≤ j.at_ ∧ (j.fail = 0 → p.at_ < j.at_)) (fun j hj => ?_) (fun k47 h47 => ?_)
          · refine Ok.bind (nextQ (by omega) (by omega) hj.1) fun y58 h58 => ?_
            have a4 := h58.le
            have hl := leftQ_less ⟨hp.lo, hp.hi⟩ hf0 ⟨h58.tr.lo, h58.tr.hi⟩ (fun e => by have := hj.2.2 (h58.on e).1; omega)
            exact obj_loopQ hb hN st out X rc hrc p0 k y58.1 _ _ y58.2 2 h58.tr (.inl rfl) (fun h => by cases h) (by have := hj.2.1; omega) (fun _ => hp0 hf0) (by omega) (by simp; omega) (by simp [hkl])
          · refine Ok.meet (fun b : Bool => (b = true → y42.2.fail = 0 ∧ (y42.1.kind == 2 && y42.1.text == [44]) = false) ∧ (b = false → y42.2.fail = 0 → (y42.1.kind == 2 && y42.1.text == [44]) = true)) (fun b hb' => ?_) (fun k51 h51 => ?_)
            · refine Ok.ite (fun hbt => ?_) (fun hbf => ?_)
              · obtain ⟨g1, g2⟩ := hb'.1 hbt
                rw [pstopQ, Option.bind_some]
                refine h47 _ ⟨h42.tr.stop g1 (by decide) fun n _ _ => ⟨_, take_bad (fits5 g2 hc)⟩, ?_, ?_⟩
                · rw [stopQ_ok g1]; simp only []; omega
                · rw [stopQ_ok g1]; intro hz; cases hz
              · refine h47 _ ⟨h42.tr.go fun hz => ?_, by omega, fun hz => ?_⟩
                · have e := is_txt (hb'.2 hbf hz)
                  rw [e]
                  exact ⟨by simp, fun n => take_comma⟩
                · have e := is_txt (hb'.2 hbf hz)
                  have := (h42.on hz).2 (by rw [e]; simp)
                  omega
            · refine Ok.ite (fun hz => ?_) (fun hz => h51 _ ⟨fun h => (by cases h), fun _ h => (by rw [h] at hz; simp at hz)⟩)
              rw [isQ, Option.bind_some]
              refine h51 _ ⟨fun h => ⟨(by simpa using hz), (by rw [Bool.not_eq_true'] at h; exact h)⟩, fun h _ => (by rw [Bool.not_eq_false'] at h; exact h)⟩
        · refine Ok.bind (nextQ (by omega) (by omega) h16.1) fun y28 h28 => ?_
          have a1 := h28.le; have a2 := h16.2
          refine Ok.meet (fun b : Bool => (b = true → y28.2.fail = 0 ∧ (y28.1.kind == 2 && y28.1.text == [58]) = false) ∧ (b = false → y28.2.fail = 0 → (y28.1.kind == 2 && y28.1.text == [58]) = true)) (fun b hb' => ?_) (fun k31 h31 => ?_)
          · refine Ok.ite (fun hbt => ?_) (fun hbf => ?_)
            · obtain ⟨g1, g2⟩ := hb'.1 hbt
              rw [pstopQ, Option.bind_some]
              refine h25 _ ⟨h28.tr.stop g1 (by decide) fun n _ _ => ⟨_, take_bad (fits4 g2)⟩, ?_, ?_⟩
              · rw [stopQ_ok g1]; simp only []; omega
              · rw [stopQ_ok g1]; intro hz; cases hz
            · refine h25 _ ⟨h28.tr.go fun hz => ?_, by simp only []; omega, fun hz => ?_⟩
              · have e := is_txt (hb'.2 hbf hz)
                rw [e]
                exact ⟨by simp, fun n => take_colon⟩
              · have e := is_txt (hb'.2 hbf hz)
                have := (h28.on hz).2 (by rw [e]; simp)
                simp only []; omega
          · refine Ok.ite (fun hz => ?_) (fun hz => h31 _ ⟨fun h => (by cases h), fun _ h => (by rw [h] at hz; simp at hz)⟩)
            rw [isQ, Option.bind_some]
            refine h31 _ ⟨fun h => ⟨(by simpa using hz), (by rw [Bool.not_eq_true'] at h; exact h)⟩, fun h _ => (by rw [Bool.not_eq_false'] at h; exact h)⟩
      · rw [rget_eq _ _ (by simp only []; omega), Option.bind_some]
        have hth : (getJ (ApiValue.mk 7 [] keys items) t.text).2 = decide (t.text ∈ keys) := by
          unfold getJ; rw [if_pos (by simp)]; exact getL_there _ _ _ hkl
        rw [hth]
        rcases h10 with ⟨hk3, rfl⟩ | ⟨hd, hm, hle2⟩
        · have et : t = ApiToken.mk 3 t.text t.at_ := by cases t; simp only at hk3; rw [hk3]
          by_cases hin : t.text ∈ keys
          · rw [if_pos (by simpa using hin), pstopQ, Option.bind_some]
            refine h17 _ ⟨hp.stop hf0 (by decide) fun n _ _ => ⟨inA st out (objV keys items) w n, ?_⟩, by rw [stopQ_ok hf0]; exact Int.le_refl _⟩
            rw [et, take_key hw, if_pos hin]
          · rw [if_neg (by simpa using hin)]
            refine h17 _ ⟨hp.go fun _ => ⟨by rw [hk3]; decide, fun n => ?_⟩, Int.le_refl _⟩
            conv => lhs; rw [et]
            rw [take_key hw, if_neg hin]
        · refine Ok.ite (fun _ => ?_) (fun _ => h17 _ ⟨hm.dead hd, hle2⟩)
          rw [pstopQ, Option.bind_some, stopQ_no hd]
          exact h17 _ ⟨hm.dead hd, hle2⟩
    · refine Ok.ite (fun hz => ?_) (fun hz => h11 _ (.inl ⟨by simpa using hz, rfl⟩))
      rw [pstopQ, Option.bind_some]
      refine h11 _ (.inr ⟨by rw [stopQ_ok hf0]; simp, hp.stop hf0 (by decide) fun n _ _ => ⟨_, take_bad (by rw [hfk]; simpa using hz)⟩, by rw [stopQ_ok hf0]; exact Int.le_refl _⟩)
end
end Go.VM
