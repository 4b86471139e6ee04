/- The program's parser of JSON texts and the reference's answer the same. -/
import Derived.Test.YtbmilkoebhmnnaaGreatDoorJrec
set_option linter.unusedVariables false
set_option linter.unusedSimpArgs false
namespace Go.VM
section
variable {N : Nat} {l : List UInt8}
def ValP (N : Nat) (l : List UInt8) (D : Nat) : Prop := ∀ (p : Ref14Parser) (t : ApiToken) (st : List ApiValue) (out : ApiValue) (w : Int) (X : Option (ApiValue × Int × Int)), TR N l X (fun n => ⟨st, w, n, out⟩) t p → (w = 0 ∨ w = 1) → (p.fail = 0 → ∀ n, jd_fits ⟨st, w, n, out⟩ t = jd_opens t) → st.length ≤ 64 → 2 * (64 - st.length) + 2 ≤ D → Ok (ref14_parser_value N D p t (st.length : Int)) (VQ N l X st out p)
def ArrP (N : Nat) (l : List UInt8) (D : Nat) : Prop := ∀ (p : Ref14Parser) (st : List ApiValue) (out : ApiValue) (X : Option (ApiValue × Int × Int)), MR N l X (inA st out (arrV []) 1) p → st.length < 64 → 2 * (63 - st.length) + 3 ≤ D → Ok (ref14_parser_array N D p ((st.length + 1 : Nat) : Int)) (VQ N l X st out p)
def ObjP (N : Nat) (l : List UInt8) (D : Nat) : Prop := ∀ (p : Ref14Parser) (st : List ApiValue) (out : ApiValue) (X : Option (ApiValue × Int × Int)), MR N l X (inA st out (objV [] []) 3) p → st.length < 64 → 2 * (63 - st.length) + 3 ≤ D → Ok (ref14_parser_object N D p ((st.length + 1 : Nat) : Int)) (VQ N l X st out p)
theorem arr_step (hb : l.length ≤ 1048576) (hN : l.length + 100 ≤ N) {D : Nat} (hv : ValP N l D) : ArrP N l (D + 1) := by
  intro p st out X hp hst hD
  rw [ref14_parser_array]
  refine Ok.bind (nextQ (by omega) (by omega) hp) fun y1 h1 => ?_
  rw [isQ, Option.bind_some]
  refine Ok.ite (fun hc => Ok.ret ⟨h1.tr.go fun _ => ?_, h1.le, fun hz => (h1.on hz).1⟩) (fun hc => ?_)
  · have e := is_txt hc
    rw [e]
    exact ⟨by simp, fun n => take_close (v := arrV []) (.inl rfl)⟩
  · have := leftQ_le (l := l) y1.2
    refine Ok.join (arr_loopQ hb hN st out X (ref14_parser_value N D) (fun q t v w hq hw hfit => ?_) p N y1.1 [] y1.2 1 h1.tr (.inr rfl) (fun _ n => fits1 hc) h1.le (fun hz => (h1.on hz).1) (by omega) (by simp; omega))
    have := hv q t (st ++ [v]) out w X hq hw hfit (by simp; omega) (by simp; omega)
    simpa using this
theorem obj_step (hb : l.length ≤ 1048576) (hN : l.length + 100 ≤ N) {D : Nat} (hv : ValP N l D) : ObjP N l (D + 1) := by
  intro p st out X hp hst hD
  rw [ref14_parser_object]
  refine Ok.bind (nextQ (by omega) (by omega) hp) fun y1 h1 => ?_
  rw [isQ, Option.bind_some]
  refine Ok.ite (fun hc => Ok.ret ⟨h1.tr.go fun _ => ?_, h1.le, fun hz => (h1.on hz).1⟩) (fun hc => ?_)
  · have e := is_txt hc
    rw [e]
    exact ⟨by simp, fun n => take_close (v := objV [] []) (.inr (.inl rfl))⟩
  · have := leftQ_le (l := l) y1.2
    refine Ok.join (obj_loopQ hb hN st out X (ref14_parser_value N D) (fun q t v w hq hw hfit => ?_) p N y1.1 [] [] y1.2 3 h1.tr (.inr rfl) (fun _ _ => hc) h1.le (fun hz => (h1.on hz).1) (by omega) (by simp; omega) rfl)
    have := hv q t (st ++ [v]) out w X hq hw hfit (by simp; omega) (by simp; omega)
    simpa using this
theorem jword (s : List UInt8) (h : isWord s = true) : ref14_word N s = some (jd_word s) := by
  unfold isWord at h
  simp only [Bool.or_eq_true, beq_iff_eq] at h
  rcases h with rfl | rfl | rfl <;> rfl
theorem stop_mk {s : List UInt8} {a n w i e : Int} : stopQ (Ref14Parser.mk s a n 0 w) i e = Ref14Parser.mk s a n e i := rfl
theorem stop_144 {s : List UInt8} {a n w i e : Int} : stopQ (Ref14Parser.mk s a n 144 w) i e = Ref14Parser.mk s a n 144 w := rfl
theorem opens_345 {t : ApiToken} (h : t.kind = 3 ∨ t.kind = 4 ∨ t.kind = 5) : jd_opens t = true := by unfold jd_opens; rcases h with h | h | h <;> simp [h]
theorem MR.vq {X : Option (ApiValue × Int × Int)} {st : List ApiValue} {out v : ApiValue} {p q : Ref14Parser} (h : MR N l X (aftS st out v) q) (hf : p.fail = 0) (ha : q.at_ = p.at_) : VQ N l X st out p (v, q) := ⟨h, by rw [ha]; exact Int.le_refl _, fun _ => hf⟩
theorem val_step (hb : l.length ≤ 1048576) (hN : l.length + 100 ≤ N) {D : Nat} (ha : ArrP N l D) (ho : ObjP N l D) : ValP N l (D + 1) := by
  intro p t st out w X h hw hfit hst hD
  rw [ref14_parser_value]
  by_cases hf : p.fail = 0
  rotate_left
  · refine Ok.meet (fun _ : Bool => True) (fun b _ => ?_) (fun k2 h2 => ?_)
    · rw [if_pos (by simpa using hf)]
      exact Ok.ret ⟨h.dead hf, Int.le_refl _, fun h => h⟩
    · simp only [isQ, Option.bind_some]
      refine Ok.ite (fun _ => h2 _ trivial) (fun _ => Ok.ite (fun _ => h2 _ trivial) (fun _ => Ok.ite (fun _ => h2 _ trivial) (fun _ => Ok.ite (fun _ => h2 _ trivial) (fun _ => h2 _ trivial))))
  · obtain ⟨htk, E, i, g1, g2, g3, g4, g5⟩ := h.ok hf
    have hfit := hfit hf
    have hw3 : w = 0 ∨ w = 1 := hw
    have hwr : wr .i64 (p.nodes + 1) = p.nodes + 1 := wr_i64 (by omega)
    have hps : p = Ref14Parser.mk p.s p.at_ p.nodes 0 p.where_ := by cases p; simp only at hf; rw [hf]
    have plain : ∀ v, (t.kind = 3 ∨ t.kind = 4 ∨ t.kind = 5) → (t.kind = 4 → token_Number N t.text = some (numS N t.text) ∧ (numS N t.text).2 = 0) → v = plainV N t → MR N l X (aftS st out v) (if p.nodes + 1 > 20000 then Ref14Parser.mk p.s p.at_ (p.nodes + 1) 142 t.at_ else Ref14Parser.mk p.s p.at_ (p.nodes + 1) p.fail p.where_) := by
      intro v hk hn hv
      refine h.count hf (by rcases hk with e | e | e <;> rw [e] <;> decide) fun n _ _ => ?_
      have e := take_plain (N := N) (n := n) hw ((hfit n).trans (opens_345 hk)) hk fun e => (hn e).1
      rw [if_neg (fun e => e.2 (hn e.1).2), put_done, ← hv] at e
      refine ⟨fun hc => ⟨_, by rw [e, if_pos hc]⟩, fun hc => by rw [e, if_neg hc]⟩
    rw [hf] at plain
    cases htk with
    | fin pos =>
      simp [joinK_eq, isQ, pstopQ, hf]
      refine Ok.ret (MR.vq (h.stop hf (by decide) fun n _ _ => ⟨_, take_bad ((hfit n).trans rfl)⟩) hf (by rw [stopQ_ok hf]))
    | pun c pos hc =>
      by_cases h91 : c = 91
      · subst h91
        by_cases h64 : st.length = 64
        · simp [joinK_eq, isQ, pstopQ, hf, h64]
          refine Ok.ret (MR.vq (h.stop hf (by decide) fun n _ _ => ⟨⟨st, w, n, out⟩, ?_⟩) hf (by rw [stopQ_ok hf]))
          rw [take_open 91 (.inl rfl) ((hfit n).trans rfl), if_pos rfl]
          simp [jd_open, h64]
        · have e64 : ¬ (st.length : Int) = 64 := by omega
          have ew : wr .i64 ((st.length : Int) + 1) = (st.length : Int) + 1 := wr_i64 (by omega)
          have ec : ((st.length + 1 : Nat) : Int) = (st.length : Int) + 1 := by omega
          have hm : MR N l X (inA st out (arrV []) 1) (if p.nodes + 1 > 20000 then Ref14Parser.mk p.s p.at_ (p.nodes + 1) 142 pos else Ref14Parser.mk p.s p.at_ (p.nodes + 1) p.fail p.where_) := by
            refine h.count hf (by simp) fun n _ _ => ?_
            have e := take_open (N := N) (st := st) (out := out) (w := w) (n := n) (p := pos) 91 (.inl rfl) ((hfit n).trans rfl)
            rw [if_pos rfl, open_step (by omega)] at e
            exact ⟨fun hc => ⟨_, by rw [e, if_pos hc]⟩, fun hc => by rw [e, if_neg hc]; rfl⟩
          rw [hf] at hm
          have fin := ha _ st out X hm (by omega) (by omega)
          rw [ec] at fin
          simp [joinK_eq, isQ, pstopQ, hf, e64, ew, hwr, stop_mk]
          by_cases hc : p.nodes + 1 > 20000
          · rw [if_pos hc] at fin ⊢
            obtain ⟨y, e, hy⟩ := fin
            rw [e]
            exact Ok.ret ⟨hy.1, hy.2.1, fun _ => hf⟩
          · rw [if_neg hc] at fin ⊢
            obtain ⟨y, e, hy⟩ := fin
            rw [e]
            exact Ok.ret ⟨hy.1, hy.2.1, fun _ => hf⟩
      · by_cases h123 : c = 123
        · subst h123
          by_cases h64 : st.length = 64
          · simp [joinK_eq, isQ, pstopQ, hf, h64]
            refine Ok.ret (MR.vq (h.stop hf (by decide) fun n _ _ => ⟨⟨st, w, n, out⟩, ?_⟩) hf (by rw [stopQ_ok hf]))
            rw [take_open 123 (.inr rfl) ((hfit n).trans rfl), if_neg (by decide)]
            simp [jd_open, h64]
          · have e64 : ¬ (st.length : Int) = 64 := by omega
            have ew : wr .i64 ((st.length : Int) + 1) = (st.length : Int) + 1 := wr_i64 (by omega)
            have ec : ((st.length + 1 : Nat) : Int) = (st.length : Int) + 1 := by omega
            have hm : MR N l X (inA st out (objV [] []) 3) (if p.nodes + 1 > 20000 then Ref14Parser.mk p.s p.at_ (p.nodes + 1) 142 pos else Ref14Parser.mk p.s p.at_ (p.nodes + 1) p.fail p.where_) := by
              refine h.count hf (by simp) fun n _ _ => ?_
              have e := take_open (N := N) (st := st) (out := out) (w := w) (n := n) (p := pos) 123 (.inr rfl) ((hfit n).trans rfl)
              rw [if_neg (by decide), open_step (by omega)] at e
              exact ⟨fun hc => ⟨_, by rw [e, if_pos hc]⟩, fun hc => by rw [e, if_neg hc]; rfl⟩
            rw [hf] at hm
            have fin := ho _ st out X hm (by omega) (by omega)
            rw [ec] at fin
            simp [joinK_eq, isQ, pstopQ, hf, e64, ew, hwr, stop_mk]
            by_cases hc : p.nodes + 1 > 20000
            · rw [if_pos hc] at fin ⊢
              obtain ⟨y, e, hy⟩ := fin
              rw [e]
              exact Ok.ret ⟨hy.1, hy.2.1, fun _ => hf⟩
            · rw [if_neg hc] at fin ⊢
              obtain ⟨y, e, hy⟩ := fin
              rw [e]
              exact Ok.ret ⟨hy.1, hy.2.1, fun _ => hf⟩
        · have ho : jd_opens (ApiToken.mk 2 [c] pos) = false := by simp [jd_opens, h91, h123]
          simp [joinK_eq, isQ, pstopQ, hf, h91, h123]
          refine Ok.ret (MR.vq (h.stop hf (by decide) fun n _ _ => ⟨_, take_bad ((hfit n).trans ho)⟩) hf (by rw [stopQ_ok hf]))
    | txt s pos hs =>
      have hm := plain _ (.inl rfl) (fun e => by cases e) rfl
      simp [joinK_eq, isQ, pstopQ, hf, hwr, stop_mk]
      by_cases hc : p.nodes + 1 > 20000
      · rw [if_pos hc] at hm ⊢; exact Ok.ret (MR.vq hm hf rfl)
      · rw [if_neg hc] at hm ⊢; exact Ok.ret (MR.vq hm hf rfl)
    | num s pos h0 hn hl =>
      obtain ⟨n1, n2, n3⟩ := num_same (N := N) h0 hn (by omega) (by omega)
      by_cases hz : (numS N s).2 = 0
      · have hm := plain _ (.inr (.inl rfl)) (fun _ => ⟨n1, hz⟩) rfl
        simp [joinK_eq, isQ, pstopQ, hf, n2, hz, hwr, stop_mk]
        by_cases hc : p.nodes + 1 > 20000
        · rw [if_pos hc] at hm ⊢; exact Ok.ret (MR.vq hm hf rfl)
        · rw [if_neg hc] at hm ⊢; exact Ok.ret (MR.vq hm hf rfl)
      · have h144 : (numS N s).2 = 144 := by rcases n3 with e | e; exact absurd e hz; rw [e]
        have hm : ∀ (q : Int) (v : ApiValue), MR N l X (aftS st out v) (Ref14Parser.mk p.s p.at_ q 144 pos) := fun q v => by
          refine ⟨h.s, h.lo, h.hi, fun _ => ?_, fun hz => by cases hz⟩
          have := (h.stop (S' := aftS st out v) hf (e := 144) (by decide) fun n _ _ => ⟨⟨st, w, n, out⟩, by
            rw [take_plain (N := N) hw ((hfit n).trans rfl) (.inr (.inl rfl)) fun _ => n1, if_pos ⟨rfl, hz⟩]⟩).bad (by rw [stopQ_ok hf]; simp)
          rw [stopQ_ok hf] at this
          exact this
        simp [joinK_eq, isQ, pstopQ, hf, n2, h144, stopQ_ok hf, hwr, stop_144]
        exact Ok.ret (MR.vq (hm _ _) hf rfl)
    | wrd s pos hs =>
      have hm := plain _ (.inr (.inr rfl)) (fun e => by cases e) rfl
      simp [joinK_eq, isQ, pstopQ, hf, jword s hs, hwr, stop_mk]
      by_cases hc : p.nodes + 1 > 20000
      · rw [if_pos hc] at hm ⊢; exact Ok.ret (MR.vq hm hf rfl)
      · rw [if_neg hc] at hm ⊢; exact Ok.ret (MR.vq hm hf rfl)
theorem all_steps (hb : l.length ≤ 1048576) (hN : l.length + 100 ≤ N) : ∀ D, ValP N l D ∧ ArrP N l D ∧ ObjP N l D
  | 0 => ⟨fun p t st out w X _ _ _ _ h => by omega, fun p st out X _ _ h => by omega, fun p st out X _ _ h => by omega⟩
  | D + 1 => by
    obtain ⟨h1, h2, h3⟩ := all_steps hb hN D
    exact ⟨val_step hb hN h2 h3, arr_step hb hN h1, obj_step hb hN h1⟩
/-- both parsers, on every text -/
theorem parse_both (hN : l.length + 200 ≤ N) (hN2 : N ≤ 1099511627776) : ∃ r, ref14_Parse N l = some r ∧ jsondoc_Parse N l = some r := by
  unfold ref14_Parse jsondoc_Parse
  rw [if_neg (show ¬ N > 1099511627776 by omega)]
  by_cases hb : l.length > 1048576
  · rw [if_pos (by simp; omega), if_pos hb]; exact ⟨_, rfl, rfl⟩
  · rw [if_neg (by simp; omega), if_neg hb]
    have h0 : MR N l (jd_loop N l N 0 ⟨[], 0, 0, jd_zero⟩) (fun n => ⟨[], 0, n, jd_zero⟩) (Ref14Parser.mk l 0 0 0 0) := ⟨rfl, Int.le_refl _, by simp only []; omega, fun h => absurd rfl h, fun _ => ⟨N, 0, rfl, by omega, Int.le_refl _, by simp, rfl⟩⟩
    have key : Ok (Option.bind (ref14_parser_next N (Ref14Parser.mk l 0 0 0 0)) fun y1 =>
      Option.bind (ref14_parser_value N N y1.2 y1.1 0) fun y3 =>
      joinK (fun j5 : Ref14Parser => if (j5.fail != 0) = true then some (ApiValue.mk 0 [] [] [], j5.where_, j5.fail) else some (y3.1, (l.length : Int), 0)) fun k6 =>
      Option.bind (ref14_parser_next N y3.2) fun y9 =>
      joinK (fun j11 : Bool => if j11 = true then Option.bind (ref14_parser_stop N y9.2 y9.1.at_ 140) fun y15 => k6 y15 else k6 y9.2) fun k12 =>
      if (y9.2.fail == 0) = true then k12 (y9.1.kind != 1) else k12 false) (fun r => jd_loop N l N 0 ⟨[], 0, 0, jd_zero⟩ = some r) := by
      refine Ok.bind (nextQ (by omega) (by omega) h0) fun y1 h1 => ?_
      refine Ok.bind ((all_steps (by omega) (by omega) N).1 y1.2 y1.1 [] jd_zero 0 _ h1.tr (.inl rfl) (fun _ n => fits0 rfl) (by simp) (by simp; omega)) fun y3 h3 => ?_
      refine Ok.bind (nextQ (by omega) (by omega) h3.1) fun y9 h9 => ?_
      simp only [joinK_eq]
      by_cases hf : y9.2.fail = 0
      · rw [if_pos (by simpa using hf)]
        obtain ⟨_, E, i, g1, g2, g3, g4, g5⟩ := h9.tr.ok hf
        have hfit : jd_fits (aftS [] jd_zero y3.1 y9.2.nodes) y9.1 = (y9.1.kind == 1) := by simp [aftS, jd_done, jd_fits]
        by_cases hk : y9.1.kind = 1
        · rw [if_neg (by simpa using hk), if_neg (by simpa using hf)]
          refine Ok.ret ?_
          rw [g5, mstep]
          unfold jd_take
          rw [if_neg (by rw [hfit]; simpa using hk), hk]
          simp [aftS, jd_done]
        · rw [if_pos (by simpa using hk), pstopQ, Option.bind_some, stopQ_ok hf, if_pos (by simp)]
          refine Ok.ret ?_
          rw [g5, mstep, take_bad (by rw [hfit]; simpa using hk), Option.bind_some, if_pos (by simp)]
          rfl
      · rw [if_neg (by simpa using hf), if_neg (by simp), if_pos (by simpa using hf)]
        refine Ok.ret ?_
        rw [(h9.tr.bad hf).1]
        rfl
    obtain ⟨r, e1, e2⟩ := key
    exact ⟨r, e1, e2⟩
end
end Go.VM
