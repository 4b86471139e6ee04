import Derived.Test.YtbmilkoebhmnnaaGreatDoorL6
import Derived.Test.YtbmilkoebhmnnaaGreatDoorRd
import Derived.KernelRfl
set_option linter.unusedVariables false
set_option linter.unusedSimpArgs false
namespace Go.VM
section
variable {N : Nat}
theorem W9 {l : List UInt8} : ∀ (E : Nat) (i : Int) (p : JPsr) (v : ApiValue) (n e : Int), Dr N l E i p = some (v, n, e) → e ≠ 0 → v = CG
  | 0, i, p, v, n, e, h, _ => by rw [Dr] at h; cases h
  | E + 1, i, p, v, n, e, h, he => by
    rw [Dr] at h
    cases h1 : GJ N l i with
    | none => rw [h1] at h; cases h
    | some y =>
      rw [h1, Option.bind_some] at h
      split at h
      · simp only [Option.some.injEq, Prod.mk.injEq] at h; exact h.1.symm
      · cases h2 : BC N p y.1 with
        | none => rw [h2] at h; cases h
        | some q =>
          rw [h2, Option.bind_some] at h
          split at h
          · simp only [Option.some.injEq, Prod.mk.injEq] at h; exact h.1.symm
          · split at h
            · simp only [Option.some.injEq, Prod.mk.injEq] at h; exact absurd h.2.2.symm he
            · exact W9 E _ _ v n e h he
theorem ABQ {v : ApiValue} (h : v.kind = 6 ∨ v.kind = 7) : ∃ c u d, wrV v = c :: (u ++ [d]) ∧ (c = 91 ∨ c = 123) ∧ wsB d = false := by
  obtain ⟨kind, text, keys, items⟩ := v
  simp only at h
  rcases h with rfl | rfl
  · exact ⟨91, _, 93, by rw [wrV]; rfl, .inl rfl, by decide⟩
  · exact ⟨123, _, 125, by rw [wrV]; rfl, .inr rfl, by decide⟩
theorem AJ0 {e : Nat} {v : ApiValue} {m : Nat} (hk : v.kind = 6 ∨ v.kind = 7) (hv : okW e v) (hs : Ed N v = true) (hn : GN v ≤ 64) (hc : Dk v ≤ 20000) (hl : (wrV v).length ≤ 1048576) (hN : 2000000 ≤ N) (hN2 : N ≤ 1099511627776) (hm : m < (wrV v).length) (r : ApiValue × Int × Int) (hr : BJ N ((wrV v).take m) = some r) : r.2.2 ≠ 0 ∧ r.1 = CG := by
  have p1 := ABH (N := N) (w := []) (w' := []) hv hs hn hc Hg Hg (PN e _ hv hs) (by simpa using hl) hN hN2
  simp only [List.nil_append, List.append_nil] at p1
  obtain ⟨c, u, d, hw, hcc, hd⟩ := ABQ hk
  generalize wrV v = l at *
  have hlx : (l.take m).length = m := by rw [List.length_take]; omega
  unfold BJ at hr p1
  rw [if_neg (by omega), if_neg (by omega)] at hr p1
  have hne : r.2.2 ≠ 0 := fun h0 => by
    obtain ⟨N', rfl⟩ : ∃ k, N = k + 1 := ⟨N - 1, by omega⟩
    have hx : Acc (N' + 1) (l.take m) (N' + 1) 0 ⟨[], 0, 0, CG⟩ := ⟨r.1, r.2.1, by rw [show ((0 : Nat) : Int) = 0 from rfl, hr, ← h0]⟩
    have hy : Acc (N' + 1) l (N' + 1) 0 ⟨[], 0, 0, CG⟩ := ⟨_, _, p1⟩
    obtain ⟨t, j, q, h1, h2, h3, h4, h5⟩ := KW (by omega) (by omega) (by omega) hx
    obtain ⟨t', j', q', k1, k2, k3, k4, k5⟩ := KW (by omega) (by omega) (by omega) hy
    have hpun : H6.contains c = true := by rcases hcc with rfl | rfl <;> decide
    have hws : wsB c = false := by rcases hcc with rfl | rfl <;> decide
    have hfit := Jb h4
    obtain _ | m := m
    · have e0 : Ey (N' + 1) (l.take 0) 0 = (ApiToken.mk 1 [] (0 : Nat), ((0 : Nat) : Int), 0) := rfl
      rw [e0] at h1
      simp only [Prod.mk.injEq] at h1
      have := Xi (by rw [← h1.1]) hfit
      exact absurd this.1 (by decide)
    · have ex : (l.take (m + 1)).drop 0 = [] ++ c :: (u ++ [d]).take m := by rw [List.drop_zero, hw]; rfl
      have el : l.drop 0 = [] ++ c :: (u ++ [d]) := by rw [List.drop_zero, hw]; rfl
      rw [Gj ex Hg (fun a r e => by cases e; exact hws), GR hpun] at h1
      rw [Gj el Hg (fun a r e => by cases e; exact hws), GR hpun] at k1
      simp only [Prod.mk.injEq, and_true] at h1 k1
      obtain ⟨rfl, h1⟩ := h1
      obtain ⟨rfl, k1⟩ := k1
      have ej : j = j' := by omega
      subst ej
      rw [h4] at k4
      simp only [Option.some.injEq, Prod.mk.injEq, and_true] at k4
      subst k4
      have a1 : Acc (N' + 1) (l.take (m + 1)) N' j q := by
        rcases h5 with e | e
        · cases e
        · exact e.2
      have a2 : Acc (N' + 1) l N' j q := by
        rcases k5 with e | e
        · cases e
        · exact e.2
      have hq : q.stack ≠ [] := by
        unfold BC at h4
        rw [if_neg (by rw [hfit]; decide), if_pos (by rfl)] at h4
        unfold F5 at h4
        rcases hcc with rfl | rfl
        · rw [if_pos (by rfl)] at h4
          simp only [Option.some.injEq] at h4
          exact open_inv h4
        · rw [if_neg (by decide), if_pos (by rfl)] at h4
          simp only [Option.some.injEq] at h4
          exact open_inv h4
      have hcat : l = l.take (m + 1) ++ l.drop (m + 1) := (List.take_append_drop _ _).symm
      rw [hcat] at a2
      refine YY (by rw [← hcat]; omega) (by rw [← hcat]; omega) ?_ N' j q (by omega) (.inr hq) a1 N' a2
      refine ⟨(c :: u).drop (m + 1), d, ?_, hd⟩
      have : m + 1 ≤ (c :: u).length := by
        have := congrArg List.length hw
        simp only [List.length_cons, List.length_append, List.length_nil] at this ⊢
        omega
      rw [hw, ← List.cons_append, List.drop_append_of_le_length this]
  exact ⟨hne, W9 N 0 _ r.1 r.2.1 r.2.2 hr hne⟩
theorem ADT {e : Nat} {v : ApiValue} (p : Nat) (hv : okW e v) (hs : Ed N v = true) (hN : 2000 ≤ N) : ∃ t j, GY N p (wrV v) = (t, j, 0) ∧ t.kind ≠ 1 ∧ t.at_ = (p : Int) ∧ ∀ c r, wrV v = c :: r → wsB c = false := by
  have ht := hv.text
  cases ME hs with
  | word k hk =>
    have : ∃ s, wrV ⟨k, [], [], []⟩ = s ∧ isWord s = true ∧ ∀ c r, s = c :: r → wsB c = false := by
      rcases hk with rfl | rfl | rfl
      · exact ⟨_, by rw [wrV], by decide, fun c r e => by cases e; decide⟩
      · exact ⟨_, by rw [wrV], by decide, fun c r e => by cases e; decide⟩
      · exact ⟨_, by rw [wrV], by decide, fun c r e => by cases e; decide⟩
    obtain ⟨s, e1, e2, e3⟩ := this
    have := Qm (N := N) (p := p) e2 QQ
    rw [List.append_nil] at this
    rw [e1]
    exact ⟨_, _, this, by simp, rfl, e3⟩
  | num s hn =>
    have e1 : wrV ⟨4, s, [], []⟩ = s := by rw [wrV]; rfl
    unfold Y7 UX at hn
    by_cases hc : s ≠ [] ∧ Bi s = s.length
    · have := UG (N := N) (p := p) hc.1 hc.2 QQ
      rw [List.append_nil] at this
      rw [e1]
      refine ⟨_, _, this, by simp, rfl, fun c r e => ?_⟩
      obtain ⟨c', r', e', h⟩ := Pg hc.1 hc.2
      rw [e] at e'
      simp only [List.cons.injEq] at e'
      rw [e'.1]
      exact (Qt h).1
    · rw [if_neg hc] at hn; simp at hn
  | str s hn =>
    have e1 : wrV ⟨5, s, [], []⟩ = CE s := by rw [wrV]; rfl
    have := OA (N := N) (p := p) (rest := []) hn (by simp only [] at ht; omega)
    rw [List.append_nil] at this
    rw [e1]
    exact ⟨_, _, this, by simp, rfl, fun c r e => by unfold CE at e; cases e; decide⟩
  | arr xs _ => rw [AFy]; exact ⟨_, _, GR (by decide), by simp, rfl, fun c r e => by cases e; decide⟩
  | obj ks xs _ _ _ => rw [AFP]; exact ⟨_, _, GR (by decide), by simp, rfl, fun c r e => by cases e; decide⟩
theorem AKE {e : Nat} {v v2 : ApiValue} (hv : okW e v) (hs : Ed N v = true) (hn : GN v ≤ 64) (hc : Dk v ≤ 20000) (hv2 : okW e v2) (hs2 : Ed N v2 = true) (hl : (wrV v ++ 32 :: wrV v2).length ≤ 1048576) (hN : 2000000 ≤ N) (hN2 : N ≤ 1099511627776) :
    BJ N (wrV v ++ 32 :: wrV v2) = some (CG, (((wrV v).length + 1 : Nat) : Int), 140) := by
  obtain ⟨t, j, e1, e2, e3, e4⟩ := ADT (N := N) ((wrV v).length + 1) hv2 hs2 (by omega)
  unfold BJ
  rw [if_neg (by omega), if_neg (by omega)]
  have hrun := Ps (N := N) (l := wrV v ++ 32 :: wrV v2) hl (by omega) e v 0 ⟨[], 0, 0, CG⟩ [] (wrV v) (32 :: wrV v2) hv hs Hg (PN e v hv hs) (by simp) (Fh (by decide)) (.inl rfl) (by simpa using hn) (by decide) (by simp only []; omega)
  obtain ⟨E, h1, h2⟩ := hrun N (by omega)
  simp only [List.length_append, List.length_cons, List.length_nil, Nat.zero_add, Nat.add_zero] at hl h1
  obtain ⟨E, rfl⟩ : ∃ k, E = k + 1 := ⟨E - 1, by omega⟩
  have hd : Bq { (⟨[], 0, 0, CG⟩ : JPsr) with nodes := (0 : Int) + Dk v } v = ⟨[], 6, (0 : Int) + Dk v, v⟩ := rfl
  rw [show ((0 : Nat) : Int) = 0 from rfl] at h2
  simp only [List.length_nil, Nat.zero_add, Nat.add_zero] at h2
  rw [h2, hd, Je (by simp only [List.length_append, List.length_cons]; omega) (by simp only [List.length_append, List.length_cons]; omega) E _ (by simp only [List.length_append, List.length_cons]; omega)]
  have hnx : Ey N (wrV v ++ 32 :: wrV v2) (wrV v).length = (t, j, 0) := by
    have hdrop : (wrV v ++ 32 :: wrV v2).drop (wrV v).length = [32] ++ wrV v2 := by rw [List.drop_left]; rfl
    rw [Gj hdrop (fun c h => by simp only [List.mem_singleton] at h; rw [h]; decide) e4]
    exact e1
  rw [hnx, if_neg (by simp), KS]
  unfold BC
  rw [if_pos (by rw [Jo ⟨rfl, rfl, rfl, rfl, rfl, rfl⟩]; simpa using e2), Option.bind_some, if_pos (show ((140 : Int) != 0) = true from rfl), e3]
end
theorem AIj : J4 1099511627776 = some true := by kernel_rfl
theorem AEh (v : ApiValue) : (EU v).kind = v.kind := by
  obtain ⟨kind, text, keys, items⟩ := v
  rw [EU]
  split <;> rfl
theorem NU (v : ApiValue) (_ : okApiValue v) (at_ : Int) (ha : (Lit.int .u16 at_).wf = true) (w : ApiValue) (_ : okApiValue w) : FP 1099511627776 v at_ w = some true := by
  have hat : 0 ≤ at_ ∧ at_ ≤ 65535 := by
    have := wf_u16 ha
    omega
  unfold FP
  rw [AIj, Option.bind_some, if_pos rfl]
  simp only [AO]
  obtain ⟨b, e1, hb⟩ := ZA (N := 1099511627776) (by omega) v 30 (by omega)
  obtain ⟨c, e2, hc⟩ := ZA (N := 1099511627776) (by omega) w 10 (by omega)
  rw [show (30 : Int) = ((30 : Nat) : Int) from rfl, e1, Option.bind_some]
  cases b
  · rfl
  rw [if_pos rfl, show (10 : Int) = ((10 : Nat) : Int) from rfl, e2, Option.bind_some]
  cases c
  · rfl
  rw [if_pos rfl]
  obtain ⟨hv, nv⟩ := hb rfl
  obtain ⟨hw, nw⟩ := hc rfl
  have key : (v.kind = 6 ∨ v.kind = 7) → (Option.bind (En 1099511627776 v) fun y11 => Option.bind (En 1099511627776 w) fun y13 =>
      if (y11.2 != 0) = true then some true else if (y13.2 != 0) = true then some true else
      grd ((y11.1.length : Int) ≠ 0) (Option.bind (sub y11.1 0 ((wr .i64 at_).tmod (y11.1.length : Int))) fun x19 => Option.bind (BJ 1099511627776 x19) fun y20 =>
      grd (Ab (y11.1.length + ([32] : List UInt8).length)) (grd (Ab ((y11.1 ++ ([32] : List UInt8)).length + y13.1.length)) (Option.bind (BJ 1099511627776 ((y11.1 ++ ([32] : List UInt8)) ++ y13.1)) fun y22 =>
      if (y20.2.2 != 0) = true then if (y20.1.kind == 0) = true then if (y22.2.2 == 140) = true then if (y22.2.1 == (wr .i64 ((y11.1.length : Int) + 1))) = true then some (y22.1.kind == 0) else some false else some false else some false else some false)))) = some true := fun hk => by
    rw [Sb (N := 1099511627776) (by omega) hv (by omega), Option.bind_some, Sb (N := 1099511627776) (by omega) hw (by omega), Option.bind_some]
    cases hcv : Rn 1099511627776 v
    · rfl
    cases hcw : Rn 1099511627776 w
    · rfl
    simp only [if_true]
    rw [if_neg (by decide), if_neg (by decide)]
    have hn : GN v ≤ 64 := by unfold Rn at hcv; rw [Bool.and_eq_true, decide_eq_true_eq] at hcv; exact hcv.1
    have hs : Ed 1099511627776 v = true := by unfold Rn at hcv; rw [Bool.and_eq_true] at hcv; exact hcv.2
    have hs2 : Ed 1099511627776 w = true := by unfold Rn at hcw; rw [Bool.and_eq_true] at hcw; exact hcw.2
    obtain ⟨o1, o2, o3, o4⟩ := Ka (N := 1099511627776) 70 v hv hs
    obtain ⟨q1, q2, q3, q4⟩ := Ka (N := 1099511627776) 70 w hw hs2
    have hl := L8 (N := 1099511627776) 70 (EU v) o1 o2
    have hl2 := L8 (N := 1099511627776) 70 (EU w) q1 q2
    have hk' : (EU v).kind = 6 ∨ (EU v).kind = 7 := by rw [AEh]; exact hk
    have hpos : 0 < (wrV (EU v)).length := by
      obtain ⟨c, u, d, e, _⟩ := ABQ hk'
      rw [e]; simp
    have two := AKE (N := 1099511627776) o1 o2 (by omega) (by omega) q1 q2 (by simp only [List.length_append, List.length_cons]; omega) (by omega) (by omega)
    generalize hL : wrV (EU v) = L at *
    obtain ⟨a, rfl⟩ := Int.eq_ofNat_of_zero_le hat.1
    have hm : a % L.length < L.length := Nat.mod_lt _ hpos
    have esub : sub L 0 ((wr .i64 (a : Int)).tmod (L.length : Int)) = some (L.take (a % L.length)) := by
      rw [Fa (by omega), show ((a : Nat) : Int).tmod (L.length : Int) = ((a % L.length : Nat) : Int) from rfl, show (0 : Int) = ((0 : Nat) : Int) from rfl, DX L 0 (a % L.length) (by omega) (by omega)]
      rfl
    rw [AL (by omega), esub, Option.bind_some]
    have hl3 : (L.take (a % L.length)).length ≤ 1048576 := by rw [List.length_take]; omega
    obtain ⟨r, hr⟩ := ZI (N := 1099511627776) (l := L.take (a % L.length)) (by omega) (by omega) (by omega)
    have hcut := AJ0 (N := 1099511627776) hk' o1 o2 (by omega) (by omega) (by rw [hL]; omega) (by omega) (by omega) (by rw [hL]; exact hm) r (by rw [hL]; exact hr)
    rw [hr, Option.bind_some, AL (by unfold Ab; simp; omega), AL (by unfold Ab; simp; omega), List.append_assoc, List.singleton_append, two, Option.bind_some]
    rw [if_pos (by simpa using hcut.1), if_pos (by rw [hcut.2]; rfl), if_pos (by rfl), if_pos (by rw [Au (by omega)]; simp)]
    rfl
  by_cases h6 : v.kind = 6
  · rw [if_neg (by simp [h6]), if_neg (by simp)]
    exact key (.inl h6)
  · rw [if_pos (by simpa using h6)]
    by_cases h7 : v.kind = 7
    · rw [if_neg (by simp [h7])]
      exact key (.inr h7)
    · rw [if_pos (by simpa using h7)]
end Go.VM
