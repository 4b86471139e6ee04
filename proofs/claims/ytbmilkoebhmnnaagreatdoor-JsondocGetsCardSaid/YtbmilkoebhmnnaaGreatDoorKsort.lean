/- Keys in order: the reference's sort. -/
import Derived.Test.YtbmilkoebhmnnaaGreatDoorQuote
import Derived.Test.YtbmilkoebhmnnaaGreatDoorOk
set_option linter.unusedVariables false
set_option linter.unusedSimpArgs false
namespace Go.VM
theorem u8_tri (a b : UInt8) : a < b ∨ a = b ∨ b < a := by
  rcases Nat.lt_trichotomy a.toNat b.toNat with h | h | h
  · exact .inl (UInt8.lt_iff_toNat_lt.2 h)
  · exact .inr (.inl (UInt8.toNat_inj.1 h))
  · exact .inr (.inr (UInt8.lt_iff_toNat_lt.2 h))
theorem u8_irr (a : UInt8) : ¬ a < a := fun h => Nat.lt_irrefl _ (UInt8.lt_iff_toNat_lt.1 h)
theorem u8_tr {a b c : UInt8} (h : a < b) (k : b < c) : a < c := UInt8.lt_iff_toNat_lt.2 (Nat.lt_trans (UInt8.lt_iff_toNat_lt.1 h) (UInt8.lt_iff_toNat_lt.1 k))
theorem bl_tri : ∀ a b : List UInt8, Op.bytesLess a b = true ∨ a = b ∨ Op.bytesLess b a = true
  | [], [] => .inr (.inl rfl)
  | [], _ :: _ => .inl (by simp [Op.bytesLess])
  | _ :: _, [] => .inr (.inr (by simp [Op.bytesLess]))
  | a :: x, b :: y => by
    simp only [Op.bytesLess, Bool.or_eq_true, decide_eq_true_eq, Bool.and_eq_true, beq_iff_eq]
    rcases u8_tri a b with h | rfl | h
    · exact .inl (.inl h)
    · rcases bl_tri x y with h | rfl | h
      · exact .inl (.inr ⟨rfl, h⟩)
      · exact .inr (.inl rfl)
      · exact .inr (.inr (.inr ⟨rfl, h⟩))
    · exact .inr (.inr (.inl h))
theorem bl_irr : ∀ a : List UInt8, Op.bytesLess a a = false
  | [] => rfl
  | a :: x => by simp [Op.bytesLess, u8_irr, bl_irr x]
theorem bl_tr : ∀ {a b c : List UInt8}, Op.bytesLess a b = true → Op.bytesLess b c = true → Op.bytesLess a c = true
  | [], [], _, h, _ => by simp [Op.bytesLess] at h
  | [], _ :: _, [], _, k => by simp [Op.bytesLess] at k
  | [], _ :: _, _ :: _, _, _ => by simp [Op.bytesLess]
  | _ :: _, [], _, h, _ => by simp [Op.bytesLess] at h
  | _ :: _, _ :: _, [], _, k => by simp [Op.bytesLess] at k
  | a :: x, b :: y, c :: z, h, k => by
    simp only [Op.bytesLess, Bool.or_eq_true, decide_eq_true_eq, Bool.and_eq_true, beq_iff_eq] at h k ⊢
    rcases h with h | ⟨rfl, h⟩
    · rcases k with k | ⟨rfl, k⟩
      · exact .inl (u8_tr h k)
      · exact .inl h
    · rcases k with k | ⟨rfl, k⟩
      · exact .inl k
      · exact .inr ⟨rfl, bl_tr h k⟩
def leB (a b : List UInt8) : Bool := Op.bytesLess a b || a == b
theorem leB_total (a b : List UInt8) : (leB a b || leB b a) = true := by
  unfold leB
  rcases bl_tri a b with h | rfl | h <;> simp [*]
theorem leB_trans (a b c : List UInt8) (h : leB a b = true) (k : leB b c = true) : leB a c = true := by
  unfold leB at *
  simp only [Bool.or_eq_true, beq_iff_eq] at *
  rcases h with h | rfl
  · rcases k with k | rfl
    · exact .inl (bl_tr h k)
    · exact .inl h
  · exact k
theorem leB_anti {a b : List UInt8} (h : leB a b = true) (k : leB b a = true) : a = b := by
  unfold leB at *
  simp only [Bool.or_eq_true, beq_iff_eq] at *
  rcases h with h | rfl
  · rcases k with k | rfl
    · have := bl_tr h k; rw [bl_irr] at this; cases this
    · rfl
  · rfl
def Asc (l : List (List UInt8)) : Prop := l.Pairwise fun a b => leB a b = true
theorem asc_unique {l m : List (List UInt8)} (hp : l.Perm m) (h1 : Asc l) (h2 : Asc m) : l = m :=
  List.Perm.eq_of_pairwise (le := fun a b => leB a b = true) (fun a b _ _ => leB_anti) h1 h2 hp
def sortK (l : List (List UInt8)) : List (List UInt8) := l.mergeSort leB
theorem sortK_perm (l : List (List UInt8)) : (sortK l).Perm l := List.mergeSort_perm l leB
theorem sortK_asc (l : List (List UInt8)) : Asc (sortK l) := List.pairwise_mergeSort leB_trans leB_total l
section
variable {N : Nat}
theorem fits16 {n : Nat} (h : n ≤ 1000000000) : fitsA n 16 := by unfold fitsA; omega
theorem sorted_loop : ∀ (k : Nat) (a b o : List (List UInt8)), a.length + b.length < k → a.length + b.length + o.length ≤ 1000000 →
    ref15_sorted_L1 N (fun j7 => grd (fitsA (j7.2.2.length + j7.1.length) 16) (grd (fitsA ((j7.2.2 ++ j7.1).length + j7.2.1.length) 16) (some ((j7.2.2 ++ j7.1) ++ j7.2.1)))) k a b o = some (o ++ List.merge a b leB)
  | 0, _, _, _, h, _ => by omega
  | k + 1, [], b, o, h, hb => by
    rw [ref15_sorted_L1]
    simp only [List.length_nil] at hb
    simp only [joinK_eq, List.length_nil, if_neg (show ¬ decide ((((0 : Nat) : Int)) > 0) = true by decide), Bool.false_eq_true, if_false]
    rw [grd_true (fits16 (by simp; omega)), grd_true (fits16 (by simp; omega))]
    simp
  | k + 1, x :: a, [], o, h, hb => by
    rw [ref15_sorted_L1]
    simp only [List.length_nil, List.length_cons] at hb
    have c1 : decide ((((x :: a).length : Nat) : Int) > 0) = true := by simp
    simp only [joinK_eq, c1, if_true, List.length_nil, show decide ((((0 : Nat) : Int)) > 0) = false from rfl, Bool.false_eq_true, if_false]
    rw [grd_true (fits16 (by simp; omega)), grd_true (fits16 (by simp; omega))]
    simp
  | k + 1, x :: a, y :: b, o, h, hb => by
    rw [ref15_sorted_L1]
    simp only [List.length_cons] at hb h
    have c1 : decide ((((x :: a).length : Nat) : Int) > 0) = true := by simp
    have c2 : decide ((((y :: b).length : Nat) : Int) > 0) = true := by simp
    have i1 : idx (x :: a) 0 = some x := rfl
    have i2 : idx (y :: b) 0 = some y := rfl
    have s1 : sub (x :: a) 1 (((x :: a).length : Nat) : Int) = some a := by
      have := sub_nat (x :: a) 1 (x :: a).length (by simp) (by simp)
      simpa using this
    have s2 : sub (y :: b) 1 (((y :: b).length : Nat) : Int) = some b := by
      have := sub_nat (y :: b) 1 (y :: b).length (by simp) (by simp)
      simpa using this
    simp only [joinK_eq, c1, c2, if_true, i1, i2, Option.bind_some, s1, s2]
    rw [grd_true (fits16 (by omega)), List.cons_merge_cons]
    show (if leB x y = true then _ else _) = _
    split
    · rw [sorted_loop k a (y :: b) (o ++ [x]) (by simp; omega) (by simp; omega)]; simp
    · rw [grd_true (fits16 (by omega)), sorted_loop k (x :: a) b (o ++ [y]) (by simp; omega) (by simp; omega)]; simp
theorem sorted_ok : ∀ (D : Nat) (l : List (List UInt8)), l.length ≤ D → l.length ≤ 1000000 → l.length < N → ∃ s, ref15_sorted N (D + 1) l = some s ∧ s.Perm l ∧ Asc s
  | D, l, hD, hb, hN => by
    rw [ref15_sorted]
    by_cases h2 : l.length < 2
    · rw [if_pos (by simp; omega)]
      refine ⟨l, rfl, List.Perm.refl _, ?_⟩
      match l, h2 with
      | [], _ => exact .nil
      | [x], _ => exact List.pairwise_singleton _ _
      | _ :: _ :: _, h2 => simp only [List.length_cons] at h2; omega
    · rw [if_neg (by simp; omega)]
      obtain ⟨D, rfl⟩ : ∃ e, D = e + 1 := ⟨D - 1, by omega⟩
      have e0 : wr .i64 ((l.length : Int).tdiv 2) = ((l.length / 2 : Nat) : Int) := by
        rw [show (l.length : Int).tdiv 2 = ((l.length / 2 : Nat) : Int) from rfl]
        exact wr_nat (by omega)
      have l1 : (l.take (l.length / 2)).length = l.length / 2 := by rw [List.length_take]; omega
      have l2 : (l.drop (l.length / 2)).length = l.length - l.length / 2 := by rw [List.length_drop]
      obtain ⟨s1, a1, a2, a3⟩ := sorted_ok D (l.take (l.length / 2)) (by omega) (by omega) (by omega)
      obtain ⟨s2, b1, b2, b3⟩ := sorted_ok D (l.drop (l.length / 2)) (by omega) (by omega) (by omega)
      have n1 := a2.length_eq; have n2 := b2.length_eq
      rw [e0, show (0 : Int) = ((0 : Nat) : Int) from rfl, sub_nat l 0 (l.length / 2) (by omega) (by omega), Option.bind_some]
      simp only [List.drop_zero, Nat.sub_zero]
      rw [a1, Option.bind_some, sub_nat l (l.length / 2) l.length (by omega) (by omega), Option.bind_some, List.take_of_length_le (by rw [l2]; exact Nat.le_refl _), b1, Option.bind_some, joinK_eq]
      rw [sorted_loop N s1 s2 [] (by omega) (by simp; omega)]
      refine ⟨_, rfl, ?_, ?_⟩
      · have := (List.merge_perm_append (le := leB) (xs := s1) (ys := s2)).trans (a2.append b2)
        simpa using this
      · exact List.pairwise_merge leB_trans leB_total s1 s2 a3 b3
theorem sorted_eq (l : List (List UInt8)) (hb : l.length ≤ 1000000) (hN : l.length < N) : ref15_sorted N N l = some (sortK l) := by
  obtain ⟨M, rfl⟩ : ∃ M, N = M + 1 := ⟨N - 1, by omega⟩
  obtain ⟨s, h1, h2, h3⟩ := sorted_ok (N := M + 1) M l (by omega) hb hN
  rw [h1, asc_unique (h2.trans (sortK_perm l).symm) h3 (sortK_asc l)]
/-- keys are different and texts -/
def diffK (N : Nat) (l : List (List UInt8)) : Bool := decide l.Nodup && l.all fun k => (countS N k).isSome
theorem asc_nodup {a b : List UInt8} {l : List (List UInt8)} (h : Asc (a :: b :: l)) (hne : a ≠ b) : a ∉ b :: l := by
  intro hm
  rcases List.mem_cons.1 hm with e | hm
  · exact hne e
  · unfold Asc at h
    simp only [List.pairwise_cons, List.mem_cons] at h
    have h1 := h.1 b (.inl rfl)
    have h2 := h.2.1 a hm
    exact hne (leB_anti h1 h2)
theorem diff_loop (k4 : Unit → Option Bool) (h4 : k4 () = some true) (s : List (List UInt8)) (hb : s.length ≤ 1000000) : ∀ (suf pre : List (List UInt8)), s = pre ++ suf → Asc s → (∀ k, k ∈ suf → k.length ≤ 2 ^ 50 ∧ k.length + 5 ≤ N) →
    ref15_different_L1 N s k4 suf (pre.length : Int) = some ((match pre.getLast? with | some x => decide (x ∉ suf) | none => true) && decide suf.Nodup && suf.all fun k => (countS N k).isSome)
  | [], pre, hs, _, _ => by rw [ref15_different_L1, h4]; cases pre.getLast? <;> simp
  | k :: suf, pre, hs, ha, hl => by
    have hk := hl k (by simp)
    have ih := diff_loop k4 h4 s hb suf (pre ++ [k]) (by rw [hs]; simp) ha (fun x hx => hl x (by simp [hx]))
    simp only [List.getLast?_append, List.getLast?_singleton, Option.some_or] at ih
    have hlen : pre.length < s.length := by rw [hs]; simp
    rw [ref15_different_L1]
    simp only [joinK_eq]
    rw [rvalid_eq (by omega) (by omega), Option.bind_some, len_snoc pre k, ih]
    cases hv : (countS N k).isSome
    · simp [hv]
    · simp only [if_true]
      rcases List.eq_nil_or_concat pre with rfl | ⟨p, x, rfl⟩
      · simp [hv, List.nodup_cons, Bool.and_comm, Bool.and_assoc]
      · have hx : idx s (wr .i64 (((p.concat x).length : Int) - 1)) = some x := by
          have e : (((p.concat x).length : Int) - 1) = ((p.length : Nat) : Int) := by simp
          rw [e, wr_nat (by simp at hlen; omega), idx_nat, hs]
          simp
        rw [if_pos (by simp), hx, Option.bind_some]
        have ha2 : Asc (x :: k :: suf) := by
          have : s = p ++ (x :: k :: suf) := by rw [hs]; simp
          rw [this] at ha
          exact (List.pairwise_append.1 ha).2.1
        by_cases hxk : x = k
        · subst hxk; simp
        · have hnm := asc_nodup ha2 hxk
          simp [hxk, hv, hnm, List.nodup_cons, Bool.and_comm, Bool.and_assoc]
theorem different_eq (l : List (List UInt8)) (hb : l.length ≤ 1000000) (hN : l.length < N) (hl : ∀ k, k ∈ l → k.length ≤ 2 ^ 50 ∧ k.length + 5 ≤ N) : ref15_different N l = some (diffK N l) := by
  have hp := sortK_perm l
  unfold ref15_different
  rw [sorted_eq l hb hN, Option.bind_some, joinK_eq, grdS (by rw [hp.length_eq]; omega)]
  have := diff_loop (N := N) (fun _ => some true) rfl (sortK l) (by rw [hp.length_eq]; exact hb) (sortK l) [] rfl (sortK_asc l) (fun k hk => hl k (hp.mem_iff.1 hk))
  refine this.trans ?_
  unfold diffK
  congr 1
  have e1 : decide (sortK l).Nodup = decide l.Nodup := by rw [decide_eq_decide]; exact hp.nodup_iff
  have e2 : ((sortK l).all fun k => (countS N k).isSome) = l.all fun k => (countS N k).isSome := by
    rw [Bool.eq_iff_iff, List.all_eq_true, List.all_eq_true]
    exact ⟨fun h x hx => h x (hp.mem_iff.2 hx), fun h x hx => h x (hp.mem_iff.1 hx)⟩
  simp [e1, e2]
end
end Go.VM
