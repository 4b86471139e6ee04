import Derived.Test.YtfknikagmmfakaaGreatDoorVM7
set_option linter.unusedVariables false
namespace Go.VM
section
variable {E : Env} {D : DT} {Q : APost} {af : List AVal} {st : St}
theorem opsWp_then {mv : List Tmp} {ops : Array Oper} {Qc : Exit → Act → World → Prop} {L : List Nat} : ∀ (rest : List Oper) (i : Nat), (∀ j, j < rest.length → ops[i + j]? = rest[j]?) → ∀ {K : List AVal → St → Prop} {F : Nat → Nat} {Γ : Ghost} {st : St} {w : World} {af : List AVal} {a : Act},
    a.defers = [] → Sim E F Γ st w af a.tmps.toList → JL E mv ops rest K af st →
    (∀ Γ' af' st' a' w', Ext F Γ w Γ' w' → st.next ≤ st'.next → a'.defers = [] → Sim E F Γ' st' w' af' a'.tmps.toList → K af' st' → wpOps E.P ops Qc L a' w') →
    wpOps E.P ops Qc (List.range' i rest.length ++ L) a w := by
  intro rest
  induction rest with
  | nil => intro i hi K F Γ st w af a hd hs h hK; exact hK Γ af st a w (Ext.refl _ _ _) (Nat.le_refl _) hd hs h
  | cons o rest ih =>
    intro i hi K F Γ st w af a hd hs h hK
    have hoi : ops[i]? = some o := by simpa using hi 0 (by simp)
    have hi' : ∀ j, j < rest.length → ops[i + 1 + j]? = rest[j]? := by
      intro j hj
      have := hi (j + 1) (by simp; omega)
      rw [show i + (j + 1) = i + 1 + j by omega] at this
      simpa using this
    rw [List.length_cons, List.range'_succ, List.cons_append]
    simp only [wpOps, hoi]
    have go : CR E mv o af st (JL E mv ops rest K) → o.wp E.P a w (wpOps E.P ops Qc (List.range' (i + 1) rest.length ++ L)) Qc := fun h =>
      Q7 h F Γ w a hd hs _ _ fun Γ' af' st' a' w' x1 n1 d1 s1 k1 =>
        ih (i + 1) hi' d1 s1 k1 fun Γ2 af2 st2 a2 w2 x2 n2 d2 s2 k2 => hK Γ2 af2 st2 a2 w2 (x1.trans x2) (Nat.le_trans n1 n2) d2 s2 k2
    simp only [JL] at h
    split at h
    · simp_all[Region.wanted]
    · rename_i j want hg
      split at h
      · rename_i hgd
        rw [if_pos (by rw [Lr hg, QP hs hgd])]
        grind
      · rename_i hgd
        rw [if_neg (by rw [Lr hg, QP hs hgd]; simp)]
        exact ih (i + 1) hi' (by grind[put_defers]) (hs.skipped o.dst) h fun Γ2 af2 st2 a2 w2 x2 n2 d2 s2 k2 => hK Γ2 af2 st2 a2 w2 x2 n2 d2 s2 k2
      grind
theorem awp_app {id : Nat} {o0 o1 o2 : Oper} (mv : List Tmp) {x y : Operand} {t0 t1 : TypeId} {ts : List TypeId} (hop : o1.op = .call { callee := .builtin .append, args := #[x, y], argTypes := ⟨t0 :: t1 :: ts⟩ }) (hg : o1.guard = none)
    (h : JL E mv (List.toArray [o0, o1, o2]) [o0] (fun af st => MR (Acm E x t0 t1 (rd E af t1 y) st) o1.dst (fun af st => JL E mv (List.toArray [o0, o1, o2]) [o2] (fun af st => Q .normal af st) af st) af) af st) : AWp E (.region id (List.toArray [o0, o1, o2]) false) Q af st := by
  constructor
  intro F Γ w a hd hs
  refine wp_region ?_
  have key := opsWp_then (Qc := lift E F Γ w st.next Q) (L := [1, 2]) [o0] 0 (by intro j hj; simp at hj; subst hj; rfl) hd hs h fun Γ1 af1 st1 a1 w1 x1 n1 d1 s1 k1 => ?_
  · exact key
  unfold MR at k1
  split at k1
  · rename_i r st2 hr
    obtain ⟨nx, w2, a2, Γ2, hstep⟩ := AWZ s1 hop hr
    have e1 : (List.toArray [o0, o1, o2])[1]? = some o1 := rfl
    have hw : Region.wanted o1 (yielded (List.toArray [o0, o1, o2]) a1.tmps) = true := by simp [Region.wanted, hg]
    simp only [wpOps, e1, hw, if_true]
    refine .inl ?_
    show o1.upon E.P a1 _ _ ((execOp a1.eval o1).run E.P w1)
    rw [hstep.run]
    refine hstep.upon _ _ ?_
    have d2 : a2.defers = [] := hstep.defers.trans d1
    have k2 := opsWp_then (Qc := lift E F Γ w st.next Q) (L := []) [o2] 2 (by intro j hj; simp at hj; subst hj; rfl) d2 hstep.sim k1 fun Γ3 af3 st3 a3 w3 x3 n3 d3 s3 k3 => ⟨trivial, d3, Γ3, af3, st3, (x1.trans hstep.ext).trans x3, Nat.le_trans n1 (Nat.le_trans hstep.next n3), s3, k3⟩
    exact k2
  · exact k1.elim
theorem appW_go {id : Nat} {o0 o1 o2 : Oper} {c : Code} (mv : List Tmp) {x y : Operand} {t0 t1 : TypeId} (hD : DD D) (hop : o1.op = .call { callee := .builtin .append, args := #[x, y], argTypes := #[t0, t1] }) (hg : o1.guard = none)
    (h : Gl (JL E mv (List.toArray [o0, o1, o2]) [o0] (fun af st => MR (Acm E x t0 t1 (rd E af t1 y) st) o1.dst (fun af st => JL E mv (List.toArray [o0, o1, o2]) [o2] (nK (Gz (wpd E D c Q) Q)) af st) af) af st)) : Gl (AWp E (.seq (.region id (List.toArray [o0, o1, o2]) false) c) Q af st) :=
  ⟨QO ((awp_app (Q := Gz (wpd E D c Q) Q) mv hop hg h.go).mono fun e af' st' _ q => by
    cases e with
    | normal => exact DY q
    | _ => exact q)⟩
theorem an_nil {t0 t1 : TypeId} {w : Nat} {ys : List AVal} {p : Bool} : Acm E (.const (.slice none 0 0)) t0 t1 (.slice w ys p) st = anR (Ff E.P t0) (fun z => Lu z (.slice w ys p)) (decide (EI E.P t1 = none) && Aa E.P t1) st := by
  rw [← AkG (xs := []) (o := false)]
  unfold appW
  rw [show AKu E t0 t1 (.slice w [] false) (.slice w ys p) st = none from rfl]
end
end Go.VM
