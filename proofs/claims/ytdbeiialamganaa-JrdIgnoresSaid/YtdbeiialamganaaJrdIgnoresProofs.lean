/- The statement of JrdIgnores: the walks and the plain law, joined. -/
import Derived.Test.YtdbeiialamganaaRows
import Derived.Test.YtdbeiialamganaaRd
import Derived.Test.YtdbeiialamganaaJign
import Derived.Test.YtdbeiialamganaaW14
import Derived.ProofKit
set_option linter.unusedVariables false
set_option maxRecDepth 100000
namespace Go.Proofs.Ytdbeiialamganaa
open Go.ChangeShapes Go.WideShapes Go.ChangeAt Go.RowKit Go.VM
theorem Try.own : ownKnob Try.prog.godebug = none := by kernel_rfl
theorem Try.kids : Kids Try.prog (· < Try.prog.types.size) := kids_rows (by kernel_rfl) (by kernel_rfl)
theorem Try.full : ∀ t e, t < Try.prog.types.size → Try.prog.underlying t = some (.slice e) → 0 < Try.prog.cellsOf e := slices_full_of Try.prog (by kernel_rfl)
theorem typesLt : ∀ t, t ∈ [34, 25, 5] → t < Try.prog.types.size := fun t h => of_decide_eq_true (List.all_eq_true.1 (show ([34, 25, 5] : List Nat).all (fun t => decide (t < Try.prog.types.size)) = true by kernel_rfl) t h)

theorem jrdIgnores_lifted (os : Os) (started : os.Started) (H : Type) (enc : TypeId × Value → H) :
    ReturnsInHanded {} Try.checked os 4 .any (Rows.jrdIgnoresSpec.pre6 enc Try.prog Try.f4 Rows.jrdIgnoresRow.domain false) (Rows.jrdIgnoresSpec.post enc Try.prog Try.f4 false true false false) := by
  refine returnsInHanded_of_change_sized (C := Try.checked) Try.own started (by kernel_rfl) Try.func4
    (ChangeSpec.witness6 (enc := enc) (C := Try.checked) false ⟨#[], #[.agg #[.string ⟨#[]⟩, .slice none 0 0, .slice none 0 0, .slice none 0 0], .agg #[.int .i64 0, .string ⟨#[]⟩, .slice none 0 0, .slice none 0 0], .int .u8 0], []⟩ 8 (by kernel_rfl) (by kernel_rfl) (by kernel_rfl) (by kernel_rfl)) ?_
  intro W base args ds gs before hval0 hW hcnd hsz0 _
  have hval : ∀ (j : Nat) t v, Try.f4.params[j]? = some t → args[j]? = some v → Value.okWide Try.prog W .any base t v := hval0
  have hsz : (DataW.weightsEach Try.prog (Try.f4.params.toList ++ Rows.jrdIgnoresSpec.plain.varTypes Try.prog) (ds ++ gs)).all (· ≤ reachBytes) = true := hsz0
  have hW1 := hW
  obtain ⟨p, q, hA0, hV, _, _, _⟩ := hW1
  have hA : DataW.TrodAll enc Try.prog W 0 (fun _ => true) true Try.f4.params.toList args.toList ds p := hA0
  rw [Try.params4] at hA hval hsz
  obtain ⟨rfl, rfl⟩ := trodVars_none hV
  obtain ⟨v0, v1, v2, d0, d1, d2, p0, p1, p2, rfl, rfl, rfl, h0, h1, h2⟩ := trodAll_three hA
  clear hA0 hval0 hsz0
  obtain ⟨n0, t0⟩ := h0
  have w0 := weights_of hsz (j := 0) (t := 34) (d := d0) rfl rfl
  obtain ⟨l0, o0, a0, r0, k0⟩ := rd_ApiJRD n0 H enc W true n0 _ _ (Nat.le_refl _) t0 w0
  have R0 : Rep (ghost0 W) (encApiJRD a0) v0 := by rw [encApiJRD_eq]; exact rep_struct Try.underlying34 (hval 0 34 v0 rfl rfl) r0 o0
  obtain ⟨n1, t1⟩ := h1
  have w1 := weights_of hsz (j := 1) (t := 25) (d := d1) rfl rfl
  obtain ⟨l1, o1, a1, r1, k1⟩ := rd_ApiValue n1 H enc W true n1 _ _ (Nat.le_refl _) t1 w1
  have R1 : Rep (ghost0 W) (encApiValue a1) v1 := by rw [encApiValue_eq]; exact rep_struct Try.underlying25 (hval 1 25 v1 rfl rfl) r1 o1
  obtain ⟨n2, t2⟩ := h2
  have w2 := weights_of hsz (j := 2) (t := 5) (d := d2) rfl rfl
  obtain ⟨l2, o2, a2, r2, k2⟩ := (fun N => rds_int (N := N) Try.underlying5) n2 H enc W true n2 _ _ (Nat.le_refl _) t2 w2
  have R2 : Rep (ghost0 W) (.int .u8 a2) v2 := by
    obtain ⟨x, rfl⟩ := okWide_int Try.underlying5 (hval 2 5 v2 rfl rfl)
    cases r2 with
    | cons h _ => exact h
  refine (ACall.shell vE_T (args' := [encApiJRD a0, encApiValue a1, .int .u8 a2]) (.cons R0 (.cons R1 (.cons R2 .nil))) ?_ (law16_JrdIgnores_w (N := 1000) (jrdIgnores_said a0 k0 a1 k1 a2 k2) rfl (fun n' _ => Gl.mk rfl) : ACall vE 4 _ ⟨[], 0⟩ fun r _ => r = .bool true)).mono ?_
  · simp only [encApiValue_eq, encApiJRD_eq, stripL, AVal.strip]
  · rintro e W' ⟨v, he, hb, Γ, r, st, hr, hq⟩
    subst hq
    cases hr
    refine ⟨_, he, ?_⟩
    exact post_law hW rfl hb Try.kids (fun t e h => Try.full t e h) (by rw [Try.params4]; exact typesLt) rfl rfl rfl rfl Try.underlying4

theorem jrdIgnores_holds : Rows.JrdIgnoresSaid :=
  OpenClaim.holds_of_wide 4 Try.f4 rfl rfl rfl rfl rfl rfl rfl ⟨rfl, rfl, rfl, rfl, rfl⟩ rfl rfl rfl rfl rfl (by kernel_rfl) Try.func4 (by kernel_rfl)
    (of_decide_eq_true (by kernel_rfl)) (by unfold Func.isWrapper; first | (rw [if_pos (by decide +kernel)]; kernel_rfl) | (rw [if_neg (by decide +kernel)]; exact ⟨rfl, rfl⟩))
    (fun os started H enc _ => jrdIgnores_lifted os started H enc)

end Go.Proofs.Ytdbeiialamganaa
