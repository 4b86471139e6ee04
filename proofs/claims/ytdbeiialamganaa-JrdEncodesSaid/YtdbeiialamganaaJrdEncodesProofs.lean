/- The statement of JrdEncodes: the walks and the plain law, joined. -/
import Derived.Test.YtdbeiialamganaaRows
import Derived.Test.YtdbeiialamganaaRd
import Derived.Test.YtdbeiialamganaaEncodes2
import Derived.Test.YtdbeiialamganaaW23
import Derived.ProofKit
set_option linter.unusedVariables false
namespace Go.Proofs.Ytdbeiialamganaa
open Go.ChangeShapes Go.WideShapes Go.ChangeAt Go.RowKit Go.VM

theorem Try.own : ownKnob Try.prog.godebug = none := by kernel_rfl
theorem Try.kids : Kids Try.prog (· < Try.prog.types.size) := kids_rows (by kernel_rfl) (by kernel_rfl)
theorem Try.full : ∀ t e, t < Try.prog.types.size → Try.prog.underlying t = some (.slice e) → 0 < Try.prog.cellsOf e := slices_full_of Try.prog (by kernel_rfl)
theorem typesLt : ∀ t, t ∈ [34, 9] → t < Try.prog.types.size := fun t h => of_decide_eq_true (List.all_eq_true.1 (show [34, 9].all (fun t => decide (t < Try.prog.types.size)) = true by kernel_rfl) t h)

set_option maxRecDepth 100000 in
theorem jrdEncodes_lifted (os : Os) (started : os.Started) (H : Type) (enc : TypeId × Value → H) :
    ReturnsInHanded {} Try.checked os 6 .any (Rows.jrdEncodesSpec.pre6 enc Try.prog Try.f6 Rows.jrdEncodesRow.domain false) (Rows.jrdEncodesSpec.post enc Try.prog Try.f6 false true false false) := by
  refine returnsInHanded_of_change_sized (C := Try.checked) Try.own started (by kernel_rfl) Try.func6
    (ChangeSpec.witness6 (enc := enc) (C := Try.checked) false ⟨#[], #[.agg #[.string ⟨#[]⟩, .slice none 0 0, .slice none 0 0, .slice none 0 0], .string ⟨#[]⟩], []⟩ 8 (by kernel_rfl) (by kernel_rfl) (by kernel_rfl) (by kernel_rfl)) ?_
  intro W base args ds gs before hval0 hW hcnd hsz0 _
  have hval : ∀ (j : Nat) t v, Try.f6.params[j]? = some t → args[j]? = some v → Value.okWide Try.prog W .any base t v := hval0
  have hsz : (DataW.weightsEach Try.prog (Try.f6.params.toList ++ Rows.jrdEncodesSpec.plain.varTypes Try.prog) (ds ++ gs)).all (· ≤ reachBytes) = true := hsz0
  have hW1 := hW
  obtain ⟨p, q, hA0, hV, _, _, _⟩ := hW1
  have hA : DataW.TrodAll enc Try.prog W 0 (fun _ => true) true Try.f6.params.toList args.toList ds p := hA0
  rw [Try.params6] at hA hval hsz
  obtain ⟨rfl, rfl⟩ := trodVars_none hV
  obtain ⟨v0, v1, d0, d1, p0, p1, rfl, rfl, rfl, h0, h1⟩ := trodAll_two hA
  clear hA0 hval0 hsz0
  obtain ⟨n0, t0⟩ := h0
  obtain ⟨n1, t1⟩ := h1
  have w0 := weights_of hsz (j := 0) (t := 34) (d := d0) rfl rfl
  have w1 := weights_of hsz (j := 1) (t := 9) (d := d1) rfl rfl
  obtain ⟨l0, o0, j, r0, k0⟩ := rd_ApiJRD n0 H enc W true n0 _ _ (Nat.le_refl _) t0 w0
  obtain ⟨l1, o1, rel, r1, k1⟩ := rds_str Try.underlying9 (N := n1) H enc W true n1 _ _ (Nat.le_refl _) t1 w1
  have R0 : Rep (ghost0 W) (encApiJRD j) v0 := rep_struct Try.underlying34 (hval 0 34 v0 rfl rfl) r0 o0
  have R1 : Rep (ghost0 W) (.str rel) v1 := by
    obtain ⟨s, rfl⟩ := okWide_string Try.underlying9 (hval 1 9 v1 rfl rfl)
    cases r1 with
    | cons h _ => exact h
  refine (ACall.shell vE_T (args' := [encApiJRD j, .str rel]) (.cons R0 (.cons R1 .nil)) ?_ (law16_JrdEncodes_w (N := 1000) (jrdEncodes_true j rel))).mono ?_
  · simp only [encApiJRD, stripL, AVal.strip]
  · rintro e W' ⟨v, he, hb, Γ, r, st, hr, hq, _⟩
    subst hq
    cases hr
    refine ⟨_, he, ?_⟩
    exact post_law hW rfl hb Try.kids (fun t e h => Try.full t e h) (by rw [Try.params6]; exact typesLt) rfl rfl rfl rfl Try.underlying4

theorem jrdEncodes_holds : Rows.JrdEncodesSaid :=
  OpenClaim.holds_of_wide 6 Try.f6 rfl rfl rfl rfl rfl rfl rfl ⟨rfl, rfl, rfl, rfl, rfl⟩ rfl rfl rfl rfl rfl (by kernel_rfl) Try.func6 (by kernel_rfl)
    (of_decide_eq_true (by kernel_rfl)) (by unfold Func.isWrapper; first | (rw [if_pos (by decide +kernel)]; kernel_rfl) | (rw [if_neg (by decide +kernel)]; exact ⟨rfl, rfl⟩))
    (fun os started H enc _ => jrdEncodes_lifted os started H enc)

end Go.Proofs.Ytdbeiialamganaa
