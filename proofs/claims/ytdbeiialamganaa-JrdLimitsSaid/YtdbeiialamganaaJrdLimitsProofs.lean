/- The statement of JrdLimits: the walks and the plain law, joined. -/
import Derived.Test.YtdbeiialamganaaRows
import Derived.Test.YtdbeiialamganaaRd
import Derived.Test.YtdbeiialamganaaJlim
import Derived.Test.YtdbeiialamganaaW12
import Derived.ProofKit
set_option linter.unusedVariables false
set_option maxRecDepth 100000
namespace Go.Proofs.Ytdbeiialamganaa
open Go.ChangeShapes Go.WideShapes Go.ChangeAt Go.RowKit Go.VM
theorem Try.own : ownKnob Try.prog.godebug = none := by kernel_rfl
theorem Try.kids : Kids Try.prog (· < Try.prog.types.size) := kids_rows (by kernel_rfl) (by kernel_rfl)
theorem Try.full : ∀ t e, t < Try.prog.types.size → Try.prog.underlying t = some (.slice e) → 0 < Try.prog.cellsOf e := slices_full_of Try.prog (by kernel_rfl)
theorem typesLt : ∀ t, t ∈ [5, 5] → t < Try.prog.types.size := fun t h => of_decide_eq_true (List.all_eq_true.1 (show ([5, 5] : List Nat).all (fun t => decide (t < Try.prog.types.size)) = true by kernel_rfl) t h)

theorem jrdLimits_lifted (os : Os) (started : os.Started) (H : Type) (enc : TypeId × Value → H) :
    ReturnsInHanded {} Try.checked os 5 .any (Rows.jrdLimitsSpec.pre6 enc Try.prog Try.f5 Rows.jrdLimitsRow.domain false) (Rows.jrdLimitsSpec.post enc Try.prog Try.f5 false true false false) := by
  refine returnsInHanded_of_change_sized (C := Try.checked) Try.own started (by kernel_rfl) Try.func5
    (ChangeSpec.witness6 (enc := enc) (C := Try.checked) false ⟨#[], #[.int .u8 0, .int .u8 0], []⟩ 8 (by kernel_rfl) (by kernel_rfl) (by kernel_rfl) (by kernel_rfl)) ?_
  intro W base args ds gs before hval0 hW hcnd hsz0 _
  have hval : ∀ (j : Nat) t v, Try.f5.params[j]? = some t → args[j]? = some v → Value.okWide Try.prog W .any base t v := hval0
  have hsz : (DataW.weightsEach Try.prog (Try.f5.params.toList ++ Rows.jrdLimitsSpec.plain.varTypes Try.prog) (ds ++ gs)).all (· ≤ reachBytes) = true := hsz0
  have hW1 := hW
  obtain ⟨p, q, hA0, hV, _, _, _⟩ := hW1
  have hA : DataW.TrodAll enc Try.prog W 0 (fun _ => true) true Try.f5.params.toList args.toList ds p := hA0
  rw [Try.params5] at hA hval hsz
  obtain ⟨rfl, rfl⟩ := trodVars_none hV
  obtain ⟨v0, v1, d0, d1, p0, p1, rfl, rfl, rfl, h0, h1⟩ := trodAll_two hA
  clear hA0 hval0 hsz0
  obtain ⟨n0, t0⟩ := h0
  have w0 := weights_of hsz (j := 0) (t := 5) (d := d0) rfl rfl
  obtain ⟨l0, o0, a0, r0, k0⟩ := (fun N => rds_int (N := N) Try.underlying5) n0 H enc W true n0 _ _ (Nat.le_refl _) t0 w0
  have R0 : Rep (ghost0 W) (.int .u8 a0) v0 := by
    obtain ⟨x, rfl⟩ := okWide_int Try.underlying5 (hval 0 5 v0 rfl rfl)
    cases r0 with
    | cons h _ => exact h
  obtain ⟨n1, t1⟩ := h1
  have w1 := weights_of hsz (j := 1) (t := 5) (d := d1) rfl rfl
  obtain ⟨l1, o1, a1, r1, k1⟩ := (fun N => rds_int (N := N) Try.underlying5) n1 H enc W true n1 _ _ (Nat.le_refl _) t1 w1
  have R1 : Rep (ghost0 W) (.int .u8 a1) v1 := by
    obtain ⟨x, rfl⟩ := okWide_int Try.underlying5 (hval 1 5 v1 rfl rfl)
    cases r1 with
    | cons h _ => exact h
  refine (ACall.shell (fun g cs h => by rw [vE_T] at h; cases h) (args' := [.int .u8 a0, .int .u8 a1]) (.cons R0 (.cons R1 .nil)) ?_ (law16_JrdLimits_w (N := 13000) (jrdLimits_said a0 k0 a1 k1) rfl (fun n' _ => Gl.mk rfl) : ACall vE 5 _ ⟨[], 0⟩ fun r _ => r = .bool true)).mono ?_
  · simp only [stripL, AVal.strip]
  · rintro e W' ⟨v, he, hb, Γ, r, st, hr, hq⟩
    subst hq
    cases hr
    refine ⟨_, he, ?_⟩
    exact post_law hW rfl hb Try.kids (fun t e h => Try.full t e h) (by rw [Try.params5]; exact typesLt) rfl rfl rfl rfl Try.underlying4

theorem jrdLimits_holds : Rows.JrdLimitsSaid :=
  OpenClaim.holds_of_wide 5 Try.f5 rfl rfl rfl rfl rfl rfl rfl ⟨rfl, rfl, rfl, rfl, rfl⟩ rfl rfl rfl rfl rfl (by kernel_rfl) Try.func5 (by kernel_rfl)
    (of_decide_eq_true (by kernel_rfl)) (by unfold Func.isWrapper; first | (rw [if_pos (by decide +kernel)]; kernel_rfl) | (rw [if_neg (by decide +kernel)]; exact ⟨rfl, rfl⟩))
    (fun os started H enc _ => jrdLimits_lifted os started H enc)

end Go.Proofs.Ytdbeiialamganaa
