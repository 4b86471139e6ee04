/- The statement of JsondocTwice: the walks and the plain law, joined. -/
import Derived.Test.YtbmilkoebhmnnaaDoorCards
import Derived.Test.YtbmilkoebhmnnaaDoorTie
import Derived.Test.YtbmilkoebhmnnaaDoorRd
import Derived.Test.YtbmilkoebhmnnaaDoorVM3
import Derived.Test.YtbmilkoebhmnnaaDoorL6
import Derived.Test.YtbmilkoebhmnnaaDoorW14
import Derived.ProofKit
import Derived.WalkKit
import Derived.OpenShut
import Derived.Deep.DeepHandedRow
set_option linter.unusedVariables false
set_option maxRecDepth 100000
namespace Go.Proofs.YtbmilkoebhmnnaaDoor
open Go.ChangeShapes Go.WideShapes Go.ChangeAt Go.RowKit Go.VM
theorem Tryd.own : ownKnob Tryd.prog.godebug = none := by kernel_rfl
theorem Tryd.kids : Kids Tryd.prog (· < Tryd.prog.types.size) := kids_rows (by kernel_rfl) (by kernel_rfl)
theorem Tryd.full : ∀ t e, t < Tryd.prog.types.size → Tryd.prog.underlying t = some (.slice e) → 0 < Tryd.prog.cellsOf e := slices_full_of Tryd.prog (by kernel_rfl)
theorem typesLt : ∀ t, t ∈ [23, 5, 5] → t < Tryd.prog.types.size := fun t h => of_decide_eq_true (List.all_eq_true.1 (show ([23, 5, 5] : List Nat).all (fun t => decide (t < Tryd.prog.types.size)) = true by kernel_rfl) t h)
theorem typesNo : ∀ t, t ∈ [23, 5, 5] → Tryd.prog.wantsStandIn t = false := fun t h => of_decide_eq_true (List.all_eq_true.1 (show ([23, 5, 5] : List Nat).all (fun t => decide (Tryd.prog.wantsStandIn t = false)) = true by kernel_rfl) t h)
noncomputable def laidWorld (os : Os) : World := { World.holding Tryd.prog os ⟨#[], #[], []⟩ with heap := AEz (AEz (AEz ((World.holding Tryd.prog os ⟨#[], #[], []⟩).heap) 3 (AAQ Rows.laid_unicode_utf8_acceptRanges).toArray) 1 (AAQ Rows.laid_webfinger_utf8text_forms).toArray) 2 (AAQ Rows.laid_unicode_utf8_first).toArray }
theorem laid_met (os : Os) : laidMet Tryd.prog Rows.jsondocTwiceRow.laid ((laidWorld os).forCall (fun _ _ => 0) ⟨#[], #[.slice none 0 0, .int .u8 0, .int .u8 0], []⟩).memory := laidMet_of_run' 8 (by kernel_rfl) (by kernel_rfl)
theorem reads (os : Os) {H : Type} (enc : TypeId × Value → H) : ∃ places, DataW.whole enc Tryd.prog ((laidWorld os).forCall (fun _ _ => 0) ⟨#[], #[.slice none 0 0, .int .u8 0, .int .u8 0], []⟩).memory Tryd.f4.params.toList Rows.jsondocTwiceSpec.vars false #[.slice none 0 0, .int .u8 0, .int .u8 0].toList 8 = some ([.nil, .lit (.int .u8 0), .lit (.int .u8 0)], [], places) := ⟨[], by kernel_rfl⟩
theorem row_laid {W : World} (h : laidMetH Tryd.prog Rows.jsondocTwiceRow.laid W) : laidMet Tryd.prog Rows.jsondocTwiceRow.laid W := laidMetH.met h (by kernel_rfl)
theorem glob {W : World} (hL : laidMetH Tryd.prog Rows.jsondocTwiceRow.laid W) : ∀ g cs, vE.T g = some cs → Rep (EC W) (.cptr cs) (.pointer (some ⟨g, 0, none⟩)) := by
  intro g cs h
  change vT g = some cs at h
  unfold vT at h
  split at h
  · rename_i e; subst e; cases h; exact ACS (n := 400) (i := 1) (t := 118) (row_laid hL) rfl (by kernel_rfl) (by kernel_rfl) (by kernel_rfl)
  · cases h
theorem contract (H : Type) (enc : TypeId × Value → H) (W : World) (base : Nat) (args : Array Value) (ds gs : List (DataW H)) (before : List MemPlace)
    (hval0 : ∀ (j : Nat) t v, Tryd.f4.params[j]? = some t → args[j]? = some v → Value.okWide Tryd.prog W .any base t v)
    (hW : DataW.Whole enc Tryd.prog Tryd.f4.params.toList Rows.jsondocTwiceSpec.vars false W args.toList ds gs before) (hL : laidMetH Tryd.prog Rows.jsondocTwiceRow.laid W)
    (hsz0 : (DataW.weightsEach Tryd.prog (Tryd.f4.params.toList ++ (OpenSpec.ofChange Rows.jsondocTwiceSpec).bare.plain.varTypes Tryd.prog) (ds ++ gs)).all (· ≤ reachBytes) = true) :
    Calls Tryd.prog 4 args W fun e W' => ∃ v, e = .returned v ∧ Rows.jsondocTwiceSpec.post enc Tryd.prog Tryd.f4 false true false false W args v W' := by
  have hval : ∀ (j : Nat) t v, Tryd.f4.params[j]? = some t → args[j]? = some v → Value.okWide Tryd.prog W .any base t v := hval0
  have hsz : (DataW.weightsEach Tryd.prog (Tryd.f4.params.toList ++ Rows.jsondocTwiceSpec.plain.varTypes Tryd.prog) (ds ++ gs)).all (· ≤ reachBytes) = true := hsz0
  have hW1 := hW
  obtain ⟨p, q, hA0, hV, _, _, _⟩ := hW1
  have hA : DataW.TrodAll enc Tryd.prog W 0 (fun _ => true) true Tryd.f4.params.toList args.toList ds p := hA0
  rw [Tryd.params4] at hA hval hsz
  obtain ⟨rfl, rfl⟩ := trodVars_none hV
  obtain ⟨v0, v1, v2, d0, d1, d2, p0, p1, p2, rfl, rfl, rfl, h0, h1, h2⟩ := trodAll_three hA
  clear hA0 hval0 hsz0
  obtain ⟨n0, t0⟩ := h0
  have w0 := MF hsz (j := 0) (t := 23) (d := d0) rfl rfl
  obtain ⟨l0, o0, a0, r0, k0⟩ := (Zd Tryd.underlying23 (by kernel_rfl) (by decide) (Nat.le_of_ble_eq_true (by kernel_rfl)) (fun N => AGh (N := N) Tryd.underlying9) AVal.str (one_cell AVal.str)) n0 H enc W true n0 _ _ (Nat.le_refl _) t0 w0
  have R0 : Rep (EC W) (.slice 1 (List.map AVal.str a0) false) v0 := by
    obtain ⟨x, y, z, rfl⟩ := okWide_slice Tryd.underlying23 (hval 0 23 v0 rfl rfl)
    cases r0 with
    | cons h _ => exact h
  obtain ⟨n1, t1⟩ := h1
  have w1 := MF hsz (j := 1) (t := 5) (d := d1) rfl rfl
  obtain ⟨l1, o1, a1, r1, k1⟩ := (fun N => AAn (N := N) Tryd.underlying5) n1 H enc W true n1 _ _ (Nat.le_refl _) t1 w1
  have R1 : Rep (EC W) (.int .u8 a1) v1 := by
    obtain ⟨x, rfl⟩ := okWide_int Tryd.underlying5 (hval 1 5 v1 rfl rfl)
    cases r1 with
    | cons h _ => exact h
  obtain ⟨n2, t2⟩ := h2
  have w2 := MF hsz (j := 2) (t := 5) (d := d2) rfl rfl
  obtain ⟨l2, o2, a2, r2, k2⟩ := (fun N => AAn (N := N) Tryd.underlying5) n2 H enc W true n2 _ _ (Nat.le_refl _) t2 w2
  have R2 : Rep (EC W) (.int .u8 a2) v2 := by
    obtain ⟨x, rfl⟩ := okWide_int Tryd.underlying5 (hval 2 5 v2 rfl rfl)
    cases r2 with
    | cons h _ => exact h
  refine (ACall.shell (glob hL) (args' := [.slice 1 (List.map AVal.str a0) false, .int .u8 a1, .int .u8 a2]) (.cons R0 (.cons R1 (.cons R2 .nil))) ?_ (Ka (N := 1099511627776) (MR a0 k0 a1 k1 a2 k2) rfl (fun n' _ => Gl.mk rfl) : ACall vE 4 _ ⟨[], 0⟩ fun r _ => r = .bool true)).mono ?_
  · simp only [stripL, AVal.strip]
  · rintro e W' ⟨v, he, hb, Γ, r, st, hr, hq⟩
    subst hq
    cases hr
    refine ⟨_, he, ?_⟩
    exact ADg hW rfl hb Tryd.kids (fun t e h => Tryd.full t e h) (by rw [Tryd.params4]; exact typesLt) rfl rfl rfl rfl Tryd.underlying4
theorem lifted (os : Os) (started : os.Started) (H : Type) (enc : TypeId × Value → H) (F : Stop.Interp) :
    ReturnsInHanded {} Tryd.checked os 4 .any ((OpenSpec.ofChange Rows.jsondocTwiceSpec).preRow enc Tryd.prog Tryd.f4 Rows.jsondocTwiceRow.domain false Rows.jsondocTwiceRow.laid) (((OpenSpec.ofChange Rows.jsondocTwiceSpec).at F).post enc Tryd.prog Tryd.f4 false true false false) := by
  obtain ⟨places, hx⟩ := reads os enc
  refine returnsInHanded_of_row (C := Tryd.checked) (s := OpenSpec.ofChange Rows.jsondocTwiceSpec) Tryd.own started (by kernel_rfl) Tryd.func4
    (witness_row_at (enc := enc) (C := Tryd.checked) false (laidWorld os) #[.slice none 0 0, .int .u8 0, .int .u8 0] rfl (by kernel_rfl) (by kernel_rfl) (by kernel_rfl)
      (OpenSpec.preRow_of_cond 8 hx (by kernel_rfl) (fun k hk => by cases hk) (by kernel_rfl) (laid_met os))) ?_
  intro W base args ds gs before hval hW _ _ hsz hL _ _
  exact contract H enc W base args ds gs before hval hW hL hsz
theorem said : Rows.JsondocTwiceSaid :=
  OpenClaim.holds_of_cond 4 Tryd.f4 rfl rfl rfl rfl rfl rfl rfl ⟨rfl, rfl, rfl, rfl, rfl⟩ rfl rfl rfl rfl rfl (by kernel_rfl) Tryd.func4 (by kernel_rfl)
    (of_decide_eq_true (by kernel_rfl)) (by unfold Func.isWrapper; first | (rw [if_pos (by decide +kernel)]; kernel_rfl) | (rw [if_neg (by decide +kernel)]; exact ⟨rfl, rfl⟩))
    (fun os started H enc _ F => by rw [OpenClaim.pre_eq_preRow]; exact lifted os started H enc F)
theorem plain (f : FuncId) (fn : Func) (hf : Tryd.pinned.checked.prog.funcNamed "webfinger/webfingerlaw14.JsondocTwice" = some f) (hfn : Tryd.pinned.checked.prog.funcs[f]? = some fn) :
    false = Tryd.pinned.checked.prog.looks [] ∧ ∀ (j : Nat) t, fn.params[j]? = some t → Tryd.pinned.checked.prog.wantsStandIn t = false := by
  obtain rfl : f = 4 := Option.some.inj ((show Tryd.prog.funcNamed "webfinger/webfingerlaw14.JsondocTwice" = some 4 by kernel_rfl).symm.trans hf) |>.symm
  obtain rfl : fn = Tryd.f4 := (Option.some.inj (Tryd.func4.symm.trans hfn)).symm
  refine ⟨by kernel_rfl, fun j t ht => ?_⟩
  rw [Tryd.params4] at ht
  exact typesNo t (by simpa using Array.mem_of_getElem? ht)
theorem jsondocTwice_holds : Rows.JsondocTwiceCardSaid :=
  Claim7.holds_tied_plain_at .later [] _ _ _ _ said (fun _ h => by cases h) (by kernel_rfl) (fun _ h => by cases h) jsondocTwice_row_tie rfl ⟨rfl, rfl⟩ (by kernel_rfl) rfl plain (by kernel_rfl)
end Go.Proofs.YtbmilkoebhmnnaaDoor
