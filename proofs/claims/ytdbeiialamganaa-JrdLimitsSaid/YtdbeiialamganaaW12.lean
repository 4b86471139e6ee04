/- That the code computes these functions; written by decomp.py. -/
import Derived.Test.YtdbeiialamganaaVmFacts
import Derived.Test.YtdbeiialamganaaDefs
import Derived.Test.YtdbeiialamganaaVM2
import Derived.Test.YtdbeiialamganaaW0
import Derived.Test.YtdbeiialamganaaW4
import Derived.Test.YtdbeiialamganaaW11
import Derived.Test.YtdbeiialamganaaVM5
set_option linter.unusedVariables false
set_option linter.unusedSimpArgs false
set_option maxHeartbeats 4000000
set_option maxRecDepth 100000
set_option linter.defProp false
namespace Go.Proofs.Ytdbeiialamganaa
open Go.VM
variable {N n : Nat} {m : MS} {Q : PQ} {args : List AVal}
theorem cel_agg {cs : List AVal} : cellsA (.agg cs) = cs := rfl
theorem str_gsl {w i l : Nat} : (AVal.gsl w i l).strip = .gsl w i l := rfl
theorem cel_gsl {w i l : Nat} : cellsA (.gsl w i l) = [.gsl w i l] := rfl
theorem okb_gsl {w i l : Nat} : okBox (.gsl w i l) = true := rfl
theorem ish_gsl {w i l : Nat} : isSh (.gsl w i l) = false := rfl
theorem awp_top {c : Code} {Q : APost} {af : List AVal} {m : MS} {n k i : Nat} {cs : List AVal} (_ : af[k]? = some (.ptr i 0)) (h : AWp vE c Q af ⟨(i, cs) :: m, n⟩) : AWp vE c Q af ⟨(i, cs) :: m, n⟩ := h
theorem ia_gsl0 {t w i : Nat} {k : IntKind} (h : sliceI vE.P t = some w) : indexAddrA vE t (.gsl w i 1) (.int k 0) = some (.ptr i 0) := by simp [indexAddrA, h]
theorem law16_JrdLimits_w {a0 a1 r} (h : law16_JrdLimits N a0 a1 = some r) (ha : args = [.int .u8 a0, .int .u8 a1]) (hQ : ∀ n', n ≤ n' → Gl (Q (.bool r) ⟨m, n'⟩)) : ACall vE 5 args ⟨m, n⟩ Q := by
 rw [law16_JrdLimits] at h
 subst ha
 refine ent hQ Try.func5 rfl Try.ntmps5 Try.results5 (.q (.r []) (.q (.q (.r []) (.c (.q (.r []) .z) .z)) (.q (.r []) (.q (.r []) .z)))) fun R hR => ?_
 replace h := And.intro trivial h
 replace h := bind_a h
 obtain ⟨y1, h⟩ := h
 simp (maxSteps := 10000000) (disch := omega) only [vm, seval, h.1, bsK_true, buildSliceB, str_gsl, cel_gsl, okb_gsl, ish_gsl, List.flatMap_cons, List.flatMap_nil, List.append_nil, cel_agg, ia_gsl0 sliceI_23]
 refine ⟨law16_sane_w h.1.1 (by first | (simp (maxSteps := 10000000) (disch := omega) only [vm, seval, h.1, bsK_true, buildSliceB, str_gsl, cel_gsl, okb_gsl, ish_gsl, List.flatMap_cons, List.flatMap_nil, List.append_nil, cel_agg, ia_gsl0 sliceI_23]; done) | rfl) fun n2 hn2 => ?_⟩
 replace h := ite_a h
 rcases h with h | h
 · simp (maxSteps := 10000000) (disch := omega) only [vm, seval, h.1, bsK_true, buildSliceB, str_gsl, cel_gsl, okb_gsl, ish_gsl, List.flatMap_cons, List.flatMap_nil, List.append_nil, cel_agg, ia_gsl0 sliceI_23]
   refine ⟨sjoin (γ := Unit) h [8, 9, 21, 22, 23, 24, 25, 26, 27, 28, 29, 30, 31, 32, 33, 34, 35, 36, 37, 38, 39, 40, 41, 42, 43, 44, 45, 46, 47, 48, 49, 50, 51, 52, 53, 54, 55, 56, 57, 58, 59, 60, 61, 62] [] (fun j3 g => []) (fun j3 g => ((n2 + 1), [.int .i64 7, .str [], .slice 1 (List.map AVal.str j3.1) true, .slice 4 (List.map encApiValue j3.2.1) true]) :: (n2, [.int .i64 6, .str [], .slice 1 (List.map AVal.str []) true, .slice 4 (List.map encApiValue j3.2.2) true]) :: m) (.q (.r []) .z) ?_ ?_⟩ <;> clear h
   · rintro j3 _ n6 hnn6 _ _ h
     refine wpc_snd (.q .z .z) ?_
     refine letL_a h ?_
     clear h
     intro l15 c h
     replace c := congrArg (List.map AVal.str) c
     simp only [List.map_cons, List.map_nil, eE] at c
     replace h := and_in c h
     replace h := bind_a h
     obtain ⟨x16, h⟩ := h
     simp (maxSteps := 10000000) (disch := omega) only [vm, seval, h.1, bsK_true, buildSliceB, str_gsl, cel_gsl, okb_gsl, ish_gsl, List.flatMap_cons, List.flatMap_nil, List.append_nil, cel_agg, ia_gsl0 sliceI_23]
     refine ⟨awp_drw [70] (.take 0 (.take 1 (.take 2 (.take 3 (.take 4 (.take 5 (.take 6 (.alt 7 [5, 4, 3, 2, 1, 0] (.alt 8 [6, 4, 3, 2, 1, 0] (.alt 9 [6, 5, 4, 3, 2, 1, 0] (.alt 10 [] (.done) (.stop)) (.stop)) (.alt 9 [6, 5, 4, 3, 2, 1, 0] (.alt 8 [6, 4, 3, 2, 1, 0] (.alt 10 [] (.done) (.stop)) (.stop)) (.stop))) (.alt 9 [6, 5, 4, 3, 2, 1, 0] (.alt 7 [5, 4, 3, 2, 1, 0] (.alt 8 [6, 4, 3, 2, 1, 0] (.alt 10 [] (.done) (.stop)) (.stop)) (.stop)) (.stop)))))))))) vE_mixed (by kernel_rfl) ?_⟩
     simp (maxSteps := 10000000) (disch := omega) only [vm, seval, h.1, bsK_true, buildSliceB, str_gsl, cel_gsl, okb_gsl, ish_gsl, List.flatMap_cons, List.flatMap_nil, List.append_nil, cel_agg, ia_gsl0 sliceI_23]
     repeat' refine Gl_and ?_ ?_
     all_goals
      first | (refine ⟨awp_top (k := 10) rfl (Gl.go ?_)⟩; (generalize hgn19 : n6 + 2 = n19; generalize hgq18 : n6 + 1 = q18; generalize hgp17 : n6 = p17)) | (refine ⟨awp_perm (List.Perm.swap _ _ _) (awp_top (k := 10) rfl (Gl.go ?_))⟩; (generalize hgn19 : n6 + 2 = n19; generalize hgp17 : n6 + 1 = p17; generalize hgq18 : n6 = q18))
     all_goals
      try simp (maxSteps := 10000000) (disch := omega) only [vm, seval, h.1, bsK_true, buildSliceB, str_gsl, cel_gsl, okb_gsl, ish_gsl, List.flatMap_cons, List.flatMap_nil, List.append_nil, cel_agg, ia_gsl0 sliceI_23]
      refine ⟨sjoin (γ := Bool × Bool) h [72, 73, 74, 75, 76, 77, 78, 79, 80, 81, 82, 83, 84, 85, 86, 87, 88, 89, 90, 91] [] (fun j20 g => []) (fun j20 g => (q18, [.int .i64 7, .str [], .slice 1 (List.map AVal.str [x16]) true, .gsl 4 p17 1]) :: (p17, [.int .i64 j20.1, .str [], .slice 1 (List.map AVal.str j20.2.1) g.1, .slice 4 (List.map encApiValue j20.2.2) g.2]) :: ((n2 + 1), [.int .i64 7, .str [], .slice 1 (List.map AVal.str j3.1) true, .slice 4 (List.map encApiValue j3.2.1) true]) :: (n2, [.int .i64 6, .str [], .slice 1 (List.map AVal.str []) true, .slice 4 (List.map encApiValue j3.2.2) true]) :: m) (.q (.r []) (.q (.r []) (.c (.r []) (.q (.r []) (.c .z .z))))) ?_ ?_⟩ <;> clear h
      rintro j20 ⟨p1_2, p1_3⟩ n23 hnn23 _ _ h
      refine awp_stripBox (i := p17) (by simp (maxSteps := 10000000) (disch := omega) only [vm, seval, h.1, bsK_true, buildSliceB, str_gsl, cel_gsl, okb_gsl, ish_gsl, List.flatMap_cons, List.flatMap_nil, List.append_nil, cel_agg, ia_gsl0 sliceI_23]; rfl) ?_
      refine wpc_snd (.q (.r []) (.q (.q (.r []) (.c (.q (.r []) .z) .z)) (.q .z .z))) ?_
      replace h := bind_a h
      obtain ⟨y28, h⟩ := h
      simp (maxSteps := 10000000) (disch := omega) only [vm, seval, h.1, bsK_true, buildSliceB, str_gsl, cel_gsl, okb_gsl, ish_gsl, List.flatMap_cons, List.flatMap_nil, List.append_nil, cel_agg, ia_gsl0 sliceI_23]
      refine ⟨ACall.giveA (m1 := [(q18, [.int .i64 7, .str [], .slice 1 (List.map AVal.str [x16]) true, .gsl 4 p17 1]), (p17, [.int .i64 j20.1, .str [], .slice 1 (List.map AVal.str j20.2.1) false, .slice 4 (List.map encApiValue j20.2.2) false])]) (args' := [.agg [.int .i64 7, .str [], .slice 1 (List.map AVal.str [x16]) false, .slice 4 [.agg [.int .i64 j20.1, .str [], .slice 1 (List.map AVal.str j20.2.1) false, .slice 4 (List.map encApiValue j20.2.2) false]] false]]) (.cons (.agg (.cons (.same _) (.cons (.same _) (.cons (.same _) (.cons (.box (w := 4) (i := p17) (len := 1) (xs := [.agg [.int .i64 j20.1, .str [], .slice 1 (List.map AVal.str j20.2.1) false, .slice 4 (List.map encApiValue j20.2.2) false]]) (junk := []) (List.Mem.tail _ (List.Mem.head _)) rfl (fun x hx => by simp only [List.mem_singleton] at hx; subst hx; rfl)) .nil))))) .nil) (by simp [stripL, AVal.strip]) (jrd_Decode_w h.1.1 (by first | (simp (maxSteps := 10000000) (disch := omega) only [vm, seval, h.1, bsK_true, buildSliceB, str_gsl, cel_gsl, okb_gsl, ish_gsl, List.flatMap_cons, List.flatMap_nil, List.append_nil, cel_agg, ia_gsl0 sliceI_23]; done) | rfl) fun n29 hn29 => ?_)⟩
      replace h := ite_a h
      rcases h with h | h
      replace h := ite_a h
      rcases h with h | h
      obtain ⟨H, h⟩ := h
      cases h
      simp (maxSteps := 10000000) (disch := omega) only [vm, seval, H, bsK_true, buildSliceB, str_gsl, cel_gsl, okb_gsl, ish_gsl, List.flatMap_cons, List.flatMap_nil, List.append_nil, cel_agg, ia_gsl0 sliceI_23]
      refine ⟨(hR _ _ _ _ _ _ (by simp (maxSteps := 10000000) (disch := omega) only [vm, seval, H, bsK_true, buildSliceB, str_gsl, cel_gsl, okb_gsl, ish_gsl, List.flatMap_cons, List.flatMap_nil, List.append_nil, cel_agg, ia_gsl0 sliceI_23]; rfl) (.cons _ (.cons _ (.cons _ (List.Sublist.refl _)))) ?_ (by omega) ?_).1⟩ <;> first | (simp (maxSteps := 10000000) (disch := omega) only [vm, seval, H, bsK_true, buildSliceB, str_gsl, cel_gsl, okb_gsl, ish_gsl, List.flatMap_cons, List.flatMap_nil, List.append_nil, cel_agg, ia_gsl0 sliceI_23]; done) | rfl
      obtain ⟨H, h⟩ := h
      cases h
      simp (maxSteps := 10000000) (disch := omega) only [vm, seval, H, bsK_true, buildSliceB, str_gsl, cel_gsl, okb_gsl, ish_gsl, List.flatMap_cons, List.flatMap_nil, List.append_nil, cel_agg, ia_gsl0 sliceI_23]
      refine ⟨(hR _ _ _ _ _ _ (by simp (maxSteps := 10000000) (disch := omega) only [vm, seval, H, bsK_true, buildSliceB, str_gsl, cel_gsl, okb_gsl, ish_gsl, List.flatMap_cons, List.flatMap_nil, List.append_nil, cel_agg, ia_gsl0 sliceI_23]; rfl) (.cons _ (.cons _ (.cons _ (List.Sublist.refl _)))) ?_ (by omega) ?_).1⟩ <;> first | (simp (maxSteps := 10000000) (disch := omega) only [vm, seval, H, bsK_true, buildSliceB, str_gsl, cel_gsl, okb_gsl, ish_gsl, List.flatMap_cons, List.flatMap_nil, List.append_nil, cel_agg, ia_gsl0 sliceI_23]; done) | rfl
      replace h := ite_a h
      rcases h with h | h
      refine letL_a h ?_
      clear h
      intro l30 c h
      replace c := congrArg (List.map (AVal.int .i64)) c
      simp only [List.map_cons, List.map_nil, eE] at c
      replace h := and_in c h
      replace h := bind_a h
      obtain ⟨x31, h⟩ := h
      simp (maxSteps := 10000000) (disch := omega) only [vm, seval, h.1, bsK_true, buildSliceB, str_gsl, cel_gsl, okb_gsl, ish_gsl, List.flatMap_cons, List.flatMap_nil, List.append_nil, cel_agg, ia_gsl0 sliceI_23]
      refine ⟨awp_drw [] (.take 0 (.take 1 (.take 2 (.take 3 (.take 4 (.take 5 (.take 6 (.take 7 (.take 8 (.take 9 (.take 10 (.take 11 (.take 12 (.take 13 (.take 14 (.take 15 (.take 16 (.take 17 (.take 18 (.take 19 (.take 20 (.take 21 (.take 22 (.take 23 (.alt 24 [] (.done) (.stop)))))))))))))))))))))))))) vE_mixed (by kernel_rfl) ?_⟩
      obtain ⟨H, h⟩ := h
      cases h
      simp (maxSteps := 10000000) (disch := omega) only [vm, seval, H, bsK_true, buildSliceB, str_gsl, cel_gsl, okb_gsl, ish_gsl, List.flatMap_cons, List.flatMap_nil, List.append_nil, cel_agg, ia_gsl0 sliceI_23]
      refine ⟨(hR _ _ _ _ _ _ (by simp (maxSteps := 10000000) (disch := omega) only [vm, seval, H, bsK_true, buildSliceB, str_gsl, cel_gsl, okb_gsl, ish_gsl, List.flatMap_cons, List.flatMap_nil, List.append_nil, cel_agg, ia_gsl0 sliceI_23]; rfl) (.cons _ (.cons _ (.cons _ (List.Sublist.refl _)))) ?_ (by omega) ?_).1⟩ <;> first | (simp (maxSteps := 10000000) (disch := omega) only [vm, seval, H, bsK_true, buildSliceB, str_gsl, cel_gsl, okb_gsl, ish_gsl, List.flatMap_cons, List.flatMap_nil, List.append_nil, cel_agg, ia_gsl0 sliceI_23]; done) | rfl
      simp (maxSteps := 10000000) (disch := omega) only [vm, seval, h.1, bsK_true, buildSliceB, str_gsl, cel_gsl, okb_gsl, ish_gsl, List.flatMap_cons, List.flatMap_nil, List.append_nil, cel_agg, ia_gsl0 sliceI_23]
      refine ⟨awp_drw [] (.take 0 (.take 1 (.take 2 (.take 3 (.take 4 (.take 5 (.take 6 (.take 7 (.take 8 (.take 9 (.take 10 (.take 11 (.take 12 (.take 13 (.take 14 (.take 15 (.take 16 (.take 17 (.take 18 (.take 19 (.take 20 (.take 21 (.take 22 (.take 23 (.alt 24 [] (.done) (.stop)))))))))))))))))))))))))) vE_mixed (by kernel_rfl) ?_⟩
      obtain ⟨H, h⟩ := h
      cases h
      simp (maxSteps := 10000000) (disch := omega) only [vm, seval, H, bsK_true, buildSliceB, str_gsl, cel_gsl, okb_gsl, ish_gsl, List.flatMap_cons, List.flatMap_nil, List.append_nil, cel_agg, ia_gsl0 sliceI_23]
      refine ⟨(hR _ _ _ _ _ _ (by simp (maxSteps := 10000000) (disch := omega) only [vm, seval, H, bsK_true, buildSliceB, str_gsl, cel_gsl, okb_gsl, ish_gsl, List.flatMap_cons, List.flatMap_nil, List.append_nil, cel_agg, ia_gsl0 sliceI_23]; rfl) (.cons _ (.cons _ (.cons _ (List.Sublist.refl _)))) ?_ (by omega) ?_).1⟩ <;> first | (simp (maxSteps := 10000000) (disch := omega) only [vm, seval, H, bsK_true, buildSliceB, str_gsl, cel_gsl, okb_gsl, ish_gsl, List.flatMap_cons, List.flatMap_nil, List.append_nil, cel_agg, ia_gsl0 sliceI_23]; done) | rfl
      intro k21 Jk21 hk21 h
      replace h := ite_a h
      rcases h with h | h
      simp (maxSteps := 10000000) (disch := omega) only [vm, seval, h.1, bsK_true, buildSliceB, str_gsl, cel_gsl, okb_gsl, ish_gsl, List.flatMap_cons, List.flatMap_nil, List.append_nil, cel_agg, ia_gsl0 sliceI_23]
      refine ⟨hk21 (7, j3.1, j3.2.1) (false, false) _ _ _ _ h.2 (List.Sublist.refl _) ?_ ?_ ?_ (by omega)⟩ <;> first | (simp (maxSteps := 10000000) (disch := omega) only [vm, seval, h.1, bsK_true, buildSliceB, str_gsl, cel_gsl, okb_gsl, ish_gsl, List.flatMap_cons, List.flatMap_nil, List.append_nil, cel_agg, ia_gsl0 sliceI_23]; done) | rfl
      replace h := ite_a h
      rcases h with h | h
      refine letL_a h ?_
      clear h
      intro l24 c h
      replace c := congrArg (List.map AVal.str) c
      simp only [List.map_cons, List.map_nil, eE] at c
      replace h := and_in c h
      replace h := bind_a h
      obtain ⟨y25, h⟩ := h
      have cy25 := h.1.1
      refine letL_a h ?_
      clear h
      intro l27 c h
      replace c := congrArg (List.map encApiValue) c
      simp only [List.map_cons, List.map_nil, eE] at c
      replace h := and_in c h
      simp (maxSteps := 10000000) (disch := omega) only [vm, seval, h.1, bsK_true, buildSliceB, str_gsl, cel_gsl, okb_gsl, ish_gsl, List.flatMap_cons, List.flatMap_nil, List.append_nil, cel_agg, ia_gsl0 sliceI_23]
      refine ⟨awp_drw [] (.take 0 (.take 1 (.take 2 (.take 3 (.alt 4 [3, 2, 1, 0] (.take 5 (.alt 6 [3, 1, 0] (.take 7 (.alt 8 [5, 3, 2, 1, 0] (.take 9 (.alt 10 [] (.done) (.stop))) (.stop))) (.stop))) (.stop)))))) vE_mixed (by kernel_rfl) ?_⟩
      simp (maxSteps := 10000000) (disch := omega) only [vm, seval, h.1, bsK_true, buildSliceB, str_gsl, cel_gsl, okb_gsl, ish_gsl, List.flatMap_cons, List.flatMap_nil, List.append_nil, cel_agg, ia_gsl0 sliceI_23]
      refine ⟨ref16_Text_w cy25 (by first | (simp (maxSteps := 10000000) (disch := omega) only [vm, seval, h.1, bsK_true, buildSliceB, str_gsl, cel_gsl, okb_gsl, ish_gsl, List.flatMap_cons, List.flatMap_nil, List.append_nil, cel_agg, ia_gsl0 sliceI_23]; done) | rfl) fun n26 hn26 => ?_⟩
      simp (maxSteps := 10000000) (disch := omega) only [vm, seval, h.1, bsK_true, buildSliceB, str_gsl, cel_gsl, okb_gsl, ish_gsl, List.flatMap_cons, List.flatMap_nil, List.append_nil, cel_agg, ia_gsl0 sliceI_23]
      refine ⟨hk21 (6, [], [(ApiValue.mk 7 [] l24 l27)]) (true, true) _ _ _ _ h.2 (List.Sublist.refl _) ?_ ?_ ?_ (by omega)⟩ <;> first | (simp (maxSteps := 10000000) (disch := omega) only [vm, seval, h.1, bsK_true, buildSliceB, str_gsl, cel_gsl, okb_gsl, ish_gsl, List.flatMap_cons, List.flatMap_nil, List.append_nil, cel_agg, ia_gsl0 sliceI_23]; done) | rfl
      simp (maxSteps := 10000000) (disch := omega) only [vm, seval, h.1, bsK_true, buildSliceB, str_gsl, cel_gsl, okb_gsl, ish_gsl, List.flatMap_cons, List.flatMap_nil, List.append_nil, cel_agg, ia_gsl0 sliceI_23]
      refine ⟨hk21 (6, [], j3.2.2) (false, false) _ _ _ _ h.2 (List.Sublist.refl _) ?_ ?_ ?_ (by omega)⟩ <;> first | (simp (maxSteps := 10000000) (disch := omega) only [vm, seval, h.1, bsK_true, buildSliceB, str_gsl, cel_gsl, okb_gsl, ish_gsl, List.flatMap_cons, List.flatMap_nil, List.append_nil, cel_agg, ia_gsl0 sliceI_23]; done) | rfl
   intro k4 Jk4 hk4 h
   replace h := grd_a h
   obtain ⟨hfk7, h⟩ := h
   simp (maxSteps := 10000000) (disch := omega) only [vm, seval, h.1, bsK_true, buildSliceB, str_gsl, cel_gsl, okb_gsl, ish_gsl, List.flatMap_cons, List.flatMap_nil, List.append_nil, cel_agg, ia_gsl0 sliceI_23]
   refine ⟨sloopc (σ := (List (List UInt8)) × (List ApiValue) × (List ApiValue)) (γ := Unit) 0 (wr .i64 (62 + (wr .i64 (a0.tmod 5)))) hfk7 (fun xs i s => law16_JrdLimits_L1 N a1 k4 xs i s.1 s.2.1 s.2.2) (fun i s g => [.int .i64 i]) (fun i s g => ((n2 + 1), [.int .i64 7, .str [], .slice 1 (List.map AVal.str s.1) true, .slice 4 (List.map encApiValue s.2.1) true]) :: (n2, [.int .i64 6, .str [], .slice 1 (List.map AVal.str []) true, .slice 4 (List.map encApiValue s.2.2) true]) :: m) [9, 21, 22, 23, 24, 25, 26, 27, 28, 29, 30, 31, 32, 33, 34, 35, 36, 37, 38, 39, 40, 41, 42, 43, 44, 45, 46, 47, 48, 49, 50, 51, 52, 53, 54, 55, 56, 57, 58, 59, 60, 61, 62] [8] ([], [], []) () h (by first | (simp (maxSteps := 10000000) (disch := omega) only [vm, seval, h.1, bsK_true, buildSliceB, str_gsl, cel_gsl, okb_gsl, ish_gsl, List.flatMap_cons, List.flatMap_nil, List.append_nil, cel_agg, ia_gsl0 sliceI_23]; done) | rfl) (by first | (simp (maxSteps := 10000000) (disch := omega) only [vm, seval, h.1, bsK_true, buildSliceB, str_gsl, cel_gsl, okb_gsl, ish_gsl, List.flatMap_cons, List.flatMap_nil, List.append_nil, cel_agg, ia_gsl0 sliceI_23]; done) | rfl) ?_ ?_⟩ <;> clear h
   rintro s8 ⟨bn21_keys, bn21_items, bn2_items⟩ _ nL0_1 hnL0_1 _ h
   change _ ∧ law16_JrdLimits_L1 N a1 k4 0 s8 bn21_keys bn21_items bn2_items = _ at h
   rw [law16_JrdLimits_L1] at h
   refine wpc_snd (.q (.q (.r []) (.c .z .z)) (.q (.q (.r []) (.q .z .z)) (.r []))) ?_
   simp (maxSteps := 10000000) (disch := omega) only [vm, seval, h.1, bsK_true, buildSliceB, str_gsl, cel_gsl, okb_gsl, ish_gsl, List.flatMap_cons, List.flatMap_nil, List.append_nil, cel_agg, ia_gsl0 sliceI_23]
   refine ⟨hk4 (bn21_keys, bn21_items, bn2_items) () _ _ _ _ h.2 (List.Sublist.refl _) ?_ ?_ ?_ (by omega)⟩ <;> first | (simp (maxSteps := 10000000) (disch := omega) only [vm, seval, h.1, bsK_true, buildSliceB, str_gsl, cel_gsl, okb_gsl, ish_gsl, List.flatMap_cons, List.flatMap_nil, List.append_nil, cel_agg, ia_gsl0 sliceI_23]; done) | rfl
   rintro xsk7 s8 ⟨bn21_keys, bn21_items, bn2_items⟩ _ nL0_1 hnL0_1 _ h Jk7 hk7
   change _ ∧ law16_JrdLimits_L1 N a1 k4 (xsk7 + 1) s8 bn21_keys bn21_items bn2_items = _ at h
   rw [law16_JrdLimits_L1] at h
   refine wpc_snd (.q (.q (.r []) (.c .z .z)) (.q (.q (.r []) (.q .z .z)) (.r []))) ?_
   refine letL_a h ?_
   clear h
   intro l8 c h
   replace c := congrArg (List.map (AVal.int .u8)) c
   simp only [List.map_cons, List.map_nil, eE] at c
   replace h := and_in c h
   replace h := bind_a h
   obtain ⟨y9, h⟩ := h
   simp (maxSteps := 10000000) (disch := omega) only [vm, seval, h.1, bsK_true, buildSliceB, str_gsl, cel_gsl, okb_gsl, ish_gsl, List.flatMap_cons, List.flatMap_nil, List.append_nil, cel_agg, ia_gsl0 sliceI_23]
   refine ⟨ref16_Text_w h.1.1 (by first | (simp (maxSteps := 10000000) (disch := omega) only [vm, seval, h.1, bsK_true, buildSliceB, str_gsl, cel_gsl, okb_gsl, ish_gsl, List.flatMap_cons, List.flatMap_nil, List.append_nil, cel_agg, ia_gsl0 sliceI_23]; done) | rfl) fun n10 hn10 => ?_⟩
   replace h := grd_a h
   obtain ⟨c, h⟩ := h
   try simp only [liE, seval] at c
   replace h := and_in c h
   replace h := grd_a h
   obtain ⟨c, h⟩ := h
   try simp only [liE, seval] at c
   replace h := and_in c h
   simp (maxSteps := 10000000) (disch := omega) only [vm, seval, h.1, bsK_true, buildSliceB, str_gsl, cel_gsl, okb_gsl, ish_gsl, List.flatMap_cons, List.flatMap_nil, List.append_nil, cel_agg, ia_gsl0 sliceI_23]
   refine ⟨awp_drw [38, 44] (.take 0 (.take 2 (.take 3 (.take 4 (.take 6 (.take 8 (.take 9 (.alt 1 [9, 8, 6, 4, 3, 2] (.alt 5 [9, 8, 6, 3, 2, 0] (.alt 7 [9, 8, 4, 3, 2, 0] (.take 11 (.alt 10 [11, 8, 6, 4, 3, 2, 0] (.alt 12 [9, 8] (.take 13 (.alt 14 [] (.done) (.stop))) (.stop)) (.stop))) (.stop)) (.alt 7 [9, 8, 4, 3, 2, 0] (.alt 5 [9, 8, 6, 3, 2, 0] (.take 11 (.alt 10 [11, 8, 6, 4, 3, 2, 0] (.alt 12 [9, 8] (.take 13 (.alt 14 [] (.done) (.stop))) (.stop)) (.stop))) (.stop)) (.stop))) (.alt 7 [9, 8, 4, 3, 2, 0] (.alt 1 [9, 8, 6, 4, 3, 2] (.alt 5 [9, 8, 6, 3, 2, 0] (.take 11 (.alt 10 [11, 8, 6, 4, 3, 2, 0] (.alt 12 [9, 8] (.take 13 (.alt 14 [] (.done) (.stop))) (.stop)) (.stop))) (.stop)) (.stop)) (.stop)))))))))) vE_mixed (by kernel_rfl) ?_⟩
   simp (maxSteps := 10000000) (disch := omega) only [vm, seval, h.1, bsK_true, buildSliceB, str_gsl, cel_gsl, okb_gsl, ish_gsl, List.flatMap_cons, List.flatMap_nil, List.append_nil, cel_agg, ia_gsl0 sliceI_23]
   refine ⟨sjoin (γ := Unit) h [50, 51, 52, 53, 54, 55, 56] [] (fun j11 g => []) (fun j11 g => (n10, [.int .i64 j11.1, .str j11.2.1, .slice 1 (List.map AVal.str j11.2.2.1) true, .slice 4 (List.map encApiValue j11.2.2.2) true]) :: ((n2 + 1), [.int .i64 7, .str [], .slice 1 (List.map AVal.str (bn21_keys ++ [y9.text])) true, .slice 4 (List.map encApiValue (bn21_items ++ [y9])) true]) :: (n2, [.int .i64 6, .str [], .slice 1 (List.map AVal.str []) true, .slice 4 (List.map encApiValue bn2_items) true]) :: m) (.q (.r []) (.c (.r []) .z)) ?_ ?_⟩ <;> clear h
   rintro j11 _ n14 hnn14 _ _ h
   refine wpc_snd (.r [58]) ?_
   replace h := grd_a h
   obtain ⟨c, h⟩ := h
   try simp only [liE, seval] at c
   replace h := and_in c h
   simp (maxSteps := 10000000) (disch := omega) only [vm, seval, h.1, bsK_true, buildSliceB, str_gsl, cel_gsl, okb_gsl, ish_gsl, List.flatMap_cons, List.flatMap_nil, List.append_nil, cel_agg, ia_gsl0 sliceI_23]
   refine ⟨hk7 ((bn21_keys ++ [y9.text]), (bn21_items ++ [y9]), (bn2_items ++ [(ApiValue.mk j11.1 j11.2.1 j11.2.2.1 j11.2.2.2)])) () _ _ _ _ h.2 (.cons _ (List.Sublist.refl _)) ?_ ?_ ?_ (by omega)⟩ <;> first | (simp (maxSteps := 10000000) (disch := omega) only [vm, seval, h.1, bsK_true, buildSliceB, str_gsl, cel_gsl, okb_gsl, ish_gsl, List.flatMap_cons, List.flatMap_nil, List.append_nil, cel_agg, ia_gsl0 sliceI_23]; done) | rfl
   intro k12 Jk12 hk12 h
   replace h := ite_a h
   rcases h with h | h
   simp (maxSteps := 10000000) (disch := omega) only [vm, seval, h.1, bsK_true, buildSliceB, str_gsl, cel_gsl, okb_gsl, ish_gsl, List.flatMap_cons, List.flatMap_nil, List.append_nil, cel_agg, ia_gsl0 sliceI_23]
   refine ⟨hk12 (7, [], [([114, 101, 108] : List UInt8)], [y9]) () _ _ _ _ h.2 (List.Sublist.refl _) ?_ ?_ ?_ (by omega)⟩ <;> first | (simp (maxSteps := 10000000) (disch := omega) only [vm, seval, h.1, bsK_true, buildSliceB, str_gsl, cel_gsl, okb_gsl, ish_gsl, List.flatMap_cons, List.flatMap_nil, List.append_nil, cel_agg, ia_gsl0 sliceI_23]; done) | rfl
   simp (maxSteps := 10000000) (disch := omega) only [vm, seval, h.1, bsK_true, buildSliceB, str_gsl, cel_gsl, okb_gsl, ish_gsl, List.flatMap_cons, List.flatMap_nil, List.append_nil, cel_agg, ia_gsl0 sliceI_23]
   refine ⟨hk12 (y9.kind, y9.text, y9.keys, y9.items) () _ _ _ _ h.2 (List.Sublist.refl _) ?_ ?_ ?_ (by omega)⟩ <;> first | (simp (maxSteps := 10000000) (disch := omega) only [vm, seval, h.1, bsK_true, buildSliceB, str_gsl, cel_gsl, okb_gsl, ish_gsl, List.flatMap_cons, List.flatMap_nil, List.append_nil, cel_agg, ia_gsl0 sliceI_23]; done) | rfl
 obtain ⟨H, h⟩ := h
 cases h
 simp (maxSteps := 10000000) (disch := omega) only [vm, seval, H, bsK_true, buildSliceB, str_gsl, cel_gsl, okb_gsl, ish_gsl, List.flatMap_cons, List.flatMap_nil, List.append_nil, cel_agg, ia_gsl0 sliceI_23]
 refine ⟨(hR _ _ _ _ _ _ (by simp (maxSteps := 10000000) (disch := omega) only [vm, seval, H, bsK_true, buildSliceB, str_gsl, cel_gsl, okb_gsl, ish_gsl, List.flatMap_cons, List.flatMap_nil, List.append_nil, cel_agg, ia_gsl0 sliceI_23]; rfl) (List.Sublist.refl _) ?_ (by omega) ?_).1⟩ <;> first | (simp (maxSteps := 10000000) (disch := omega) only [vm, seval, H, bsK_true, buildSliceB, str_gsl, cel_gsl, okb_gsl, ish_gsl, List.flatMap_cons, List.flatMap_nil, List.append_nil, cel_agg, ia_gsl0 sliceI_23]; done) | rfl
end Go.Proofs.Ytdbeiialamganaa
