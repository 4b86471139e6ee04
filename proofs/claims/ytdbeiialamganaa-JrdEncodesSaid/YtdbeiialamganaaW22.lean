/- That the code computes these functions; written by decomp.py. -/
import Derived.Test.YtdbeiialamganaaVmFacts
import Derived.Test.YtdbeiialamganaaDefs
import Derived.Test.YtdbeiialamganaaVMSets
import Derived.Test.YtdbeiialamganaaW1
import Derived.Test.YtdbeiialamganaaW15
import Derived.Test.YtdbeiialamganaaW21
set_option linter.unusedVariables false
set_option linter.unusedSimpArgs false
set_option maxHeartbeats 4000000
set_option maxRecDepth 100000
set_option linter.defProp false
namespace Go.Proofs.Ytdbeiialamganaa
open Go.VM
theorem law16_sane_w {N : Nat}  {r : Bool} (h : law16_sane N  = some r) {n : Nat} {m : List (Nat × List AVal)} :
    ACall vE 8 [] ⟨m, n⟩ fun r' st => r' = .bool r ∧ st.m = m := by
  rw [law16_sane] at h
  refine acall_k Try.func8 rfl ?_
  intro R hR
  refine AWp.congr (by simp only [Try.ntmps8, liE, seval]; rfl) ?_
  refine awp_seq_k ?_
  intro K1 hK1
  refine awp_region' [] ?_
  intro K2 hK2
  simp (disch := omega) only [vmE, liE, eE, seval, deE, fxE, retOf, maskA, setVals, getVals, putA, stripAt, AVal.strip, stripL, rd]
  refine hK2 _ _ (kPost_normal (hK1 _ _ ?_))
  refine awp_seq_k ?_
  intro K3 hK3
  replace h := bind_some h
  rcases h with ⟨y5, hy6, h⟩
  refine awp_region' [] ?_
  intro K4 hK4
  simp (disch := omega) only [vmE, liE, eE, seval, deE, fxE, retOf, maskA, setVals, getVals, putA, stripAt, AVal.strip, stripL, rd]
  refine ACall.of (ref14_Parse_w hy6) ?_ ?_
  · first | (simp (disch := omega) only [vmE, liE, eE, seval, deE, fxE, retOf, maskA, setVals, getVals, putA, stripAt, AVal.strip, stripL, rd]) | rfl
  rintro _ ⟨m8, n7⟩ hn7 ⟨rfl, hm⟩
  simp (disch := omega) only [vmE, liE, eE, seval] at hn7 hm
  replace hm := hm.symm
  subst hm
  simp (disch := omega) only [vmE, liE, eE, seval, deE, fxE, retOf, maskA, setVals, getVals, putA, stripAt, AVal.strip, stripL, rd]
  refine hK4 _ _ (kPost_normal (hK3 _ _ ?_))
  refine awp_seq_k ?_
  intro K9 hK9
  replace h := bind_some h
  rcases h with ⟨y11, hy12, h⟩
  refine awp_region' [] ?_
  intro K10 hK10
  simp (disch := omega) only [vmE, liE, eE, seval, deE, fxE, retOf, maskA, setVals, getVals, putA, stripAt, AVal.strip, stripL, rd]
  refine ACall.of (ref14_Parse_w hy12) ?_ ?_
  · first | (simp (disch := omega) only [vmE, liE, eE, seval, deE, fxE, retOf, maskA, setVals, getVals, putA, stripAt, AVal.strip, stripL, rd]) | rfl
  rintro _ ⟨m14, n13⟩ hn13 ⟨rfl, hm⟩
  simp (disch := omega) only [vmE, liE, eE, seval] at hn13 hm
  replace hm := hm.symm
  subst hm
  simp (disch := omega) only [vmE, liE, eE, seval, deE, fxE, retOf, maskA, setVals, getVals, putA, stripAt, AVal.strip, stripL, rd]
  refine hK10 _ _ (kPost_normal (hK9 _ _ ?_))
  refine awp_seq_k ?_
  intro K15 hK15
  replace h := bind_some h
  rcases h with ⟨y17, hy18, h⟩
  refine awp_region' [] ?_
  intro K16 hK16
  simp (disch := omega) only [vmE, liE, eE, seval, deE, fxE, retOf, maskA, setVals, getVals, putA, stripAt, AVal.strip, stripL, rd]
  refine ACall.of (jrd_Decode_w hy18) ?_ ?_
  · first | (simp (disch := omega) only [vmE, liE, eE, seval, deE, fxE, retOf, maskA, setVals, getVals, putA, stripAt, AVal.strip, stripL, rd]) | rfl
  rintro _ ⟨m20, n19⟩ hn19 ⟨rfl, hm⟩
  simp (disch := omega) only [vmE, liE, eE, seval] at hn19 hm
  replace hm := hm.symm
  subst hm
  simp (disch := omega) only [vmE, liE, eE, seval, deE, fxE, retOf, maskA, setVals, getVals, putA, stripAt, AVal.strip, stripL, rd]
  refine hK16 _ _ (kPost_normal (hK15 _ _ ?_))
  refine awp_seq_k ?_
  intro K21 hK21
  replace h := bind_some h
  rcases h with ⟨y23, hy24, h⟩
  refine awp_region' [] ?_
  intro K22 hK22
  simp (disch := omega) only [vmE, liE, eE, seval, deE, fxE, retOf, maskA, setVals, getVals, putA, stripAt, AVal.strip, stripL, rd]
  refine ACall.of (jrd_Decode_w hy24) ?_ ?_
  · first | (simp (disch := omega) only [vmE, liE, eE, seval, deE, fxE, retOf, maskA, setVals, getVals, putA, stripAt, AVal.strip, stripL, rd]) | rfl
  rintro _ ⟨m26, n25⟩ hn25 ⟨rfl, hm⟩
  simp (disch := omega) only [vmE, liE, eE, seval] at hn25 hm
  replace hm := hm.symm
  subst hm
  simp (disch := omega) only [vmE, liE, eE, seval, deE, fxE, retOf, maskA, setVals, getVals, putA, stripAt, AVal.strip, stripL, rd]
  refine hK22 _ _ (kPost_normal (hK21 _ _ ?_))
  refine awp_seq_k ?_
  intro K27 hK27
  replace h := ite_some h
  rcases h with ⟨hc29, h⟩ | ⟨hc29, h⟩
  · replace h := ite_some h
    rcases h with ⟨hc30, h⟩ | ⟨hc30, h⟩
    · replace h := ite_some h
      rcases h with ⟨hc31, h⟩ | ⟨hc31, h⟩
      · replace h := bind_some h
        rcases h with ⟨x32, hx33, h⟩
        replace h := ite_some h
        rcases h with ⟨hc34, h⟩ | ⟨hc34, h⟩
        · replace h := ite_some h
          rcases h with ⟨hc35, h⟩ | ⟨hc35, h⟩
          · replace h := bind_some h
            rcases h with ⟨y36, hy37, h⟩
            refine awp_region' [] ?_
            intro K28 hK28
            simp (disch := omega) only [vmE, liE, eE, seval, deE, fxE, retOf, maskA, setVals, getVals, putA, stripAt, AVal.strip, stripL, rd, hc29, hc30, hc31, hx33, hc34, hc35, hc29, hc30, hc31, hx33, hc34, hc35]
            refine ACall.of (jrd_Find_w hy37) ?_ ?_
            · first | (simp (disch := omega) only [vmE, liE, eE, seval, deE, fxE, retOf, maskA, setVals, getVals, putA, stripAt, AVal.strip, stripL, rd, hc29, hc30, hc31, hx33, hc34, hc35, hc29, hc30, hc31, hx33, hc34, hc35]) | rfl
            rintro _ ⟨m39, n38⟩ hn38 ⟨rfl, hm⟩
            simp (disch := omega) only [vmE, liE, eE, seval] at hn38 hm
            replace hm := hm.symm
            subst hm
            simp (disch := omega) only [vmE, liE, eE, seval, deE, fxE, retOf, maskA, setVals, getVals, putA, stripAt, AVal.strip, stripL, rd, hc29, hc30, hc31, hx33, hc34, hc35]
            refine hK28 _ _ (kPost_normal (hK27 _ _ ?_))
            refine awp_ret ?_
            refine hR _ _ _ (retPost_r (by simp (disch := omega) only [Try.results8, vmE, liE, eE, seval, deE, fxE, retOf, maskA, setVals, getVals, putA, stripAt, AVal.strip, stripL, rd, hc29, hc30, hc31, hx33, hc34, hc35]; rfl) (.cons _ (.cons _ (.cons _ (.cons _ (List.Sublist.refl _))))) ?_)
            cases h
            refine ⟨?_, ?_⟩
            · simp (disch := omega) only [vmE, liE, eE, seval, deE, fxE, retOf, maskA, setVals, getVals, putA, stripAt, AVal.strip, stripL, rd, hc29, hc30, hc31, hx33, hc34, hc35]
            · rfl
          · refine awp_region' [] ?_
            intro K28 hK28
            simp (disch := omega) only [vmE, liE, eE, seval, deE, fxE, retOf, maskA, setVals, getVals, putA, stripAt, AVal.strip, stripL, rd, hc29, hc30, hc31, hx33, hc34, hc35]
            refine hK28 _ _ (kPost_normal (hK27 _ _ ?_))
            refine awp_ret ?_
            refine hR _ _ _ (retPost_r (by simp (disch := omega) only [Try.results8, vmE, liE, eE, seval, deE, fxE, retOf, maskA, setVals, getVals, putA, stripAt, AVal.strip, stripL, rd, hc29, hc30, hc31, hx33, hc34, hc35]; rfl) (.cons _ (.cons _ (.cons _ (.cons _ (List.Sublist.refl _))))) ?_)
            cases h
            refine ⟨?_, ?_⟩
            · simp (disch := omega) only [vmE, liE, eE, seval, deE, fxE, retOf, maskA, setVals, getVals, putA, stripAt, AVal.strip, stripL, rd, hc29, hc30, hc31, hx33, hc34, hc35]
            · rfl
        · refine awp_region' [] ?_
          intro K28 hK28
          simp (disch := omega) only [vmE, liE, eE, seval, deE, fxE, retOf, maskA, setVals, getVals, putA, stripAt, AVal.strip, stripL, rd, hc29, hc30, hc31, hx33, hc34]
          refine hK28 _ _ (kPost_normal (hK27 _ _ ?_))
          refine awp_ret ?_
          refine hR _ _ _ (retPost_r (by simp (disch := omega) only [Try.results8, vmE, liE, eE, seval, deE, fxE, retOf, maskA, setVals, getVals, putA, stripAt, AVal.strip, stripL, rd, hc29, hc30, hc31, hx33, hc34]; rfl) (.cons _ (.cons _ (.cons _ (.cons _ (List.Sublist.refl _))))) ?_)
          cases h
          refine ⟨?_, ?_⟩
          · simp (disch := omega) only [vmE, liE, eE, seval, deE, fxE, retOf, maskA, setVals, getVals, putA, stripAt, AVal.strip, stripL, rd, hc29, hc30, hc31, hx33, hc34]
          · rfl
      · refine awp_region' [] ?_
        intro K28 hK28
        simp (disch := omega) only [vmE, liE, eE, seval, deE, fxE, retOf, maskA, setVals, getVals, putA, stripAt, AVal.strip, stripL, rd, hc29, hc30, hc31]
        refine hK28 _ _ (kPost_normal (hK27 _ _ ?_))
        refine awp_ret ?_
        refine hR _ _ _ (retPost_r (by simp (disch := omega) only [Try.results8, vmE, liE, eE, seval, deE, fxE, retOf, maskA, setVals, getVals, putA, stripAt, AVal.strip, stripL, rd, hc29, hc30, hc31]; rfl) (.cons _ (.cons _ (.cons _ (.cons _ (List.Sublist.refl _))))) ?_)
        cases h
        refine ⟨?_, ?_⟩
        · simp (disch := omega) only [vmE, liE, eE, seval, deE, fxE, retOf, maskA, setVals, getVals, putA, stripAt, AVal.strip, stripL, rd, hc29, hc30, hc31]
        · rfl
    · refine awp_region' [] ?_
      intro K28 hK28
      simp (disch := omega) only [vmE, liE, eE, seval, deE, fxE, retOf, maskA, setVals, getVals, putA, stripAt, AVal.strip, stripL, rd, hc29, hc30]
      refine hK28 _ _ (kPost_normal (hK27 _ _ ?_))
      refine awp_ret ?_
      refine hR _ _ _ (retPost_r (by simp (disch := omega) only [Try.results8, vmE, liE, eE, seval, deE, fxE, retOf, maskA, setVals, getVals, putA, stripAt, AVal.strip, stripL, rd, hc29, hc30]; rfl) (.cons _ (.cons _ (.cons _ (.cons _ (List.Sublist.refl _))))) ?_)
      cases h
      refine ⟨?_, ?_⟩
      · simp (disch := omega) only [vmE, liE, eE, seval, deE, fxE, retOf, maskA, setVals, getVals, putA, stripAt, AVal.strip, stripL, rd, hc29, hc30]
      · rfl
  · refine awp_region' [] ?_
    intro K28 hK28
    simp (disch := omega) only [vmE, liE, eE, seval, deE, fxE, retOf, maskA, setVals, getVals, putA, stripAt, AVal.strip, stripL, rd, hc29]
    refine hK28 _ _ (kPost_normal (hK27 _ _ ?_))
    refine awp_ret ?_
    refine hR _ _ _ (retPost_r (by simp (disch := omega) only [Try.results8, vmE, liE, eE, seval, deE, fxE, retOf, maskA, setVals, getVals, putA, stripAt, AVal.strip, stripL, rd, hc29]; rfl) (.cons _ (.cons _ (.cons _ (.cons _ (List.Sublist.refl _))))) ?_)
    cases h
    refine ⟨?_, ?_⟩
    · simp (disch := omega) only [vmE, liE, eE, seval, deE, fxE, retOf, maskA, setVals, getVals, putA, stripAt, AVal.strip, stripL, rd, hc29]
    · rfl
end Go.Proofs.Ytdbeiialamganaa
