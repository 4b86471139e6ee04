/- That the code computes these functions; written by decomp.py. -/
import Derived.Test.YtdbeiialamganaaVmFacts
import Derived.Test.YtdbeiialamganaaDefs
import Derived.Test.YtdbeiialamganaaVMSets
import Derived.Test.YtdbeiialamganaaW3
set_option linter.unusedVariables false
set_option linter.unusedSimpArgs false
set_option maxHeartbeats 4000000
set_option maxRecDepth 100000
set_option linter.defProp false
namespace Go.Proofs.Ytdbeiialamganaa
open Go.VM
theorem ref16_SameLink_w {N : Nat} {a0 : ApiLink} {a1 : ApiLink} {r : Bool} (h : ref16_SameLink N a0 a1 = some r) {n : Nat} {m : List (Nat × List AVal)} :
    ACall vE 21 [.agg [.str a0.rel, .str a0.type_, .str a0.href, .str a0.template, .slice 3 (List.map encApiProperty a0.titles) false, .slice 3 (List.map encApiProperty a0.properties) false], .agg [.str a1.rel, .str a1.type_, .str a1.href, .str a1.template, .slice 3 (List.map encApiProperty a1.titles) false, .slice 3 (List.map encApiProperty a1.properties) false]] ⟨m, n⟩ fun r' st => r' = .bool r ∧ st.m = m := by
  rw [ref16_SameLink] at h
  refine acall_k Try.func21 rfl ?_
  intro R hR
  refine AWp.congr (by simp only [Try.ntmps21, liE, seval]; rfl) ?_
  refine awp_seq_k ?_
  intro K1 hK1
  refine awp_region' [] ?_
  intro K2 hK2
  simp (disch := omega) only [vmE, liE, eE, seval, deE, fxE, retOf, maskA, setVals, getVals, putA, stripAt, AVal.strip, stripL, rd]
  refine hK2 _ _ (kPost_normal (hK1 _ _ ?_))
  refine awp_seq_k ?_
  intro K3 hK3
  replace h := ite_some h
  rcases h with ⟨hc5, h⟩ | ⟨hc5, h⟩
  · replace h := ite_some h
    rcases h with ⟨hc6, h⟩ | ⟨hc6, h⟩
    · replace h := ite_some h
      rcases h with ⟨hc7, h⟩ | ⟨hc7, h⟩
      · replace h := ite_some h
        rcases h with ⟨hc8, h⟩ | ⟨hc8, h⟩
        · replace h := bind_some h
          rcases h with ⟨y9, hy10, h⟩
          replace h := ite_some h
          rcases h with ⟨hc13, h⟩ | ⟨hc13, h⟩
          · replace h := bind_some h
            rcases h with ⟨y14, hy15, h⟩
            refine awp_region' [] ?_
            intro K4 hK4
            simp (disch := omega) only [vmE, liE, eE, seval, deE, fxE, retOf, maskA, setVals, getVals, putA, stripAt, AVal.strip, stripL, rd, hc5, hc6, hc7, hc8, hc5, hc6, hc7, hc8, hc13]
            refine ACall.of (ref16_sameProperties_w hy10) ?_ ?_
            · first | (simp (disch := omega) only [vmE, liE, eE, seval, deE, fxE, retOf, maskA, setVals, getVals, putA, stripAt, AVal.strip, stripL, rd, hc5, hc6, hc7, hc8, hc5, hc6, hc7, hc8, hc13]) | rfl
            rintro _ ⟨m12, n11⟩ hn11 ⟨rfl, hm⟩
            simp (disch := omega) only [vmE, liE, eE, seval] at hn11 hm
            replace hm := hm.symm
            subst hm
            simp (disch := omega) only [vmE, liE, eE, seval, deE, fxE, retOf, maskA, setVals, getVals, putA, stripAt, AVal.strip, stripL, rd, hc5, hc6, hc7, hc8, hc13, hc5, hc6, hc7, hc8, hc13]
            refine ACall.of (ref16_sameProperties_w hy15) ?_ ?_
            · first | (simp (disch := omega) only [vmE, liE, eE, seval, deE, fxE, retOf, maskA, setVals, getVals, putA, stripAt, AVal.strip, stripL, rd, hc5, hc6, hc7, hc8, hc13, hc5, hc6, hc7, hc8, hc13]) | rfl
            rintro _ ⟨m17, n16⟩ hn16 ⟨rfl, hm⟩
            simp (disch := omega) only [vmE, liE, eE, seval] at hn16 hm
            replace hm := hm.symm
            subst hm
            simp (disch := omega) only [vmE, liE, eE, seval, deE, fxE, retOf, maskA, setVals, getVals, putA, stripAt, AVal.strip, stripL, rd, hc5, hc6, hc7, hc8, hc13]
            refine hK4 _ _ (kPost_normal (hK3 _ _ ?_))
            refine awp_ret ?_
            refine hR _ _ _ (retPost_r (by simp (disch := omega) only [Try.results21, vmE, liE, eE, seval, deE, fxE, retOf, maskA, setVals, getVals, putA, stripAt, AVal.strip, stripL, rd, hc5, hc6, hc7, hc8, hc13]; rfl) (.cons _ (.cons _ (List.Sublist.refl _))) ?_)
            cases h
            refine ⟨?_, ?_⟩
            · simp (disch := omega) only [vmE, liE, eE, seval, deE, fxE, retOf, maskA, setVals, getVals, putA, stripAt, AVal.strip, stripL, rd, hc5, hc6, hc7, hc8, hc13]
            · rfl
          · refine awp_region' [] ?_
            intro K4 hK4
            simp (disch := omega) only [vmE, liE, eE, seval, deE, fxE, retOf, maskA, setVals, getVals, putA, stripAt, AVal.strip, stripL, rd, hc5, hc6, hc7, hc8, hc5, hc6, hc7, hc8, hc13]
            refine ACall.of (ref16_sameProperties_w hy10) ?_ ?_
            · first | (simp (disch := omega) only [vmE, liE, eE, seval, deE, fxE, retOf, maskA, setVals, getVals, putA, stripAt, AVal.strip, stripL, rd, hc5, hc6, hc7, hc8, hc5, hc6, hc7, hc8, hc13]) | rfl
            rintro _ ⟨m12, n11⟩ hn11 ⟨rfl, hm⟩
            simp (disch := omega) only [vmE, liE, eE, seval] at hn11 hm
            replace hm := hm.symm
            subst hm
            simp (disch := omega) only [vmE, liE, eE, seval, deE, fxE, retOf, maskA, setVals, getVals, putA, stripAt, AVal.strip, stripL, rd, hc5, hc6, hc7, hc8, hc13]
            refine hK4 _ _ (kPost_normal (hK3 _ _ ?_))
            refine awp_ret ?_
            refine hR _ _ _ (retPost_r (by simp (disch := omega) only [Try.results21, vmE, liE, eE, seval, deE, fxE, retOf, maskA, setVals, getVals, putA, stripAt, AVal.strip, stripL, rd, hc5, hc6, hc7, hc8, hc13]; rfl) (.cons _ (.cons _ (List.Sublist.refl _))) ?_)
            cases h
            refine ⟨?_, ?_⟩
            · simp (disch := omega) only [vmE, liE, eE, seval, deE, fxE, retOf, maskA, setVals, getVals, putA, stripAt, AVal.strip, stripL, rd, hc5, hc6, hc7, hc8, hc13]
            · rfl
        · refine awp_region' [] ?_
          intro K4 hK4
          simp (disch := omega) only [vmE, liE, eE, seval, deE, fxE, retOf, maskA, setVals, getVals, putA, stripAt, AVal.strip, stripL, rd, hc5, hc6, hc7, hc8]
          refine hK4 _ _ (kPost_normal (hK3 _ _ ?_))
          refine awp_ret ?_
          refine hR _ _ _ (retPost_r (by simp (disch := omega) only [Try.results21, vmE, liE, eE, seval, deE, fxE, retOf, maskA, setVals, getVals, putA, stripAt, AVal.strip, stripL, rd, hc5, hc6, hc7, hc8]; rfl) (.cons _ (.cons _ (List.Sublist.refl _))) ?_)
          cases h
          refine ⟨?_, ?_⟩
          · simp (disch := omega) only [vmE, liE, eE, seval, deE, fxE, retOf, maskA, setVals, getVals, putA, stripAt, AVal.strip, stripL, rd, hc5, hc6, hc7, hc8]
          · rfl
      · refine awp_region' [] ?_
        intro K4 hK4
        simp (disch := omega) only [vmE, liE, eE, seval, deE, fxE, retOf, maskA, setVals, getVals, putA, stripAt, AVal.strip, stripL, rd, hc5, hc6, hc7]
        refine hK4 _ _ (kPost_normal (hK3 _ _ ?_))
        refine awp_ret ?_
        refine hR _ _ _ (retPost_r (by simp (disch := omega) only [Try.results21, vmE, liE, eE, seval, deE, fxE, retOf, maskA, setVals, getVals, putA, stripAt, AVal.strip, stripL, rd, hc5, hc6, hc7]; rfl) (.cons _ (.cons _ (List.Sublist.refl _))) ?_)
        cases h
        refine ⟨?_, ?_⟩
        · simp (disch := omega) only [vmE, liE, eE, seval, deE, fxE, retOf, maskA, setVals, getVals, putA, stripAt, AVal.strip, stripL, rd, hc5, hc6, hc7]
        · rfl
    · refine awp_region' [] ?_
      intro K4 hK4
      simp (disch := omega) only [vmE, liE, eE, seval, deE, fxE, retOf, maskA, setVals, getVals, putA, stripAt, AVal.strip, stripL, rd, hc5, hc6]
      refine hK4 _ _ (kPost_normal (hK3 _ _ ?_))
      refine awp_ret ?_
      refine hR _ _ _ (retPost_r (by simp (disch := omega) only [Try.results21, vmE, liE, eE, seval, deE, fxE, retOf, maskA, setVals, getVals, putA, stripAt, AVal.strip, stripL, rd, hc5, hc6]; rfl) (.cons _ (.cons _ (List.Sublist.refl _))) ?_)
      cases h
      refine ⟨?_, ?_⟩
      · simp (disch := omega) only [vmE, liE, eE, seval, deE, fxE, retOf, maskA, setVals, getVals, putA, stripAt, AVal.strip, stripL, rd, hc5, hc6]
      · rfl
  · refine awp_region' [] ?_
    intro K4 hK4
    simp (disch := omega) only [vmE, liE, eE, seval, deE, fxE, retOf, maskA, setVals, getVals, putA, stripAt, AVal.strip, stripL, rd, hc5]
    refine hK4 _ _ (kPost_normal (hK3 _ _ ?_))
    refine awp_ret ?_
    refine hR _ _ _ (retPost_r (by simp (disch := omega) only [Try.results21, vmE, liE, eE, seval, deE, fxE, retOf, maskA, setVals, getVals, putA, stripAt, AVal.strip, stripL, rd, hc5]; rfl) (.cons _ (.cons _ (List.Sublist.refl _))) ?_)
    cases h
    refine ⟨?_, ?_⟩
    · simp (disch := omega) only [vmE, liE, eE, seval, deE, fxE, retOf, maskA, setVals, getVals, putA, stripAt, AVal.strip, stripL, rd, hc5]
    · rfl
end Go.Proofs.Ytdbeiialamganaa
