/- That the code computes these functions; written by decomp.py. -/
import Derived.Test.YtdbeiialamganaaVmFacts
import Derived.Test.YtdbeiialamganaaDefs
import Derived.Test.YtdbeiialamganaaVMSets
import Derived.Test.YtdbeiialamganaaW1
import Derived.Test.YtdbeiialamganaaW10
set_option linter.unusedVariables false
set_option linter.unusedSimpArgs false
set_option maxHeartbeats 4000000
set_option maxRecDepth 100000
set_option linter.defProp false
namespace Go.Proofs.Ytdbeiialamganaa
open Go.VM
theorem jrd_decoder_link_w {N : Nat} {a0 : JrdDecoder} {a1 : ApiValue} {r : ApiLink × JrdDecoder} (h : jrd_decoder_link N a0 a1 = some r) {n : Nat} {m : List (Nat × List AVal)} {i0 : Nat} (hi0 : mget m i0 = some [.int .i64 a0.e]) :
    ACall vE 30 [.ptr i0 0, .agg [.int .i64 a1.kind, .str a1.text, .slice 1 (List.map AVal.str a1.keys) false, .slice 4 (List.map encApiValue a1.items) false]] ⟨m, n⟩ fun r' st => r' = .agg [.str r.1.rel, .str r.1.type_, .str r.1.href, .str r.1.template, .slice 3 (List.map encApiProperty r.1.titles) false, .slice 3 (List.map encApiProperty r.1.properties) false] ∧ st.m = mset m i0 [.int .i64 r.2.e] := by
  rw [jrd_decoder_link] at h
  refine ACall.front hi0 ?_
  intro hin
  refine acall_k Try.func30 rfl ?_
  intro R hR
  refine AWp.congr (by simp only [Try.ntmps30, liE, seval]; rfl) ?_
  refine awp_seq_k ?_
  intro K1 hK1
  refine awp_region' [] ?_
  intro K2 hK2
  simp (disch := omega) only [vmE, liE, eE, seval, deE, fxE, retOf, maskA, setVals, getVals, putA, stripAt, AVal.strip, stripL, rd]
  refine hK2 _ _ (kPost_normal (hK1 _ _ ?_))
  refine awp_seq_k ?_
  intro K3 hK3
  refine awp_region' [] ?_
  intro K4 hK4
  simp (disch := omega) only [vmE, liE, eE, seval, deE, fxE, retOf, maskA, setVals, getVals, putA, stripAt, AVal.strip, stripL, rd]
  refine hK4 _ _ (kPost_normal (hK3 _ _ ?_))
  refine awp_seq_k ?_
  intro K5 hK5
  replace h := joinK_some h
  rcases h with ⟨k7, hk7, h⟩
  refine awp_join [6, 7, 8, 9, 10, 11, 12, 13, 14, 15, 16] [] (fun vs st' => ∃ j6 : JrdDecoder, vs = [] ∧ st'.m = ((n + 2), [.str [], .str [], .str [], .str [], .slice 3 (List.map encApiProperty []) true, .slice 3 (List.map encApiProperty []) true]) :: ((n + 1), [.str [], .str [], .str [], .str [], .slice 3 (List.map encApiProperty []) true, .slice 3 (List.map encApiProperty []) true]) :: (n, [.int .i64 a1.kind, .str a1.text, .slice 1 (List.map AVal.str a1.keys) false, .slice 4 (List.map encApiValue a1.items) false]) :: (i0, [.int .i64 j6.e]) :: mdel m i0 ∧ k7 j6 = some r) hK5 ?_ ?_
  · clear h
    rintro _ ⟨m8, n9⟩ ⟨j6, rfl, hm, h⟩
    simp only [] at hm
    replace hm := hm.symm
    subst hm
    replace h := hk7 _ _ h
    clear hk7 k7
    refine AWp.known fun _ hkl => ?_
    simp only [] at hkl
    obtain ⟨_, hkl⟩ := keysLt_cons hkl
    obtain ⟨_, hkl⟩ := keysLt_cons hkl
    obtain ⟨_, hkl⟩ := keysLt_cons hkl
    obtain ⟨_, hkl⟩ := keysLt_cons hkl
    clear hkl
    refine AWp.congr (by simp (disch := omega) only [vmE, liE, eE, seval, deE, fxE, retOf, maskA, setVals, getVals, putA, stripAt, AVal.strip, stripL, rd]; rfl) ?_
    refine awp_seq_k ?_
    intro K24 hK24
    replace h := bind_some h
    rcases h with ⟨y26, hy27, h⟩
    refine awp_region' [] ?_
    intro K25 hK25
    simp (disch := omega) only [vmE, liE, eE, seval, deE, fxE, retOf, maskA, setVals, getVals, putA, stripAt, AVal.strip, stripL, rd]
    refine ACall.of (jrd_decoder_member_w hy27 (i0 := i0) (by simp (disch := omega) only [vmE, liE, eE, seval, deE, fxE, retOf, maskA, setVals, getVals, putA, stripAt, AVal.strip, stripL, rd])) ?_ ?_
    · first | (simp (disch := omega) only [vmE, liE, eE, seval, deE, fxE, retOf, maskA, setVals, getVals, putA, stripAt, AVal.strip, stripL, rd]) | rfl
    rintro _ ⟨m29, n28⟩ hn28 ⟨rfl, hm⟩
    simp (disch := omega) only [vmE, liE, eE, seval] at hn28 hm
    replace hm := hm.symm
    subst hm
    simp (disch := omega) only [vmE, liE, eE, seval, deE, fxE, retOf, maskA, setVals, getVals, putA, stripAt, AVal.strip, stripL, rd]
    refine hK25 _ _ (kPost_normal (hK24 _ _ ?_))
    refine awp_seq_k ?_
    intro K30 hK30
    replace h := bind_some h
    rcases h with ⟨y32, hy33, h⟩
    refine awp_region' [] ?_
    intro K31 hK31
    simp (disch := omega) only [vmE, liE, eE, seval, deE, fxE, retOf, maskA, setVals, getVals, putA, stripAt, AVal.strip, stripL, rd]
    refine ACall.of (jrd_decoder_member_w hy33 (i0 := i0) (by simp (disch := omega) only [vmE, liE, eE, seval, deE, fxE, retOf, maskA, setVals, getVals, putA, stripAt, AVal.strip, stripL, rd])) ?_ ?_
    · first | (simp (disch := omega) only [vmE, liE, eE, seval, deE, fxE, retOf, maskA, setVals, getVals, putA, stripAt, AVal.strip, stripL, rd]) | rfl
    rintro _ ⟨m35, n34⟩ hn34 ⟨rfl, hm⟩
    simp (disch := omega) only [vmE, liE, eE, seval] at hn34 hm
    replace hm := hm.symm
    subst hm
    simp (disch := omega) only [vmE, liE, eE, seval, deE, fxE, retOf, maskA, setVals, getVals, putA, stripAt, AVal.strip, stripL, rd]
    refine hK31 _ _ (kPost_normal (hK30 _ _ ?_))
    refine awp_seq_k ?_
    intro K36 hK36
    replace h := bind_some h
    rcases h with ⟨y38, hy39, h⟩
    refine awp_region' [] ?_
    intro K37 hK37
    simp (disch := omega) only [vmE, liE, eE, seval, deE, fxE, retOf, maskA, setVals, getVals, putA, stripAt, AVal.strip, stripL, rd]
    refine ACall.of (jrd_decoder_member_w hy39 (i0 := i0) (by simp (disch := omega) only [vmE, liE, eE, seval, deE, fxE, retOf, maskA, setVals, getVals, putA, stripAt, AVal.strip, stripL, rd])) ?_ ?_
    · first | (simp (disch := omega) only [vmE, liE, eE, seval, deE, fxE, retOf, maskA, setVals, getVals, putA, stripAt, AVal.strip, stripL, rd]) | rfl
    rintro _ ⟨m41, n40⟩ hn40 ⟨rfl, hm⟩
    simp (disch := omega) only [vmE, liE, eE, seval] at hn40 hm
    replace hm := hm.symm
    subst hm
    simp (disch := omega) only [vmE, liE, eE, seval, deE, fxE, retOf, maskA, setVals, getVals, putA, stripAt, AVal.strip, stripL, rd]
    refine hK37 _ _ (kPost_normal (hK36 _ _ ?_))
    refine awp_seq_k ?_
    intro K42 hK42
    replace h := bind_some h
    rcases h with ⟨y44, hy45, h⟩
    refine awp_region' [] ?_
    intro K43 hK43
    simp (disch := omega) only [vmE, liE, eE, seval, deE, fxE, retOf, maskA, setVals, getVals, putA, stripAt, AVal.strip, stripL, rd]
    refine ACall.of (jrd_decoder_member_w hy45 (i0 := i0) (by simp (disch := omega) only [vmE, liE, eE, seval, deE, fxE, retOf, maskA, setVals, getVals, putA, stripAt, AVal.strip, stripL, rd])) ?_ ?_
    · first | (simp (disch := omega) only [vmE, liE, eE, seval, deE, fxE, retOf, maskA, setVals, getVals, putA, stripAt, AVal.strip, stripL, rd]) | rfl
    rintro _ ⟨m47, n46⟩ hn46 ⟨rfl, hm⟩
    simp (disch := omega) only [vmE, liE, eE, seval] at hn46 hm
    replace hm := hm.symm
    subst hm
    simp (disch := omega) only [vmE, liE, eE, seval, deE, fxE, retOf, maskA, setVals, getVals, putA, stripAt, AVal.strip, stripL, rd]
    refine hK43 _ _ (kPost_normal (hK42 _ _ ?_))
    refine awp_seq_k ?_
    intro K48 hK48
    replace h := bind_some h
    rcases h with ⟨y50, hy51, h⟩
    refine awp_region' [] ?_
    intro K49 hK49
    simp (disch := omega) only [vmE, liE, eE, seval, deE, fxE, retOf, maskA, setVals, getVals, putA, stripAt, AVal.strip, stripL, rd]
    refine ACall.of (jrd_decoder_properties_w hy51 (i0 := i0) (by simp (disch := omega) only [vmE, liE, eE, seval, deE, fxE, retOf, maskA, setVals, getVals, putA, stripAt, AVal.strip, stripL, rd])) ?_ ?_
    · first | (simp (disch := omega) only [vmE, liE, eE, seval, deE, fxE, retOf, maskA, setVals, getVals, putA, stripAt, AVal.strip, stripL, rd]) | rfl
    rintro _ ⟨m53, n52⟩ hn52 ⟨rfl, hm⟩
    simp (disch := omega) only [vmE, liE, eE, seval] at hn52 hm
    replace hm := hm.symm
    subst hm
    simp (disch := omega) only [vmE, liE, eE, seval, deE, fxE, retOf, maskA, setVals, getVals, putA, stripAt, AVal.strip, stripL, rd]
    refine hK49 _ _ (kPost_normal (hK48 _ _ ?_))
    refine awp_seq_k ?_
    intro K54 hK54
    replace h := bind_some h
    rcases h with ⟨y56, hy57, h⟩
    refine awp_region' [] ?_
    intro K55 hK55
    simp (disch := omega) only [vmE, liE, eE, seval, deE, fxE, retOf, maskA, setVals, getVals, putA, stripAt, AVal.strip, stripL, rd]
    refine ACall.of (jrd_decoder_properties_w hy57 (i0 := i0) (by simp (disch := omega) only [vmE, liE, eE, seval, deE, fxE, retOf, maskA, setVals, getVals, putA, stripAt, AVal.strip, stripL, rd])) ?_ ?_
    · first | (simp (disch := omega) only [vmE, liE, eE, seval, deE, fxE, retOf, maskA, setVals, getVals, putA, stripAt, AVal.strip, stripL, rd]) | rfl
    rintro _ ⟨m59, n58⟩ hn58 ⟨rfl, hm⟩
    simp (disch := omega) only [vmE, liE, eE, seval] at hn58 hm
    replace hm := hm.symm
    subst hm
    simp (disch := omega) only [vmE, liE, eE, seval, deE, fxE, retOf, maskA, setVals, getVals, putA, stripAt, AVal.strip, stripL, rd]
    refine hK55 _ _ (kPost_normal (hK54 _ _ ?_))
    refine awp_seq_k ?_
    intro K60 hK60
    refine awp_region' [] ?_
    intro K61 hK61
    simp (disch := omega) only [vmE, liE, eE, seval, deE, fxE, retOf, maskA, setVals, getVals, putA, stripAt, AVal.strip, stripL, rd]
    refine hK61 _ _ (kPost_normal (hK60 _ _ ?_))
    refine awp_ret ?_
    refine hR _ _ _ (retPost_r (by simp (disch := omega) only [Try.results30, vmE, liE, eE, seval, deE, fxE, retOf, maskA, setVals, getVals, putA, stripAt, AVal.strip, stripL, rd]; rfl) (.cons _ (.cons _ (.cons _ (List.Sublist.refl _)))) ?_)
    cases h
    refine ⟨_, rfl, ?_, ?_⟩
    · simp (disch := omega) only [vmE, liE, eE, seval, deE, fxE, retOf, maskA, setVals, getVals, putA, stripAt, AVal.strip, stripL, rd]
    · simp (disch := omega) only [vmE, liE, eE, seval, deE, fxE, retOf, maskA, setVals, getVals, putA, stripAt, AVal.strip, stripL, rd]
  · intro J62 hJ62
    refine awp_seq_k ?_
    intro K10 hK10
    replace h := bind_some h
    rcases h with ⟨y12, hy13, h⟩
    refine awp_region' [] ?_
    intro K11 hK11
    simp (disch := omega) only [vmE, liE, eE, seval, deE, fxE, retOf, maskA, setVals, getVals, putA, stripAt, AVal.strip, stripL, rd]
    refine ACall.of (jsondoc_Get_w hy13) ?_ ?_
    · first | (simp (disch := omega) only [vmE, liE, eE, seval, deE, fxE, retOf, maskA, setVals, getVals, putA, stripAt, AVal.strip, stripL, rd]) | rfl
    rintro _ ⟨m15, n14⟩ hn14 ⟨rfl, hm⟩
    simp (disch := omega) only [vmE, liE, eE, seval] at hn14 hm
    replace hm := hm.symm
    subst hm
    simp (disch := omega) only [vmE, liE, eE, seval, deE, fxE, retOf, maskA, setVals, getVals, putA, stripAt, AVal.strip, stripL, rd]
    refine hK11 _ _ (kPost_normal (hK10 _ _ ?_))
    refine awp_seq_k ?_
    intro K16 hK16
    refine awp_region' [] ?_
    intro K17 hK17
    simp (disch := omega) only [vmE, liE, eE, seval, deE, fxE, retOf, maskA, setVals, getVals, putA, stripAt, AVal.strip, stripL, rd]
    refine hK17 _ _ (kPost_normal (hK16 _ _ ?_))
    replace h := ite_some h
    rcases h with ⟨hc18, h⟩ | ⟨hc18, h⟩
    · refine awp_cond_f rfl (by simp only [liE, hc18]) ?_
      refine awp_skip ?_
      refine kPost_normal (hJ62 _ _ _ (.cons _ (List.Sublist.refl _)) ?_ ⟨a0, ?_, ?_, h⟩) <;> simp (disch := omega) only [vmE, liE, eE, seval, deE, fxE, retOf, maskA, setVals, getVals, putA, stripAt, AVal.strip, stripL, rd, hc18]
    · refine awp_cond_t rfl (by simp only [liE, hc18]) ?_
      replace h := bind_some h
      rcases h with ⟨y20, hy21, h⟩
      refine awp_region' [] ?_
      intro K19 hK19
      simp (disch := omega) only [vmE, liE, eE, seval, deE, fxE, retOf, maskA, setVals, getVals, putA, stripAt, AVal.strip, stripL, rd, hc18]
      refine ACall.of (jrd_decoder_fail_w hy21 (i0 := i0) (by simp (disch := omega) only [vmE, liE, eE, seval, deE, fxE, retOf, maskA, setVals, getVals, putA, stripAt, AVal.strip, stripL, rd])) ?_ ?_
      · first | (simp (disch := omega) only [vmE, liE, eE, seval, deE, fxE, retOf, maskA, setVals, getVals, putA, stripAt, AVal.strip, stripL, rd, hc18]) | rfl
      rintro _ ⟨m23, n22⟩ hn22 ⟨rfl, hm⟩
      simp (disch := omega) only [vmE, liE, eE, seval] at hn22 hm
      replace hm := hm.symm
      subst hm
      simp (disch := omega) only [vmE, liE, eE, seval, deE, fxE, retOf, maskA, setVals, getVals, putA, stripAt, AVal.strip, stripL, rd, hc18]
      refine hK19 _ _ (kPost_normal (hJ62 _ _ _ (.cons _ (List.Sublist.refl _)) ?_ ⟨y20, ?_, ?_, h⟩)) <;> simp (disch := omega) only [vmE, liE, eE, seval, deE, fxE, retOf, maskA, setVals, getVals, putA, stripAt, AVal.strip, stripL, rd, hc18]
end Go.Proofs.Ytdbeiialamganaa
