/- That the code computes these functions; written by decomp.py. -/
import Derived.Test.YtdbeiialamganaaVmFacts
import Derived.Test.YtdbeiialamganaaDefs
import Derived.Test.YtdbeiialamganaaVMSets
import Derived.Test.YtdbeiialamganaaW0
import Derived.Test.YtdbeiialamganaaW1
import Derived.Test.YtdbeiialamganaaW2
set_option linter.unusedVariables false
set_option linter.unusedSimpArgs false
set_option maxHeartbeats 4000000
set_option maxRecDepth 100000
set_option linter.defProp false
namespace Go.Proofs.Ytdbeiialamganaa
open Go.VM
theorem ref02_Encode_w {N : Nat} {a0 : Int} {r : (List UInt8) × Int} (h : ref02_Encode N a0 = some r) {n : Nat} {m : List (Nat × List AVal)} :
    ACall vE 69 [.int .i64 a0] ⟨m, n⟩ fun r' st => r' = .tuple [.str r.1, .int .i64 r.2] ∧ st.m = m := by
  rw [ref02_Encode] at h
  refine acall_k Try.func69 rfl ?_
  intro R hR
  refine AWp.congr (by simp only [Try.ntmps69, liE, seval]; rfl) ?_
  refine awp_seq_k ?_
  intro K1 hK1
  refine awp_region' [] ?_
  intro K2 hK2
  simp (disch := omega) only [vmE, liE, eE, seval, deE, fxE, retOf, maskA, setVals, getVals, putA, stripAt, AVal.strip, stripL, rd]
  refine hK2 _ _ (kPost_normal (hK1 _ _ ?_))
  refine awp_seq_k ?_
  intro K3 hK3
  refine awp_block_k ?_
  intro K4 hK4
  refine awp_seq_k ?_
  intro K5 hK5
  replace h := bind_some h
  rcases h with ⟨y7, hy8, h⟩
  refine awp_region' [] ?_
  intro K6 hK6
  simp (disch := omega) only [vmE, liE, eE, seval, deE, fxE, retOf, maskA, setVals, getVals, putA, stripAt, AVal.strip, stripL, rd]
  refine ACall.of (ref02_point_w hy8) ?_ ?_
  · first | (simp (disch := omega) only [vmE, liE, eE, seval, deE, fxE, retOf, maskA, setVals, getVals, putA, stripAt, AVal.strip, stripL, rd]) | rfl
  rintro _ ⟨m10, n9⟩ hn9 ⟨rfl, hm⟩
  simp (disch := omega) only [vmE, liE, eE, seval] at hn9 hm
  replace hm := hm.symm
  subst hm
  simp (disch := omega) only [vmE, liE, eE, seval, deE, fxE, retOf, maskA, setVals, getVals, putA, stripAt, AVal.strip, stripL, rd]
  refine hK6 _ _ (kPost_normal (hK5 _ _ ?_))
  replace h := ite_some h
  rcases h with ⟨hc11, h⟩ | ⟨hc11, h⟩
  · refine awp_cond_f rfl (by simp only [liE, hc11]) ?_
    refine awp_seq_k ?_
    intro K12 hK12
    refine awp_region' [] ?_
    intro K13 hK13
    simp (disch := omega) only [vmE, liE, eE, seval, deE, fxE, retOf, maskA, setVals, getVals, putA, stripAt, AVal.strip, stripL, rd, hc11]
    refine hK13 _ _ (kPost_normal (hK12 _ _ ?_))
    replace h := ite_some h
    rcases h with ⟨hc14, h⟩ | ⟨hc14, h⟩
    · refine awp_cond_t rfl hc14 ?_
      refine awp_seq_k ?_
      intro K15 hK15
      refine awp_region' [] ?_
      intro K16 hK16
      simp (disch := omega) only [vmE, liE, eE, seval, deE, fxE, retOf, maskA, setVals, getVals, putA, stripAt, AVal.strip, stripL, rd, hc11, hc14]
      refine hK16 _ _ (kPost_normal (hK15 _ _ ?_))
      refine awp_ret ?_
      refine bPost_ret (kPost_ret (hR _ _ _ (retPost_r (by simp (disch := omega) only [Try.results69, vmE, liE, eE, seval, deE, fxE, retOf, maskA, setVals, getVals, putA, stripAt, AVal.strip, stripL, rd, hc11, hc14]; rfl) (List.Sublist.refl _) ?_)))
      cases h
      refine ⟨?_, ?_⟩
      · simp (disch := omega) only [vmE, liE, eE, seval, deE, fxE, retOf, maskA, setVals, getVals, putA, stripAt, AVal.strip, stripL, rd, hc11, hc14]
      · rfl
    · refine awp_cond_f rfl hc14 ?_
      refine awp_seq_k ?_
      intro K17 hK17
      refine awp_region' [] ?_
      intro K18 hK18
      simp (disch := omega) only [vmE, liE, eE, seval, deE, fxE, retOf, maskA, setVals, getVals, putA, stripAt, AVal.strip, stripL, rd, hc11, hc14]
      refine hK18 _ _ (kPost_normal (hK17 _ _ ?_))
      replace h := ite_some h
      rcases h with ⟨hc19, h⟩ | ⟨hc19, h⟩
      · refine awp_cond_t rfl hc19 ?_
        refine awp_seq_k ?_
        intro K20 hK20
        refine letL_elim h ?_
        clear h
        intro l22 hl23 h
        replace hl23 := congrArg (List.map (AVal.int .u8)) hl23
        simp only [List.map_cons, List.map_nil, eE] at hl23
        refine awp_region' [] ?_
        intro K21 hK21
        simp (disch := omega) only [vmE, liE, eE, seval, deE, fxE, retOf, maskA, setVals, getVals, putA, stripAt, AVal.strip, stripL, rd, hc11, hc14, hc19, hl23]
        refine hK21 _ _ (kPost_normal (hK20 _ _ ?_))
        refine awp_ret ?_
        refine bPost_ret (kPost_ret (hR _ _ _ (retPost_r (by simp (disch := omega) only [Try.results69, vmE, liE, eE, seval, deE, fxE, retOf, maskA, setVals, getVals, putA, stripAt, AVal.strip, stripL, rd, hc11, hc14, hc19, hl23]; rfl) (List.Sublist.refl _) ?_)))
        cases h
        refine ⟨?_, ?_⟩
        · simp (disch := omega) only [vmE, liE, eE, seval, deE, fxE, retOf, maskA, setVals, getVals, putA, stripAt, AVal.strip, stripL, rd, hc11, hc14, hc19, hl23]
        · rfl
      · refine awp_cond_f rfl hc19 ?_
        refine awp_seq_k ?_
        intro K24 hK24
        refine awp_region' [] ?_
        intro K25 hK25
        simp (disch := omega) only [vmE, liE, eE, seval, deE, fxE, retOf, maskA, setVals, getVals, putA, stripAt, AVal.strip, stripL, rd, hc11, hc14, hc19]
        refine hK25 _ _ (kPost_normal (hK24 _ _ ?_))
        replace h := ite_some h
        rcases h with ⟨hc26, h⟩ | ⟨hc26, h⟩
        · refine awp_cond_t rfl hc26 ?_
          refine awp_seq_k ?_
          intro K27 hK27
          refine letL_elim h ?_
          clear h
          intro l29 hl30 h
          replace hl30 := congrArg (List.map (AVal.int .u8)) hl30
          simp only [List.map_cons, List.map_nil, eE] at hl30
          refine awp_region' [] ?_
          intro K28 hK28
          simp (disch := omega) only [vmE, liE, eE, seval, deE, fxE, retOf, maskA, setVals, getVals, putA, stripAt, AVal.strip, stripL, rd, hc11, hc14, hc19, hc26, hl30]
          refine hK28 _ _ (kPost_normal (hK27 _ _ ?_))
          refine awp_ret ?_
          refine bPost_ret (kPost_ret (hR _ _ _ (retPost_r (by simp (disch := omega) only [Try.results69, vmE, liE, eE, seval, deE, fxE, retOf, maskA, setVals, getVals, putA, stripAt, AVal.strip, stripL, rd, hc11, hc14, hc19, hc26, hl30]; rfl) (List.Sublist.refl _) ?_)))
          cases h
          refine ⟨?_, ?_⟩
          · simp (disch := omega) only [vmE, liE, eE, seval, deE, fxE, retOf, maskA, setVals, getVals, putA, stripAt, AVal.strip, stripL, rd, hc11, hc14, hc19, hc26, hl30]
          · rfl
        · refine awp_cond_f rfl hc26 ?_
          refine awp_skip ?_
          refine bPost_normal (hK4 _ _ (kPost_normal (hK3 _ _ ?_)))
          refine awp_seq_k ?_
          intro K31 hK31
          refine letL_elim h ?_
          clear h
          intro l33 hl34 h
          replace hl34 := congrArg (List.map (AVal.int .u8)) hl34
          simp only [List.map_cons, List.map_nil, eE] at hl34
          refine awp_region' [] ?_
          intro K32 hK32
          simp (disch := omega) only [vmE, liE, eE, seval, deE, fxE, retOf, maskA, setVals, getVals, putA, stripAt, AVal.strip, stripL, rd, hc11, hc14, hc19, hc26, hl34]
          refine hK32 _ _ (kPost_normal (hK31 _ _ ?_))
          refine awp_ret ?_
          refine hR _ _ _ (retPost_r (by simp (disch := omega) only [Try.results69, vmE, liE, eE, seval, deE, fxE, retOf, maskA, setVals, getVals, putA, stripAt, AVal.strip, stripL, rd, hc11, hc14, hc19, hc26, hl34]; rfl) (List.Sublist.refl _) ?_)
          cases h
          refine ⟨?_, ?_⟩
          · simp (disch := omega) only [vmE, liE, eE, seval, deE, fxE, retOf, maskA, setVals, getVals, putA, stripAt, AVal.strip, stripL, rd, hc11, hc14, hc19, hc26, hl34]
          · rfl
  · refine awp_cond_t rfl (by simp only [liE, hc11]) ?_
    refine awp_seq_k ?_
    intro K35 hK35
    refine awp_region' [] ?_
    intro K36 hK36
    simp (disch := omega) only [vmE, liE, eE, seval, deE, fxE, retOf, maskA, setVals, getVals, putA, stripAt, AVal.strip, stripL, rd, hc11]
    refine hK36 _ _ (kPost_normal (hK35 _ _ ?_))
    refine awp_ret ?_
    refine bPost_ret (kPost_ret (hR _ _ _ (retPost_r (by simp (disch := omega) only [Try.results69, vmE, liE, eE, seval, deE, fxE, retOf, maskA, setVals, getVals, putA, stripAt, AVal.strip, stripL, rd, hc11]; rfl) (List.Sublist.refl _) ?_)))
    cases h
    refine ⟨?_, ?_⟩
    · simp (disch := omega) only [vmE, liE, eE, seval, deE, fxE, retOf, maskA, setVals, getVals, putA, stripAt, AVal.strip, stripL, rd, hc11]
    · rfl
theorem jrd_decoder_text_w {N : Nat} {a0 : JrdDecoder} {a1 : ApiValue} {r : (List UInt8) × JrdDecoder} (h : jrd_decoder_text N a0 a1 = some r) {n : Nat} {m : List (Nat × List AVal)} {i0 : Nat} (hi0 : mget m i0 = some [.int .i64 a0.e]) :
    ACall vE 28 [.ptr i0 0, .agg [.int .i64 a1.kind, .str a1.text, .slice 1 (List.map AVal.str a1.keys) false, .slice 4 (List.map encApiValue a1.items) false]] ⟨m, n⟩ fun r' st => r' = .str r.1 ∧ st.m = mset m i0 [.int .i64 r.2.e] := by
  rw [jrd_decoder_text] at h
  refine ACall.front hi0 ?_
  intro hin
  refine acall_k Try.func28 rfl ?_
  intro R hR
  refine AWp.congr (by simp only [Try.ntmps28, liE, seval]; rfl) ?_
  refine awp_seq_k ?_
  intro K1 hK1
  refine awp_region' [] ?_
  intro K2 hK2
  simp (disch := omega) only [vmE, liE, eE, seval, deE, fxE, retOf, maskA, setVals, getVals, putA, stripAt, AVal.strip, stripL, rd]
  refine hK2 _ _ (kPost_normal (hK1 _ _ ?_))
  refine awp_seq_k ?_
  intro K3 hK3
  refine awp_seq_k ?_
  intro K4 hK4
  refine awp_region' [] ?_
  intro K5 hK5
  simp (disch := omega) only [vmE, liE, eE, seval, deE, fxE, retOf, maskA, setVals, getVals, putA, stripAt, AVal.strip, stripL, rd]
  refine hK5 _ _ (kPost_normal (hK4 _ _ ?_))
  replace h := ite_some h
  rcases h with ⟨hc6, h⟩ | ⟨hc6, h⟩
  · refine awp_cond_t rfl hc6 ?_
    refine awp_seq_k ?_
    intro K7 hK7
    replace h := bind_some h
    rcases h with ⟨y9, hy10, h⟩
    refine awp_region' [] ?_
    intro K8 hK8
    simp (disch := omega) only [vmE, liE, eE, seval, deE, fxE, retOf, maskA, setVals, getVals, putA, stripAt, AVal.strip, stripL, rd, hc6]
    refine ACall.of (jrd_decoder_fail_w hy10 (i0 := i0) (by simp (disch := omega) only [vmE, liE, eE, seval, deE, fxE, retOf, maskA, setVals, getVals, putA, stripAt, AVal.strip, stripL, rd])) ?_ ?_
    · first | (simp (disch := omega) only [vmE, liE, eE, seval, deE, fxE, retOf, maskA, setVals, getVals, putA, stripAt, AVal.strip, stripL, rd, hc6]) | rfl
    rintro _ ⟨m12, n11⟩ hn11 ⟨rfl, hm⟩
    simp (disch := omega) only [vmE, liE, eE, seval] at hn11 hm
    replace hm := hm.symm
    subst hm
    simp (disch := omega) only [vmE, liE, eE, seval, deE, fxE, retOf, maskA, setVals, getVals, putA, stripAt, AVal.strip, stripL, rd, hc6]
    refine hK8 _ _ (kPost_normal (hK7 _ _ ?_))
    refine awp_seq_k ?_
    intro K13 hK13
    refine awp_region' [] ?_
    intro K14 hK14
    simp (disch := omega) only [vmE, liE, eE, seval, deE, fxE, retOf, maskA, setVals, getVals, putA, stripAt, AVal.strip, stripL, rd, hc6]
    refine hK14 _ _ (kPost_normal (hK13 _ _ ?_))
    refine awp_ret ?_
    refine kPost_ret (hR _ _ _ (retPost_r (by simp (disch := omega) only [Try.results28, vmE, liE, eE, seval, deE, fxE, retOf, maskA, setVals, getVals, putA, stripAt, AVal.strip, stripL, rd, hc6]; rfl) (.cons _ (List.Sublist.refl _)) ?_))
    cases h
    refine ⟨_, rfl, ?_, ?_⟩
    · simp (disch := omega) only [vmE, liE, eE, seval, deE, fxE, retOf, maskA, setVals, getVals, putA, stripAt, AVal.strip, stripL, rd, hc6]
    · simp (disch := omega) only [vmE, liE, eE, seval, deE, fxE, retOf, maskA, setVals, getVals, putA, stripAt, AVal.strip, stripL, rd, hc6]
  · refine awp_cond_f rfl hc6 ?_
    refine awp_skip ?_
    refine kPost_normal (hK3 _ _ ?_)
    refine awp_seq_k ?_
    intro K15 hK15
    refine awp_region' [] ?_
    intro K16 hK16
    simp (disch := omega) only [vmE, liE, eE, seval, deE, fxE, retOf, maskA, setVals, getVals, putA, stripAt, AVal.strip, stripL, rd, hc6]
    refine hK16 _ _ (kPost_normal (hK15 _ _ ?_))
    refine awp_ret ?_
    refine hR _ _ _ (retPost_r (by simp (disch := omega) only [Try.results28, vmE, liE, eE, seval, deE, fxE, retOf, maskA, setVals, getVals, putA, stripAt, AVal.strip, stripL, rd, hc6]; rfl) (.cons _ (List.Sublist.refl _)) ?_)
    cases h
    refine ⟨_, rfl, ?_, ?_⟩
    · simp (disch := omega) only [vmE, liE, eE, seval, deE, fxE, retOf, maskA, setVals, getVals, putA, stripAt, AVal.strip, stripL, rd, hc6]
    · simp (disch := omega) only [vmE, liE, eE, seval, deE, fxE, retOf, maskA, setVals, getVals, putA, stripAt, AVal.strip, stripL, rd, hc6]
theorem jrd_decoder_items_w {N : Nat} {a0 : JrdDecoder} {a1 : ApiValue} {a2 : (List UInt8)} {a3 : Int} {a4 : Int} {r : ApiValue × JrdDecoder} (h : jrd_decoder_items N a0 a1 a2 a3 a4 = some r) {n : Nat} {m : List (Nat × List AVal)} {i0 : Nat} (hi0 : mget m i0 = some [.int .i64 a0.e]) :
    ACall vE 27 [.ptr i0 0, .agg [.int .i64 a1.kind, .str a1.text, .slice 1 (List.map AVal.str a1.keys) false, .slice 4 (List.map encApiValue a1.items) false], .str a2, .int .i64 a3, .int .i64 a4] ⟨m, n⟩ fun r' st => r' = .agg [.int .i64 r.1.kind, .str r.1.text, .slice 1 (List.map AVal.str r.1.keys) false, .slice 4 (List.map encApiValue r.1.items) false] ∧ st.m = mset m i0 [.int .i64 r.2.e] := by
  rw [jrd_decoder_items] at h
  refine ACall.strip ?_
  refine ACall.front hi0 ?_
  intro hin
  refine acall_k Try.func27 rfl ?_
  intro R hR
  refine AWp.congr (by simp only [Try.ntmps27, liE, seval]; rfl) ?_
  refine awp_seq_k ?_
  intro K1 hK1
  refine awp_region' [] ?_
  intro K2 hK2
  simp (disch := omega) only [vmE, liE, eE, seval, deE, fxE, retOf, maskA, setVals, getVals, putA, stripAt, AVal.strip, stripL, rd]
  refine hK2 _ _ (kPost_normal (hK1 _ _ ?_))
  refine awp_seq_k ?_
  intro K3 hK3
  replace h := bind_some h
  rcases h with ⟨y5, hy6, h⟩
  refine awp_region' [] ?_
  intro K4 hK4
  simp (disch := omega) only [vmE, liE, eE, seval, deE, fxE, retOf, maskA, setVals, getVals, putA, stripAt, AVal.strip, stripL, rd]
  refine ACall.of (jsondoc_Get_w hy6) ?_ ?_
  · first | (simp (disch := omega) only [vmE, liE, eE, seval, deE, fxE, retOf, maskA, setVals, getVals, putA, stripAt, AVal.strip, stripL, rd]) | rfl
  rintro _ ⟨m8, n7⟩ hn7 ⟨rfl, hm⟩
  simp (disch := omega) only [vmE, liE, eE, seval] at hn7 hm
  replace hm := hm.symm
  subst hm
  simp (disch := omega) only [vmE, liE, eE, seval, deE, fxE, retOf, maskA, setVals, getVals, putA, stripAt, AVal.strip, stripL, rd]
  refine hK4 _ _ (kPost_normal (hK3 _ _ ?_))
  refine awp_seq_k ?_
  intro K9 hK9
  refine awp_block_k ?_
  intro K10 hK10
  refine awp_seq_k ?_
  intro K11 hK11
  replace h := joinK_some h
  rcases h with ⟨k13, hk13, h⟩
  refine awp_join [20, 21, 22, 23, 24, 25, 26, 27, 28] [19] (fun vs st' => ∃ j12 : Bool, vs = [.bool j12] ∧ st'.m = (n7, [.int .i64 y5.1.kind, .str y5.1.text, .slice 1 (List.map AVal.str y5.1.keys) false, .slice 4 (List.map encApiValue y5.1.items) false]) :: ((n + 1), [.int .i64 0, .str [], .slice 1 (List.map AVal.str []) true, .slice 4 (List.map encApiValue []) true]) :: (n, [.int .i64 a1.kind, .str a1.text, .slice 1 (List.map AVal.str a1.keys) false, .slice 4 (List.map encApiValue a1.items) false]) :: (i0, [.int .i64 a0.e]) :: mdel m i0 ∧ k13 j12 = some r) hK11 ?_ ?_
  · clear h
    rintro _ ⟨m14, n15⟩ ⟨j12, rfl, hm, h⟩
    simp only [] at hm
    replace hm := hm.symm
    subst hm
    replace h := hk13 _ _ h
    clear hk13 k13
    refine AWp.known fun _ hkl => ?_
    simp only [] at hkl
    obtain ⟨_, hkl⟩ := keysLt_cons hkl
    obtain ⟨_, hkl⟩ := keysLt_cons hkl
    obtain ⟨_, hkl⟩ := keysLt_cons hkl
    obtain ⟨_, hkl⟩ := keysLt_cons hkl
    clear hkl
    refine AWp.congr (by simp (disch := omega) only [vmE, liE, eE, seval, deE, fxE, retOf, maskA, setVals, getVals, putA, stripAt, AVal.strip, stripL, rd]; rfl) ?_
    replace h := ite_some h
    rcases h with ⟨hc18, h⟩ | ⟨hc18, h⟩
    · refine awp_cond_t rfl hc18 ?_
      refine awp_seq_k ?_
      intro K19 hK19
      refine awp_region' [] ?_
      intro K20 hK20
      simp (disch := omega) only [vmE, liE, eE, seval, deE, fxE, retOf, maskA, setVals, getVals, putA, stripAt, AVal.strip, stripL, rd, hc18]
      refine hK20 _ _ (kPost_normal (hK19 _ _ ?_))
      refine awp_ret ?_
      refine bPost_ret (kPost_ret (hR _ _ _ (retPost_r (by simp (disch := omega) only [Try.results27, vmE, liE, eE, seval, deE, fxE, retOf, maskA, setVals, getVals, putA, stripAt, AVal.strip, stripL, rd, hc18]; rfl) (.cons _ (.cons _ (.cons _ (List.Sublist.refl _)))) ?_)))
      cases h
      refine ⟨_, rfl, ?_, ?_⟩
      · simp (disch := omega) only [vmE, liE, eE, seval, deE, fxE, retOf, maskA, setVals, getVals, putA, stripAt, AVal.strip, stripL, rd, hc18]
      · simp (disch := omega) only [vmE, liE, eE, seval, deE, fxE, retOf, maskA, setVals, getVals, putA, stripAt, AVal.strip, stripL, rd, hc18]
    · refine awp_cond_f rfl hc18 ?_
      refine awp_seq_k ?_
      intro K21 hK21
      refine awp_region' [] ?_
      intro K22 hK22
      simp (disch := omega) only [vmE, liE, eE, seval, deE, fxE, retOf, maskA, setVals, getVals, putA, stripAt, AVal.strip, stripL, rd, hc18]
      refine hK22 _ _ (kPost_normal (hK21 _ _ ?_))
      replace h := ite_some h
      rcases h with ⟨hc23, h⟩ | ⟨hc23, h⟩
      · refine awp_cond_t rfl hc23 ?_
        refine awp_seq_k ?_
        intro K24 hK24
        replace h := bind_some h
        rcases h with ⟨y26, hy27, h⟩
        refine awp_region' [] ?_
        intro K25 hK25
        simp (disch := omega) only [vmE, liE, eE, seval, deE, fxE, retOf, maskA, setVals, getVals, putA, stripAt, AVal.strip, stripL, rd, hc18, hc23]
        refine ACall.of (jrd_decoder_fail_w hy27 (i0 := i0) (by simp (disch := omega) only [vmE, liE, eE, seval, deE, fxE, retOf, maskA, setVals, getVals, putA, stripAt, AVal.strip, stripL, rd])) ?_ ?_
        · first | (simp (disch := omega) only [vmE, liE, eE, seval, deE, fxE, retOf, maskA, setVals, getVals, putA, stripAt, AVal.strip, stripL, rd, hc18, hc23]) | rfl
        rintro _ ⟨m29, n28⟩ hn28 ⟨rfl, hm⟩
        simp (disch := omega) only [vmE, liE, eE, seval] at hn28 hm
        replace hm := hm.symm
        subst hm
        simp (disch := omega) only [vmE, liE, eE, seval, deE, fxE, retOf, maskA, setVals, getVals, putA, stripAt, AVal.strip, stripL, rd, hc18, hc23]
        refine hK25 _ _ (kPost_normal (hK24 _ _ ?_))
        refine awp_seq_k ?_
        intro K30 hK30
        refine awp_region' [] ?_
        intro K31 hK31
        simp (disch := omega) only [vmE, liE, eE, seval, deE, fxE, retOf, maskA, setVals, getVals, putA, stripAt, AVal.strip, stripL, rd, hc18, hc23]
        refine hK31 _ _ (kPost_normal (hK30 _ _ ?_))
        refine awp_ret ?_
        refine bPost_ret (kPost_ret (hR _ _ _ (retPost_r (by simp (disch := omega) only [Try.results27, vmE, liE, eE, seval, deE, fxE, retOf, maskA, setVals, getVals, putA, stripAt, AVal.strip, stripL, rd, hc18, hc23]; rfl) (.cons _ (.cons _ (.cons _ (List.Sublist.refl _)))) ?_)))
        cases h
        refine ⟨_, rfl, ?_, ?_⟩
        · simp (disch := omega) only [vmE, liE, eE, seval, deE, fxE, retOf, maskA, setVals, getVals, putA, stripAt, AVal.strip, stripL, rd, hc18, hc23]
        · simp (disch := omega) only [vmE, liE, eE, seval, deE, fxE, retOf, maskA, setVals, getVals, putA, stripAt, AVal.strip, stripL, rd, hc18, hc23]
      · refine awp_cond_f rfl hc23 ?_
        refine awp_seq_k ?_
        intro K32 hK32
        replace h := bind_some h
        rcases h with ⟨y34, hy35, h⟩
        refine awp_region' [] ?_
        intro K33 hK33
        simp (disch := omega) only [vmE, liE, eE, seval, deE, fxE, retOf, maskA, setVals, getVals, putA, stripAt, AVal.strip, stripL, rd, hc18, hc23]
        refine ACall.of (jrd_count_w hy35) ?_ ?_
        · first | (simp (disch := omega) only [vmE, liE, eE, seval, deE, fxE, retOf, maskA, setVals, getVals, putA, stripAt, AVal.strip, stripL, rd, hc18, hc23]) | rfl
        rintro _ ⟨m37, n36⟩ hn36 ⟨rfl, hm⟩
        simp (disch := omega) only [vmE, liE, eE, seval] at hn36 hm
        replace hm := hm.symm
        subst hm
        simp (disch := omega) only [vmE, liE, eE, seval, deE, fxE, retOf, maskA, setVals, getVals, putA, stripAt, AVal.strip, stripL, rd, hc18, hc23]
        refine hK33 _ _ (kPost_normal (hK32 _ _ ?_))
        replace h := ite_some h
        rcases h with ⟨hc38, h⟩ | ⟨hc38, h⟩
        · refine awp_cond_t rfl hc38 ?_
          refine awp_seq_k ?_
          intro K39 hK39
          replace h := bind_some h
          rcases h with ⟨y41, hy42, h⟩
          refine awp_region' [] ?_
          intro K40 hK40
          simp (disch := omega) only [vmE, liE, eE, seval, deE, fxE, retOf, maskA, setVals, getVals, putA, stripAt, AVal.strip, stripL, rd, hc18, hc23, hc38]
          refine ACall.of (jrd_decoder_fail_w hy42 (i0 := i0) (by simp (disch := omega) only [vmE, liE, eE, seval, deE, fxE, retOf, maskA, setVals, getVals, putA, stripAt, AVal.strip, stripL, rd])) ?_ ?_
          · first | (simp (disch := omega) only [vmE, liE, eE, seval, deE, fxE, retOf, maskA, setVals, getVals, putA, stripAt, AVal.strip, stripL, rd, hc18, hc23, hc38]) | rfl
          rintro _ ⟨m44, n43⟩ hn43 ⟨rfl, hm⟩
          simp (disch := omega) only [vmE, liE, eE, seval] at hn43 hm
          replace hm := hm.symm
          subst hm
          simp (disch := omega) only [vmE, liE, eE, seval, deE, fxE, retOf, maskA, setVals, getVals, putA, stripAt, AVal.strip, stripL, rd, hc18, hc23, hc38]
          refine hK40 _ _ (kPost_normal (hK39 _ _ ?_))
          refine awp_seq_k ?_
          intro K45 hK45
          refine awp_region' [] ?_
          intro K46 hK46
          simp (disch := omega) only [vmE, liE, eE, seval, deE, fxE, retOf, maskA, setVals, getVals, putA, stripAt, AVal.strip, stripL, rd, hc18, hc23, hc38]
          refine hK46 _ _ (kPost_normal (hK45 _ _ ?_))
          refine awp_ret ?_
          refine bPost_ret (kPost_ret (hR _ _ _ (retPost_r (by simp (disch := omega) only [Try.results27, vmE, liE, eE, seval, deE, fxE, retOf, maskA, setVals, getVals, putA, stripAt, AVal.strip, stripL, rd, hc18, hc23, hc38]; rfl) (.cons _ (.cons _ (.cons _ (List.Sublist.refl _)))) ?_)))
          cases h
          refine ⟨_, rfl, ?_, ?_⟩
          · simp (disch := omega) only [vmE, liE, eE, seval, deE, fxE, retOf, maskA, setVals, getVals, putA, stripAt, AVal.strip, stripL, rd, hc18, hc23, hc38]
          · simp (disch := omega) only [vmE, liE, eE, seval, deE, fxE, retOf, maskA, setVals, getVals, putA, stripAt, AVal.strip, stripL, rd, hc18, hc23, hc38]
        · refine awp_cond_f rfl hc38 ?_
          refine awp_skip ?_
          refine bPost_normal (hK10 _ _ (kPost_normal (hK9 _ _ ?_)))
          refine awp_seq_k ?_
          intro K47 hK47
          refine awp_region' [] ?_
          intro K48 hK48
          simp (disch := omega) only [vmE, liE, eE, seval, deE, fxE, retOf, maskA, setVals, getVals, putA, stripAt, AVal.strip, stripL, rd, hc18, hc23, hc38]
          refine hK48 _ _ (kPost_normal (hK47 _ _ ?_))
          refine awp_ret ?_
          refine hR _ _ _ (retPost_r (by simp (disch := omega) only [Try.results27, vmE, liE, eE, seval, deE, fxE, retOf, maskA, setVals, getVals, putA, stripAt, AVal.strip, stripL, rd, hc18, hc23, hc38]; rfl) (.cons _ (.cons _ (.cons _ (List.Sublist.refl _)))) ?_)
          cases h
          refine ⟨_, rfl, ?_, ?_⟩
          · simp (disch := omega) only [vmE, liE, eE, seval, deE, fxE, retOf, maskA, setVals, getVals, putA, stripAt, AVal.strip, stripL, rd, hc18, hc23, hc38]
          · simp (disch := omega) only [vmE, liE, eE, seval, deE, fxE, retOf, maskA, setVals, getVals, putA, stripAt, AVal.strip, stripL, rd, hc18, hc23, hc38]
  · intro J49 hJ49
    replace h := ite_some h
    rcases h with ⟨hc17, h⟩ | ⟨hc17, h⟩
    · refine awp_region' [] ?_
      intro K16 hK16
      simp (disch := omega) only [vmE, liE, eE, seval, deE, fxE, retOf, maskA, setVals, getVals, putA, stripAt, AVal.strip, stripL, rd, hc17]
      refine hK16 _ _ (kPost_normal (hJ49 _ _ _ (List.Sublist.refl _) ?_ ⟨(a0.e != 0), ?_, ?_, h⟩)) <;> simp (disch := omega) only [vmE, liE, eE, seval, deE, fxE, retOf, maskA, setVals, getVals, putA, stripAt, AVal.strip, stripL, rd, hc17]
    · refine awp_region' [] ?_
      intro K16 hK16
      simp (disch := omega) only [vmE, liE, eE, seval, deE, fxE, retOf, maskA, setVals, getVals, putA, stripAt, AVal.strip, stripL, rd, hc17]
      refine hK16 _ _ (kPost_normal (hJ49 _ _ _ (List.Sublist.refl _) ?_ ⟨true, ?_, ?_, h⟩)) <;> simp (disch := omega) only [vmE, liE, eE, seval, deE, fxE, retOf, maskA, setVals, getVals, putA, stripAt, AVal.strip, stripL, rd, hc17]
theorem ref16_some_w {N : Nat} {a0 : ApiValue} {a1 : (List UInt8)} {a2 : (List UInt8)} {r : ApiValue} (h : ref16_some N a0 a1 a2 = some r) {n : Nat} {m : List (Nat × List AVal)} :
    ACall vE 37 [.agg [.int .i64 a0.kind, .str a0.text, .slice 1 (List.map AVal.str a0.keys) false, .slice 4 (List.map encApiValue a0.items) false], .str a1, .str a2] ⟨m, n⟩ fun r' st => r' = .agg [.int .i64 r.kind, .str r.text, .slice 1 (List.map AVal.str r.keys) false, .slice 4 (List.map encApiValue r.items) false] ∧ st.m = m := by
  rw [ref16_some] at h
  refine acall_k Try.func37 rfl ?_
  intro R hR
  refine AWp.congr (by simp only [Try.ntmps37, liE, seval]; rfl) ?_
  refine awp_seq_k ?_
  intro K1 hK1
  refine awp_region' [] ?_
  intro K2 hK2
  simp (disch := omega) only [vmE, liE, eE, seval, deE, fxE, retOf, maskA, setVals, getVals, putA, stripAt, AVal.strip, stripL, rd]
  refine hK2 _ _ (kPost_normal (hK1 _ _ ?_))
  refine awp_seq_k ?_
  intro K3 hK3
  refine awp_seq_k ?_
  intro K4 hK4
  refine awp_region' [] ?_
  intro K5 hK5
  simp (disch := omega) only [vmE, liE, eE, seval, deE, fxE, retOf, maskA, setVals, getVals, putA, stripAt, AVal.strip, stripL, rd]
  refine hK5 _ _ (kPost_normal (hK4 _ _ ?_))
  replace h := ite_some h
  rcases h with ⟨hc6, h⟩ | ⟨hc6, h⟩
  · refine awp_cond_t rfl hc6 ?_
    refine awp_seq_k ?_
    intro K7 hK7
    refine awp_region' [] ?_
    intro K8 hK8
    simp (disch := omega) only [vmE, liE, eE, seval, deE, fxE, retOf, maskA, setVals, getVals, putA, stripAt, AVal.strip, stripL, rd, hc6]
    refine hK8 _ _ (kPost_normal (hK7 _ _ ?_))
    refine awp_ret ?_
    refine kPost_ret (hR _ _ _ (retPost_r (by simp (disch := omega) only [Try.results37, vmE, liE, eE, seval, deE, fxE, retOf, maskA, setVals, getVals, putA, stripAt, AVal.strip, stripL, rd, hc6]; rfl) (.cons _ (.cons _ (List.Sublist.refl _))) ?_))
    cases h
    refine ⟨?_, ?_⟩
    · simp (disch := omega) only [vmE, liE, eE, seval, deE, fxE, retOf, maskA, setVals, getVals, putA, stripAt, AVal.strip, stripL, rd, hc6]
    · rfl
  · refine awp_cond_f rfl hc6 ?_
    refine awp_skip ?_
    refine kPost_normal (hK3 _ _ ?_)
    refine awp_seq_k ?_
    intro K9 hK9
    replace h := bind_some h
    rcases h with ⟨y11, hy12, h⟩
    replace h := bind_some h
    rcases h with ⟨y15, hy16, h⟩
    refine awp_draw' [] (.take 0 (.take 1 (.take 2 (.alt 3 [1, 0] (.alt 4 [2] (.alt 5 [] (.done) (.stop)) (.stop)) (.stop))))) vE_mixed (by kernel_rfl) ?_
    intro K10 hK10
    simp (disch := omega) only [vmE, liE, eE, seval, deE, fxE, retOf, maskA, setVals, getVals, putA, stripAt, AVal.strip, stripL, rd, hc6]
    refine ACall.of (ref16_Text_w hy12) ?_ ?_
    · first | (simp (disch := omega) only [vmE, liE, eE, seval, deE, fxE, retOf, maskA, setVals, getVals, putA, stripAt, AVal.strip, stripL, rd, hc6]) | rfl
    rintro _ ⟨m14, n13⟩ hn13 ⟨rfl, hm⟩
    simp (disch := omega) only [vmE, liE, eE, seval] at hn13 hm
    replace hm := hm.symm
    subst hm
    simp (disch := omega) only [vmE, liE, eE, seval, deE, fxE, retOf, maskA, setVals, getVals, putA, stripAt, AVal.strip, stripL, rd, hc6]
    refine ACall.of (ref16_with_w hy16) ?_ ?_
    · first | (simp (disch := omega) only [vmE, liE, eE, seval, deE, fxE, retOf, maskA, setVals, getVals, putA, stripAt, AVal.strip, stripL, rd, hc6]) | rfl
    rintro _ ⟨m18, n17⟩ hn17 ⟨rfl, hm⟩
    simp (disch := omega) only [vmE, liE, eE, seval] at hn17 hm
    replace hm := hm.symm
    subst hm
    simp (disch := omega) only [vmE, liE, eE, seval, deE, fxE, retOf, maskA, setVals, getVals, putA, stripAt, AVal.strip, stripL, rd, hc6]
    refine hK10 _ _ (kPost_normal (hK9 _ _ ?_))
    refine awp_ret ?_
    refine hR _ _ _ (retPost_r (by simp (disch := omega) only [Try.results37, vmE, liE, eE, seval, deE, fxE, retOf, maskA, setVals, getVals, putA, stripAt, AVal.strip, stripL, rd, hc6]; rfl) (.cons _ (.cons _ (List.Sublist.refl _))) ?_)
    cases h
    refine ⟨?_, ?_⟩
    · simp (disch := omega) only [vmE, liE, eE, seval, deE, fxE, retOf, maskA, setVals, getVals, putA, stripAt, AVal.strip, stripL, rd, hc6]
    · rfl
theorem ref16_Array_w {N : Nat} {a0 : (List (List UInt8))} {r : ApiValue} (h : ref16_Array N a0 = some r) {n : Nat} {m : List (Nat × List AVal)} :
    ACall vE 39 [.slice 1 (List.map AVal.str a0) false] ⟨m, n⟩ fun r' st => r' = .agg [.int .i64 r.kind, .str r.text, .slice 1 (List.map AVal.str r.keys) false, .slice 4 (List.map encApiValue r.items) false] ∧ st.m = m := by
  rw [ref16_Array] at h
  refine acall_k Try.func39 rfl ?_
  intro R hR
  refine AWp.congr (by simp only [Try.ntmps39, liE, seval]; rfl) ?_
  refine awp_seq_k ?_
  intro K1 hK1
  refine awp_region' [] ?_
  intro K2 hK2
  simp (disch := omega) only [vmE, liE, eE, seval, deE, fxE, retOf, maskA, setVals, getVals, putA, stripAt, AVal.strip, stripL, rd]
  refine hK2 _ _ (kPost_normal (hK1 _ _ ?_))
  refine awp_seq_k ?_
  intro K3 hK3
  refine awp_region' [] ?_
  intro K4 hK4
  simp (disch := omega) only [vmE, liE, eE, seval, deE, fxE, retOf, maskA, setVals, getVals, putA, stripAt, AVal.strip, stripL, rd]
  refine hK4 _ _ (kPost_normal (hK3 _ _ ?_))
  refine awp_seq_k ?_
  intro K5 hK5
  replace h := joinK_some h
  rcases h with ⟨k7, hk7, h⟩
  refine awp_join [5, 7, 8, 9, 10, 11, 12, 13, 14, 15, 16, 17, 18, 19, 20] [] (fun vs st' => ∃ j6 : (List ApiValue), vs = [] ∧ st'.m = ((n + 1), [.int .i64 6, .str [], .slice 1 (List.map AVal.str []) true, .slice 4 (List.map encApiValue j6) true]) :: (n, [.int .i64 0, .str [], .slice 1 (List.map AVal.str []) true, .slice 4 (List.map encApiValue []) true]) :: m ∧ k7 j6 = some r) hK5 ?_ ?_
  · clear h
    rintro _ ⟨m8, n9⟩ ⟨j6, rfl, hm, h⟩
    simp only [] at hm
    replace hm := hm.symm
    subst hm
    replace h := hk7 _ _ h
    clear hk7 k7
    refine AWp.known fun _ hkl => ?_
    simp only [] at hkl
    obtain ⟨_, hkl⟩ := keysLt_cons hkl
    obtain ⟨_, hkl⟩ := keysLt_cons hkl
    clear hkl
    refine AWp.congr (by simp (disch := omega) only [vmE, liE, eE, seval, deE, fxE, retOf, maskA, setVals, getVals, putA, stripAt, AVal.strip, stripL, rd]; rfl) ?_
    refine awp_seq_k ?_
    intro K38 hK38
    refine awp_region' [] ?_
    intro K39 hK39
    simp (disch := omega) only [vmE, liE, eE, seval, deE, fxE, retOf, maskA, setVals, getVals, putA, stripAt, AVal.strip, stripL, rd]
    refine hK39 _ _ (kPost_normal (hK38 _ _ ?_))
    refine awp_ret ?_
    refine hR _ _ _ (retPost_r (by simp (disch := omega) only [Try.results39, vmE, liE, eE, seval, deE, fxE, retOf, maskA, setVals, getVals, putA, stripAt, AVal.strip, stripL, rd]; rfl) (.cons _ (.cons _ (List.Sublist.refl _))) ?_)
    cases h
    refine ⟨?_, ?_⟩
    · simp (disch := omega) only [vmE, liE, eE, seval, deE, fxE, retOf, maskA, setVals, getVals, putA, stripAt, AVal.strip, stripL, rd]
    · rfl
  · intro J40 hJ40
    refine awp_seq_k ?_
    intro K10 hK10
    refine awp_region' [] ?_
    intro K11 hK11
    simp (disch := omega) only [vmE, liE, eE, seval, deE, fxE, retOf, maskA, setVals, getVals, putA, stripAt, AVal.strip, stripL, rd]
    refine hK11 _ _ (kPost_normal (hK10 _ _ ?_))
    refine awp_block_k ?_
    intro K12 hK12
    refine awp_loop_v [5, 10, 11, 12, 13, 14, 15, 16, 17, 18, 19, 20] [9] (fun k vs st' => ∃ (s9 : Int) (bn1_items : (List ApiValue)), vs = [.int .i64 s9] ∧ st'.m = ((n + 1), [.int .i64 6, .str [], .slice 1 (List.map AVal.str []) true, .slice 4 (List.map encApiValue bn1_items) true]) :: (n, [.int .i64 0, .str [], .slice 1 (List.map AVal.str []) true, .slice 4 (List.map encApiValue []) true]) :: m ∧ ref16_Array_L1 N a0 k7 k s9 bn1_items = some r) N ⟨0, [], ?_, ?_, h⟩ ?_
    · simp (disch := omega) only [vmE, liE, eE, seval, deE, fxE, retOf, maskA, setVals, getVals, putA, stripAt, AVal.strip, stripL, rd]
    · simp (disch := omega) only [vmE, liE, eE, seval, deE, fxE, retOf, maskA, setVals, getVals, putA, stripAt, AVal.strip, stripL, rd]
    · clear h
      rintro k13 _ ⟨m37, nL0_1⟩ ⟨s9, bn1_items, rfl, hm, h⟩ J36 hJ36
      simp only [] at hm
      replace hm := hm.symm
      subst hm
      rcases k13 with _ | k13
      · simp only [ref16_Array_L1, reduceCtorEq] at h
      rw [ref16_Array_L1] at h
      refine AWp.known fun _ hkl => ?_
      simp only [] at hkl
      obtain ⟨_, hkl⟩ := keysLt_cons hkl
      obtain ⟨_, hkl⟩ := keysLt_cons hkl
      clear hkl
      refine AWp.congr (by simp (disch := omega) only [vmE, liE, eE, seval, deE, fxE, retOf, maskA, setVals, getVals, putA, stripAt, AVal.strip, stripL, rd]; rfl) ?_
      refine awp_seq_k ?_
      intro K14 hK14
      refine awp_region' [] ?_
      intro K15 hK15
      simp (disch := omega) only [vmE, liE, eE, seval, deE, fxE, retOf, maskA, setVals, getVals, putA, stripAt, AVal.strip, stripL, rd]
      refine hK15 _ _ (kPost_normal (hK14 _ _ ?_))
      refine awp_seq_k ?_
      intro K16 hK16
      replace h := ite_some h
      rcases h with ⟨hc17, h⟩ | ⟨hc17, h⟩
      · refine awp_cond_t rfl hc17 ?_
        refine awp_skip ?_
        refine kPost_normal (hK16 _ _ ?_)
        refine awp_seq_k ?_
        intro K18 hK18
        replace h := joinK_some h
        rcases h with ⟨k20, hk20, h⟩
        refine awp_join [5, 11, 12, 13, 14, 15, 16, 17, 18, 19] [] (fun vs st' => ∃ j19 : (List ApiValue), vs = [] ∧ st'.m = ((n + 1), [.int .i64 6, .str [], .slice 1 (List.map AVal.str []) true, .slice 4 (List.map encApiValue j19) true]) :: (n, [.int .i64 0, .str [], .slice 1 (List.map AVal.str []) true, .slice 4 (List.map encApiValue []) true]) :: m ∧ k20 j19 = some r) hK18 ?_ ?_
        · clear h
          rintro _ ⟨m21, n22⟩ ⟨j19, rfl, hm, h⟩
          simp only [] at hm
          replace hm := hm.symm
          subst hm
          replace h := hk20 _ _ h
          clear hk20 k20
          refine AWp.known fun _ hkl => ?_
          simp only [] at hkl
          obtain ⟨_, hkl⟩ := keysLt_cons hkl
          obtain ⟨_, hkl⟩ := keysLt_cons hkl
          clear hkl
          refine AWp.congr (by simp (disch := omega) only [vmE, liE, eE, seval, deE, fxE, retOf, maskA, setVals, getVals, putA, stripAt, AVal.strip, stripL, rd]; rfl) ?_
          refine awp_region' [] ?_
          intro K34 hK34
          simp (disch := omega) only [vmE, liE, eE, seval, deE, fxE, retOf, maskA, setVals, getVals, putA, stripAt, AVal.strip, stripL, rd, hc17]
          refine hK34 _ _ (kPost_normal (hJ36 k13 _ _ _ (Nat.lt_succ_self _) (List.Sublist.refl _) ?_ ⟨(wr .i64 (s9 + 1)), j19, ?_, ?_, h⟩)) <;> simp (disch := omega) only [vmE, liE, eE, seval, deE, fxE, retOf, maskA, setVals, getVals, putA, stripAt, AVal.strip, stripL, rd, hc17]
        · intro J35 hJ35
          refine awp_block_k ?_
          intro K23 hK23
          refine awp_seq_k ?_
          intro K24 hK24
          replace h := bind_some h
          rcases h with ⟨x26, hx27, h⟩
          refine awp_region' [] ?_
          intro K25 hK25
          simp (disch := omega) only [vmE, liE, eE, seval, deE, fxE, retOf, maskA, setVals, getVals, putA, stripAt, AVal.strip, stripL, rd, hc17, hx27]
          refine hK25 _ _ (kPost_normal (hK24 _ _ ?_))
          replace h := bind_some h
          rcases h with ⟨y29, hy30, h⟩
          replace h := grd_some h
          rcases h with ⟨hg33, h⟩
          try simp only [liE, seval] at hg33
          refine awp_draw' [14] (.take 0 (.take 2 (.alt 1 [2] (.alt 3 [0] (.take 4 (.alt 5 [2, 0] (.take 6 (.alt 7 [] (.done) (.stop))) (.stop))) (.stop)) (.alt 3 [0] (.take 4 (.alt 1 [4, 2] (.alt 5 [2, 0] (.take 6 (.alt 7 [] (.done) (.stop))) (.stop)) (.stop))) (.stop))))) vE_mixed (by kernel_rfl) ?_
          intro K28 hK28
          all_goals
           simp (disch := omega) only [vmE, liE, eE, seval, deE, fxE, retOf, maskA, setVals, getVals, putA, stripAt, AVal.strip, stripL, rd, hc17, hx27, hg33]
           repeat' apply And.intro
           all_goals
            refine ACall.of (ref16_Text_w hy30) ?_ ?_
            · first | (simp (disch := omega) only [vmE, liE, eE, seval, deE, fxE, retOf, maskA, setVals, getVals, putA, stripAt, AVal.strip, stripL, rd, hc17, hx27, hg33]) | rfl
            rintro _ ⟨m32, n31⟩ hn31 ⟨rfl, hm⟩
            simp (disch := omega) only [vmE, liE, eE, seval] at hn31 hm
            replace hm := hm.symm
            subst hm
            simp (disch := omega) only [vmE, liE, eE, seval, deE, fxE, retOf, maskA, setVals, getVals, putA, stripAt, AVal.strip, stripL, rd, hc17, hx27, hg33]
            refine hK28 _ _ (bPost_normal (hK23 _ _ (kPost_normal (hJ35 _ _ _ (List.Sublist.refl _) ?_ ⟨(bn1_items ++ [y29]), ?_, ?_, h⟩)))) <;> simp (disch := omega) only [vmE, liE, eE, seval, deE, fxE, retOf, maskA, setVals, getVals, putA, stripAt, AVal.strip, stripL, rd, hc17, hx27, hg33]
      · refine awp_cond_f rfl hc17 ?_
        refine awp_exit ?_
        refine kPost_exit (kPost_exit (bPost_here (hK12 _ _ (kPost_normal (hJ40 _ _ _ (List.Sublist.refl _) ?_ ⟨bn1_items, ?_, ?_, h⟩))))) <;> simp (disch := omega) only [vmE, liE, eE, seval, deE, fxE, retOf, maskA, setVals, getVals, putA, stripAt, AVal.strip, stripL, rd, hc17]
end Go.Proofs.Ytdbeiialamganaa
