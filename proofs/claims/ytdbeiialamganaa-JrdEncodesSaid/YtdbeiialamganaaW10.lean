/- That the code computes these functions; written by decomp.py. -/
import Derived.Test.YtdbeiialamganaaVmFacts
import Derived.Test.YtdbeiialamganaaDefs
import Derived.Test.YtdbeiialamganaaVMSets
import Derived.Test.YtdbeiialamganaaW0
import Derived.Test.YtdbeiialamganaaW1
import Derived.Test.YtdbeiialamganaaW5
set_option linter.unusedVariables false
set_option linter.unusedSimpArgs false
set_option maxHeartbeats 4000000
set_option maxRecDepth 100000
set_option linter.defProp false
namespace Go.Proofs.Ytdbeiialamganaa
open Go.VM
theorem ref02_Decode_w {N : Nat} {a0 : (List UInt8)} {a1 : Int} {r : Int × Int × Int} (h : ref02_Decode N a0 a1 = some r) {n : Nat} {m : List (Nat × List AVal)} :
    ACall vE 67 [.str a0, .int .i64 a1] ⟨m, n⟩ fun r' st => r' = .tuple [.int .i64 r.1, .int .i64 r.2.1, .int .i64 r.2.2] ∧ st.m = m := by
  rw [ref02_Decode] at h
  refine acall_k Try.func67 rfl ?_
  intro R hR
  refine AWp.congr (by simp only [Try.ntmps67, liE, seval]; rfl) ?_
  refine awp_seq_k ?_
  intro K1 hK1
  refine awp_region' [] ?_
  intro K2 hK2
  simp (disch := omega) only [vmE, liE, eE, seval, deE, fxE, retOf, maskA, setVals, getVals, putA, stripAt, AVal.strip, stripL, rd]
  refine hK2 _ _ (kPost_normal (hK1 _ _ ?_))
  refine awp_seq_k ?_
  intro K3 hK3
  refine awp_seq_k ?_
  intro K4 hK4
  replace h := joinK_some h
  rcases h with ⟨k6, hk6, h⟩
  refine awp_join [11, 12, 13, 14, 15, 16, 17] [18] (fun vs st' => ∃ j5 : Bool, vs = [.bool j5] ∧ st'.m = m ∧ k6 j5 = some r) hK4 ?_ ?_
  · clear h
    rintro _ ⟨m7, n8⟩ ⟨j5, rfl, hm, h⟩
    simp only [] at hm
    replace hm := hm.symm
    subst hm
    replace h := hk6 _ _ h
    clear hk6 k6
    refine AWp.congr (by simp (disch := omega) only [vmE, liE, eE, seval, deE, fxE, retOf, maskA, setVals, getVals, putA, stripAt, AVal.strip, stripL, rd]; rfl) ?_
    replace h := ite_some h
    rcases h with ⟨hc11, h⟩ | ⟨hc11, h⟩
    · refine awp_cond_t rfl hc11 ?_
      refine awp_seq_k ?_
      intro K12 hK12
      refine awp_region' [] ?_
      intro K13 hK13
      simp (disch := omega) only [vmE, liE, eE, seval, deE, fxE, retOf, maskA, setVals, getVals, putA, stripAt, AVal.strip, stripL, rd, hc11]
      refine hK13 _ _ (kPost_normal (hK12 _ _ ?_))
      refine awp_ret ?_
      refine kPost_ret (hR _ _ _ (retPost_r (by simp (disch := omega) only [Try.results67, vmE, liE, eE, seval, deE, fxE, retOf, maskA, setVals, getVals, putA, stripAt, AVal.strip, stripL, rd, hc11]; rfl) (List.Sublist.refl _) ?_))
      cases h
      refine ⟨?_, ?_⟩
      · simp (disch := omega) only [vmE, liE, eE, seval, deE, fxE, retOf, maskA, setVals, getVals, putA, stripAt, AVal.strip, stripL, rd, hc11]
      · rfl
    · refine awp_cond_f rfl hc11 ?_
      refine awp_skip ?_
      refine kPost_normal (hK3 _ _ ?_)
      refine awp_seq_k ?_
      intro K14 hK14
      replace h := joinK_some h
      rcases h with ⟨k16, hk16, h⟩
      refine awp_join [4, 5, 6, 7, 8, 9, 10, 19, 20, 21, 22, 23, 24, 25, 26, 27, 28, 29, 30, 31, 32, 33, 34, 35, 36, 37, 38, 39, 40, 41, 42, 43, 44, 45, 46, 47, 48, 49, 50, 51, 52, 53, 54, 55, 56, 57, 58] [] (fun vs st' => ∃ j15 : Unit, vs = [] ∧ st'.m = m ∧ k16 j15 = some r) hK14 ?_ ?_
      · clear h
        rintro _ ⟨m17, n18⟩ ⟨j15, rfl, hm, h⟩
        simp only [] at hm
        replace hm := hm.symm
        subst hm
        replace h := hk16 _ _ h
        clear hk16 k16
        refine AWp.congr (by simp (disch := omega) only [vmE, liE, eE, seval, deE, fxE, retOf, maskA, setVals, getVals, putA, stripAt, AVal.strip, stripL, rd]; rfl) ?_
        refine awp_seq_k ?_
        intro K63 hK63
        refine awp_region' [] ?_
        intro K64 hK64
        simp (disch := omega) only [vmE, liE, eE, seval, deE, fxE, retOf, maskA, setVals, getVals, putA, stripAt, AVal.strip, stripL, rd, hc11]
        refine hK64 _ _ (kPost_normal (hK63 _ _ ?_))
        refine awp_ret ?_
        refine hR _ _ _ (retPost_r (by simp (disch := omega) only [Try.results67, vmE, liE, eE, seval, deE, fxE, retOf, maskA, setVals, getVals, putA, stripAt, AVal.strip, stripL, rd, hc11]; rfl) (List.Sublist.refl _) ?_)
        cases h
        refine ⟨?_, ?_⟩
        · simp (disch := omega) only [vmE, liE, eE, seval, deE, fxE, retOf, maskA, setVals, getVals, putA, stripAt, AVal.strip, stripL, rd, hc11]
        · rfl
      · intro J65 hJ65
        refine awp_seq_k ?_
        intro K19 hK19
        refine awp_region' [] ?_
        intro K20 hK20
        simp (disch := omega) only [vmE, liE, eE, seval, deE, fxE, retOf, maskA, setVals, getVals, putA, stripAt, AVal.strip, stripL, rd, hc11]
        refine hK20 _ _ (kPost_normal (hK19 _ _ ?_))
        refine awp_block_k ?_
        intro K21 hK21
        refine awp_loop_v [4, 5, 6, 8, 9, 10, 19, 20, 21, 22, 23, 24, 25, 26, 27, 28, 29, 30, 31, 32, 33, 34, 35, 36, 37, 38, 39, 40, 41, 42, 43, 44, 45, 46, 47, 48, 49, 50, 51, 52, 53, 54, 55, 56, 57, 58] [7] (fun k vs st' => ∃ (s7 : Int), vs = [.int .i64 s7] ∧ st'.m = m ∧ ref02_Decode_L1 N a0 a1 k16 k s7 = some r) N ⟨1, ?_, ?_, h⟩ ?_
        · simp (disch := omega) only [vmE, liE, eE, seval, deE, fxE, retOf, maskA, setVals, getVals, putA, stripAt, AVal.strip, stripL, rd, hc11]
        · simp (disch := omega) only [vmE, liE, eE, seval, deE, fxE, retOf, maskA, setVals, getVals, putA, stripAt, AVal.strip, stripL, rd, hc11]
        · clear h
          rintro k22 _ ⟨m62, nL0_1⟩ ⟨s7, rfl, hm, h⟩ J61 hJ61
          simp only [] at hm
          replace hm := hm.symm
          subst hm
          rcases k22 with _ | k22
          · simp only [ref02_Decode_L1, reduceCtorEq] at h
          rw [ref02_Decode_L1] at h
          refine AWp.congr (by simp (disch := omega) only [vmE, liE, eE, seval, deE, fxE, retOf, maskA, setVals, getVals, putA, stripAt, AVal.strip, stripL, rd]; rfl) ?_
          refine awp_seq_k ?_
          intro K23 hK23
          refine awp_seq_k ?_
          intro K24 hK24
          replace h := joinK_some h
          rcases h with ⟨k26, hk26, h⟩
          refine awp_join [19, 20, 21, 22, 23, 24, 25, 26, 27] [28] (fun vs st' => ∃ j25 : Bool, vs = [.bool j25] ∧ st'.m = m ∧ k26 j25 = some r) hK24 ?_ ?_
          · clear h
            rintro _ ⟨m27, n28⟩ ⟨j25, rfl, hm, h⟩
            simp only [] at hm
            replace hm := hm.symm
            subst hm
            replace h := hk26 _ _ h
            clear hk26 k26
            refine AWp.congr (by simp (disch := omega) only [vmE, liE, eE, seval, deE, fxE, retOf, maskA, setVals, getVals, putA, stripAt, AVal.strip, stripL, rd]; rfl) ?_
            replace h := ite_some h
            rcases h with ⟨hc31, h⟩ | ⟨hc31, h⟩
            · refine awp_cond_t rfl hc31 ?_
              refine awp_skip ?_
              refine kPost_normal (hK23 _ _ ?_)
              refine awp_seq_k ?_
              intro K32 hK32
              refine awp_block_k ?_
              intro K33 hK33
              refine awp_seq_k ?_
              intro K34 hK34
              replace h := bind_some h
              rcases h with ⟨x36, hx37, h⟩
              replace h := bind_some h
              rcases h with ⟨y38, hy39, h⟩
              refine awp_region' [] ?_
              intro K35 hK35
              simp (disch := omega) only [vmE, liE, eE, seval, deE, fxE, retOf, maskA, setVals, getVals, putA, stripAt, AVal.strip, stripL, rd, hc11, hc31, hx37, hx37]
              refine ACall.of (ref02_value_w hy39) ?_ ?_
              · first | (simp (disch := omega) only [vmE, liE, eE, seval, deE, fxE, retOf, maskA, setVals, getVals, putA, stripAt, AVal.strip, stripL, rd, hc11, hc31, hx37, hx37]) | rfl
              rintro _ ⟨m41, n40⟩ hn40 ⟨rfl, hm⟩
              simp (disch := omega) only [vmE, liE, eE, seval] at hn40 hm
              replace hm := hm.symm
              subst hm
              simp (disch := omega) only [vmE, liE, eE, seval, deE, fxE, retOf, maskA, setVals, getVals, putA, stripAt, AVal.strip, stripL, rd, hc11, hc31, hx37]
              refine hK35 _ _ (kPost_normal (hK34 _ _ ?_))
              refine awp_seq_k ?_
              intro K42 hK42
              replace h := bind_some h
              rcases h with ⟨y44, hy45, h⟩
              refine awp_region' [] ?_
              intro K43 hK43
              simp (disch := omega) only [vmE, liE, eE, seval, deE, fxE, retOf, maskA, setVals, getVals, putA, stripAt, AVal.strip, stripL, rd, hc11, hc31, hx37]
              refine ACall.of (ref02_Encode_w hy45) ?_ ?_
              · first | (simp (disch := omega) only [vmE, liE, eE, seval, deE, fxE, retOf, maskA, setVals, getVals, putA, stripAt, AVal.strip, stripL, rd, hc11, hc31, hx37]) | rfl
              rintro _ ⟨m47, n46⟩ hn46 ⟨rfl, hm⟩
              simp (disch := omega) only [vmE, liE, eE, seval] at hn46 hm
              replace hm := hm.symm
              subst hm
              simp (disch := omega) only [vmE, liE, eE, seval, deE, fxE, retOf, maskA, setVals, getVals, putA, stripAt, AVal.strip, stripL, rd, hc11, hc31, hx37]
              refine hK43 _ _ (kPost_normal (hK42 _ _ ?_))
              refine awp_seq_k ?_
              intro K48 hK48
              replace h := joinK_some h
              rcases h with ⟨k50, hk50, h⟩
              refine awp_join [43, 44, 45, 46, 47, 48, 49, 50, 51, 52, 53] [54] (fun vs st' => ∃ j49 : Bool, vs = [.bool j49] ∧ st'.m = m ∧ k50 j49 = some r) hK48 ?_ ?_
              · clear h
                rintro _ ⟨m51, n52⟩ ⟨j49, rfl, hm, h⟩
                simp only [] at hm
                replace hm := hm.symm
                subst hm
                replace h := hk50 _ _ h
                clear hk50 k50
                refine AWp.congr (by simp (disch := omega) only [vmE, liE, eE, seval, deE, fxE, retOf, maskA, setVals, getVals, putA, stripAt, AVal.strip, stripL, rd]; rfl) ?_
                replace h := ite_some h
                rcases h with ⟨hc55, h⟩ | ⟨hc55, h⟩
                · refine awp_cond_t rfl hc55 ?_
                  refine awp_seq_k ?_
                  intro K56 hK56
                  refine awp_region' [] ?_
                  intro K57 hK57
                  simp (disch := omega) only [vmE, liE, eE, seval, deE, fxE, retOf, maskA, setVals, getVals, putA, stripAt, AVal.strip, stripL, rd, hc11, hc31, hx37, hc55]
                  refine hK57 _ _ (kPost_normal (hK56 _ _ ?_))
                  refine awp_ret ?_
                  refine bPost_ret (kPost_ret (kPost_ret (bPost_ret (kPost_ret (hR _ _ _ (retPost_r (by simp (disch := omega) only [Try.results67, vmE, liE, eE, seval, deE, fxE, retOf, maskA, setVals, getVals, putA, stripAt, AVal.strip, stripL, rd, hc11, hc31, hx37, hc55]; rfl) (List.Sublist.refl _) ?_))))))
                  cases h
                  refine ⟨?_, ?_⟩
                  · simp (disch := omega) only [vmE, liE, eE, seval, deE, fxE, retOf, maskA, setVals, getVals, putA, stripAt, AVal.strip, stripL, rd, hc11, hc31, hx37, hc55]
                  · rfl
                · refine awp_cond_f rfl hc55 ?_
                  refine awp_skip ?_
                  refine bPost_normal (hK33 _ _ (kPost_normal (hK32 _ _ ?_)))
                  refine awp_region' [] ?_
                  intro K58 hK58
                  simp (disch := omega) only [vmE, liE, eE, seval, deE, fxE, retOf, maskA, setVals, getVals, putA, stripAt, AVal.strip, stripL, rd, hc11, hc31, hx37, hc55]
                  refine hK58 _ _ (kPost_normal (hJ61 k22 _ _ _ (Nat.lt_succ_self _) (List.Sublist.refl _) ?_ ⟨(wr .i64 (s7 + 1)), ?_, ?_, h⟩)) <;> simp (disch := omega) only [vmE, liE, eE, seval, deE, fxE, retOf, maskA, setVals, getVals, putA, stripAt, AVal.strip, stripL, rd, hc11, hc31, hx37, hc55]
              · intro J59 hJ59
                replace h := ite_some h
                rcases h with ⟨hc54, h⟩ | ⟨hc54, h⟩
                · refine awp_region' [] ?_
                  intro K53 hK53
                  simp (disch := omega) only [vmE, liE, eE, seval, deE, fxE, retOf, maskA, setVals, getVals, putA, stripAt, AVal.strip, stripL, rd, hc11, hc31, hx37, hc54]
                  refine hK53 _ _ (kPost_normal (hJ59 _ _ _ (List.Sublist.refl _) ?_ ⟨(y44.1 == x36), ?_, ?_, h⟩)) <;> simp (disch := omega) only [vmE, liE, eE, seval, deE, fxE, retOf, maskA, setVals, getVals, putA, stripAt, AVal.strip, stripL, rd, hc11, hc31, hx37, hc54]
                · refine awp_region' [] ?_
                  intro K53 hK53
                  simp (disch := omega) only [vmE, liE, eE, seval, deE, fxE, retOf, maskA, setVals, getVals, putA, stripAt, AVal.strip, stripL, rd, hc11, hc31, hx37, hc54]
                  refine hK53 _ _ (kPost_normal (hJ59 _ _ _ (List.Sublist.refl _) ?_ ⟨false, ?_, ?_, h⟩)) <;> simp (disch := omega) only [vmE, liE, eE, seval, deE, fxE, retOf, maskA, setVals, getVals, putA, stripAt, AVal.strip, stripL, rd, hc11, hc31, hx37, hc54]
            · refine awp_cond_f rfl hc31 ?_
              refine awp_exit ?_
              refine kPost_exit (kPost_exit (bPost_here (hK21 _ _ (kPost_normal (hJ65 _ _ _ (List.Sublist.refl _) ?_ ⟨(), ?_, ?_, h⟩))))) <;> simp (disch := omega) only [vmE, liE, eE, seval, deE, fxE, retOf, maskA, setVals, getVals, putA, stripAt, AVal.strip, stripL, rd, hc11, hc31]
          · intro J60 hJ60
            replace h := ite_some h
            rcases h with ⟨hc30, h⟩ | ⟨hc30, h⟩
            · refine awp_region' [] ?_
              intro K29 hK29
              simp (disch := omega) only [vmE, liE, eE, seval, deE, fxE, retOf, maskA, setVals, getVals, putA, stripAt, AVal.strip, stripL, rd, hc11, hc30]
              refine hK29 _ _ (kPost_normal (hJ60 _ _ _ (List.Sublist.refl _) ?_ ⟨(decide ((wr .i64 (a1 + s7)) ≤ (a0.length : Int))), ?_, ?_, h⟩)) <;> simp (disch := omega) only [vmE, liE, eE, seval, deE, fxE, retOf, maskA, setVals, getVals, putA, stripAt, AVal.strip, stripL, rd, hc11, hc30]
            · refine awp_region' [] ?_
              intro K29 hK29
              simp (disch := omega) only [vmE, liE, eE, seval, deE, fxE, retOf, maskA, setVals, getVals, putA, stripAt, AVal.strip, stripL, rd, hc11, hc30]
              refine hK29 _ _ (kPost_normal (hJ60 _ _ _ (List.Sublist.refl _) ?_ ⟨false, ?_, ?_, h⟩)) <;> simp (disch := omega) only [vmE, liE, eE, seval, deE, fxE, retOf, maskA, setVals, getVals, putA, stripAt, AVal.strip, stripL, rd, hc11, hc30]
  · intro J66 hJ66
    replace h := ite_some h
    rcases h with ⟨hc10, h⟩ | ⟨hc10, h⟩
    · refine awp_region' [] ?_
      intro K9 hK9
      simp (disch := omega) only [vmE, liE, eE, seval, deE, fxE, retOf, maskA, setVals, getVals, putA, stripAt, AVal.strip, stripL, rd, hc10]
      refine hK9 _ _ (kPost_normal (hJ66 _ _ _ (List.Sublist.refl _) ?_ ⟨true, ?_, ?_, h⟩)) <;> simp (disch := omega) only [vmE, liE, eE, seval, deE, fxE, retOf, maskA, setVals, getVals, putA, stripAt, AVal.strip, stripL, rd, hc10]
    · refine awp_region' [] ?_
      intro K9 hK9
      simp (disch := omega) only [vmE, liE, eE, seval, deE, fxE, retOf, maskA, setVals, getVals, putA, stripAt, AVal.strip, stripL, rd, hc10]
      refine hK9 _ _ (kPost_normal (hJ66 _ _ _ (List.Sublist.refl _) ?_ ⟨(decide (a1 ≥ (a0.length : Int))), ?_, ?_, h⟩)) <;> simp (disch := omega) only [vmE, liE, eE, seval, deE, fxE, retOf, maskA, setVals, getVals, putA, stripAt, AVal.strip, stripL, rd, hc10]
theorem jrd_decoder_member_w {N : Nat} {a0 : JrdDecoder} {a1 : ApiValue} {a2 : (List UInt8)} {r : (List UInt8) × JrdDecoder} (h : jrd_decoder_member N a0 a1 a2 = some r) {n : Nat} {m : List (Nat × List AVal)} {i0 : Nat} (hi0 : mget m i0 = some [.int .i64 a0.e]) :
    ACall vE 26 [.ptr i0 0, .agg [.int .i64 a1.kind, .str a1.text, .slice 1 (List.map AVal.str a1.keys) false, .slice 4 (List.map encApiValue a1.items) false], .str a2] ⟨m, n⟩ fun r' st => r' = .str r.1 ∧ st.m = mset m i0 [.int .i64 r.2.e] := by
  rw [jrd_decoder_member] at h
  refine ACall.front hi0 ?_
  intro hin
  refine acall_k Try.func26 rfl ?_
  intro R hR
  refine AWp.congr (by simp only [Try.ntmps26, liE, seval]; rfl) ?_
  refine awp_seq_k ?_
  intro K1 hK1
  refine awp_region' [] ?_
  intro K2 hK2
  simp (disch := omega) only [vmE, liE, eE, seval, deE, fxE, retOf, maskA, setVals, getVals, putA, stripAt, AVal.strip, stripL, rd]
  refine hK2 _ _ (kPost_normal (hK1 _ _ ?_))
  refine awp_seq_k ?_
  intro K3 hK3
  replace h := bind_some h
  rcases h with ⟨y5, hy6, h⟩
  refine awp_region' [] ?_
  intro K4 hK4
  simp (disch := omega) only [vmE, liE, eE, seval, deE, fxE, retOf, maskA, setVals, getVals, putA, stripAt, AVal.strip, stripL, rd]
  refine ACall.of (jsondoc_Get_w hy6) ?_ ?_
  · first | (simp (disch := omega) only [vmE, liE, eE, seval, deE, fxE, retOf, maskA, setVals, getVals, putA, stripAt, AVal.strip, stripL, rd]) | rfl
  rintro _ ⟨m8, n7⟩ hn7 ⟨rfl, hm⟩
  simp (disch := omega) only [vmE, liE, eE, seval] at hn7 hm
  replace hm := hm.symm
  subst hm
  simp (disch := omega) only [vmE, liE, eE, seval, deE, fxE, retOf, maskA, setVals, getVals, putA, stripAt, AVal.strip, stripL, rd]
  refine hK4 _ _ (kPost_normal (hK3 _ _ ?_))
  refine awp_seq_k ?_
  intro K9 hK9
  refine awp_seq_k ?_
  intro K10 hK10
  refine awp_region' [] ?_
  intro K11 hK11
  simp (disch := omega) only [vmE, liE, eE, seval, deE, fxE, retOf, maskA, setVals, getVals, putA, stripAt, AVal.strip, stripL, rd]
  refine hK11 _ _ (kPost_normal (hK10 _ _ ?_))
  replace h := ite_some h
  rcases h with ⟨hc12, h⟩ | ⟨hc12, h⟩
  · refine awp_cond_f rfl (by simp only [liE, hc12]) ?_
    refine awp_skip ?_
    refine kPost_normal (hK9 _ _ ?_)
    refine awp_seq_k ?_
    intro K13 hK13
    replace h := bind_some h
    rcases h with ⟨y15, hy16, h⟩
    refine awp_region' [] ?_
    intro K14 hK14
    simp (disch := omega) only [vmE, liE, eE, seval, deE, fxE, retOf, maskA, setVals, getVals, putA, stripAt, AVal.strip, stripL, rd, hc12]
    refine ACall.of (jrd_decoder_text_w hy16 (i0 := i0) (by simp (disch := omega) only [vmE, liE, eE, seval, deE, fxE, retOf, maskA, setVals, getVals, putA, stripAt, AVal.strip, stripL, rd])) ?_ ?_
    · first | (simp (disch := omega) only [vmE, liE, eE, seval, deE, fxE, retOf, maskA, setVals, getVals, putA, stripAt, AVal.strip, stripL, rd, hc12]) | rfl
    rintro _ ⟨m18, n17⟩ hn17 ⟨rfl, hm⟩
    simp (disch := omega) only [vmE, liE, eE, seval] at hn17 hm
    replace hm := hm.symm
    subst hm
    simp (disch := omega) only [vmE, liE, eE, seval, deE, fxE, retOf, maskA, setVals, getVals, putA, stripAt, AVal.strip, stripL, rd, hc12]
    refine hK14 _ _ (kPost_normal (hK13 _ _ ?_))
    refine awp_ret ?_
    refine hR _ _ _ (retPost_r (by simp (disch := omega) only [Try.results26, vmE, liE, eE, seval, deE, fxE, retOf, maskA, setVals, getVals, putA, stripAt, AVal.strip, stripL, rd, hc12]; rfl) (.cons _ (.cons _ (List.Sublist.refl _))) ?_)
    cases h
    refine ⟨_, rfl, ?_, ?_⟩
    · simp (disch := omega) only [vmE, liE, eE, seval, deE, fxE, retOf, maskA, setVals, getVals, putA, stripAt, AVal.strip, stripL, rd, hc12]
    · simp (disch := omega) only [vmE, liE, eE, seval, deE, fxE, retOf, maskA, setVals, getVals, putA, stripAt, AVal.strip, stripL, rd, hc12]
  · refine awp_cond_t rfl (by simp only [liE, hc12]) ?_
    refine awp_seq_k ?_
    intro K19 hK19
    refine awp_region' [] ?_
    intro K20 hK20
    simp (disch := omega) only [vmE, liE, eE, seval, deE, fxE, retOf, maskA, setVals, getVals, putA, stripAt, AVal.strip, stripL, rd, hc12]
    refine hK20 _ _ (kPost_normal (hK19 _ _ ?_))
    refine awp_ret ?_
    refine kPost_ret (hR _ _ _ (retPost_r (by simp (disch := omega) only [Try.results26, vmE, liE, eE, seval, deE, fxE, retOf, maskA, setVals, getVals, putA, stripAt, AVal.strip, stripL, rd, hc12]; rfl) (.cons _ (.cons _ (List.Sublist.refl _))) ?_))
    cases h
    refine ⟨_, rfl, ?_, ?_⟩
    · simp (disch := omega) only [vmE, liE, eE, seval, deE, fxE, retOf, maskA, setVals, getVals, putA, stripAt, AVal.strip, stripL, rd, hc12]
    · simp (disch := omega) only [vmE, liE, eE, seval, deE, fxE, retOf, maskA, setVals, getVals, putA, stripAt, AVal.strip, stripL, rd, hc12]
theorem jrd_decoder_properties_w {N : Nat} {a0 : JrdDecoder} {a1 : ApiValue} {a2 : (List UInt8)} {a3 : Bool} {r : (List ApiProperty) × JrdDecoder} (h : jrd_decoder_properties N a0 a1 a2 a3 = some r) {n : Nat} {m : List (Nat × List AVal)} {i0 : Nat} (hi0 : mget m i0 = some [.int .i64 a0.e]) :
    ACall vE 29 [.ptr i0 0, .agg [.int .i64 a1.kind, .str a1.text, .slice 1 (List.map AVal.str a1.keys) false, .slice 4 (List.map encApiValue a1.items) false], .str a2, .bool a3] ⟨m, n⟩ fun r' st => r' = .slice 3 (List.map encApiProperty r.1) false ∧ st.m = mset m i0 [.int .i64 r.2.e] := by
  rw [jrd_decoder_properties] at h
  refine ACall.front hi0 ?_
  intro hin
  refine acall_k Try.func29 rfl ?_
  intro R hR
  refine AWp.congr (by simp only [Try.ntmps29, liE, seval]; rfl) ?_
  refine awp_seq_k ?_
  intro K1 hK1
  refine awp_region' [] ?_
  intro K2 hK2
  simp (disch := omega) only [vmE, liE, eE, seval, deE, fxE, retOf, maskA, setVals, getVals, putA, stripAt, AVal.strip, stripL, rd]
  refine hK2 _ _ (kPost_normal (hK1 _ _ ?_))
  refine awp_seq_k ?_
  intro K3 hK3
  refine awp_region' [] ?_
  intro K4 hK4
  simp (disch := omega) only [vmE, liE, eE, seval, deE, fxE, retOf, maskA, setVals, getVals, putA, stripAt, AVal.strip, stripL, rd]
  refine hK4 _ _ (kPost_normal (hK3 _ _ ?_))
  refine awp_seq_k ?_
  intro K5 hK5
  replace h := bind_some h
  rcases h with ⟨y7, hy8, h⟩
  refine awp_region' [] ?_
  intro K6 hK6
  simp (disch := omega) only [vmE, liE, eE, seval, deE, fxE, retOf, maskA, setVals, getVals, putA, stripAt, AVal.strip, stripL, rd]
  refine ACall.of (jrd_decoder_items_w hy8 (i0 := i0) (by simp (disch := omega) only [vmE, liE, eE, seval, deE, fxE, retOf, maskA, setVals, getVals, putA, stripAt, AVal.strip, stripL, rd])) ?_ ?_
  · first | (simp (disch := omega) only [vmE, liE, eE, seval, deE, fxE, retOf, maskA, setVals, getVals, putA, stripAt, AVal.strip, stripL, rd]) | rfl
  rintro _ ⟨m10, n9⟩ hn9 ⟨rfl, hm⟩
  simp (disch := omega) only [vmE, liE, eE, seval] at hn9 hm
  replace hm := hm.symm
  subst hm
  simp (disch := omega) only [vmE, liE, eE, seval, deE, fxE, retOf, maskA, setVals, getVals, putA, stripAt, AVal.strip, stripL, rd]
  refine hK6 _ _ (kPost_normal (hK5 _ _ ?_))
  refine awp_seq_k ?_
  intro K11 hK11
  replace h := joinK_some h
  rcases h with ⟨k13, hk13, h⟩
  refine awp_join [11, 12, 13, 18, 19, 20, 21, 22, 23, 24, 25, 26, 27, 28, 29, 30, 31, 32, 33, 34, 35, 36, 37, 38, 39, 40, 41, 42, 43, 44, 45, 46, 47, 48, 49, 50, 51, 52] [9] (fun vs st' => ∃ j12 : (List ApiProperty) × JrdDecoder, vs = [.slice 3 (List.map encApiProperty j12.1) true] ∧ st'.m = (n9, [.int .i64 y7.1.kind, .str y7.1.text, .slice 1 (List.map AVal.str y7.1.keys) false, .slice 4 (List.map encApiValue y7.1.items) false]) :: (n, [.int .i64 a1.kind, .str a1.text, .slice 1 (List.map AVal.str a1.keys) false, .slice 4 (List.map encApiValue a1.items) false]) :: (i0, [.int .i64 j12.2.e]) :: mdel m i0 ∧ k13 j12 = some r) hK11 ?_ ?_
  · clear h
    rintro _ ⟨m14, n15⟩ ⟨j12, rfl, hm, h⟩
    simp only [] at hm
    replace hm := hm.symm
    subst hm
    replace h := hk13 _ _ h
    clear hk13 k13
    refine AWp.known fun _ hkl => ?_
    simp only [] at hkl
    obtain ⟨_, hkl⟩ := keysLt_cons hkl
    obtain ⟨_, hkl⟩ := keysLt_cons hkl
    obtain ⟨_, hkl⟩ := keysLt_cons hkl
    clear hkl
    refine AWp.congr (by simp (disch := omega) only [vmE, liE, eE, seval, deE, fxE, retOf, maskA, setVals, getVals, putA, stripAt, AVal.strip, stripL, rd]; rfl) ?_
    refine awp_seq_k ?_
    intro K64 hK64
    refine awp_region' [] ?_
    intro K65 hK65
    simp (disch := omega) only [vmE, liE, eE, seval, deE, fxE, retOf, maskA, setVals, getVals, putA, stripAt, AVal.strip, stripL, rd]
    refine hK65 _ _ (kPost_normal (hK64 _ _ ?_))
    refine awp_ret ?_
    refine hR _ _ _ (retPost_r (by simp (disch := omega) only [Try.results29, vmE, liE, eE, seval, deE, fxE, retOf, maskA, setVals, getVals, putA, stripAt, AVal.strip, stripL, rd]; rfl) (.cons _ (.cons _ (List.Sublist.refl _))) ?_)
    cases h
    refine ⟨_, rfl, ?_, ?_⟩
    · simp (disch := omega) only [vmE, liE, eE, seval, deE, fxE, retOf, maskA, setVals, getVals, putA, stripAt, AVal.strip, stripL, rd]
    · simp (disch := omega) only [vmE, liE, eE, seval, deE, fxE, retOf, maskA, setVals, getVals, putA, stripAt, AVal.strip, stripL, rd]
  · intro J66 hJ66
    refine awp_seq_k ?_
    intro K16 hK16
    refine awp_region' [] ?_
    intro K17 hK17
    simp (disch := omega) only [vmE, liE, eE, seval, deE, fxE, retOf, maskA, setVals, getVals, putA, stripAt, AVal.strip, stripL, rd]
    refine hK17 _ _ (kPost_normal (hK16 _ _ ?_))
    refine awp_block_k ?_
    intro K18 hK18
    refine awp_loop_v [11, 12, 13, 22, 23, 24, 25, 26, 27, 28, 29, 30, 31, 32, 33, 34, 35, 36, 37, 38, 39, 40, 41, 42, 43, 44, 45, 46, 47, 48, 49, 50, 51, 52] [9, 21] (fun k vs st' => ∃ (s9 : (List ApiProperty)) (s21 : Int) (bi0 : JrdDecoder), vs = [.slice 3 (List.map encApiProperty s9) true, .int .i64 s21] ∧ st'.m = (n9, [.int .i64 y7.1.kind, .str y7.1.text, .slice 1 (List.map AVal.str y7.1.keys) false, .slice 4 (List.map encApiValue y7.1.items) false]) :: (n, [.int .i64 a1.kind, .str a1.text, .slice 1 (List.map AVal.str a1.keys) false, .slice 4 (List.map encApiValue a1.items) false]) :: (i0, [.int .i64 bi0.e]) :: mdel m i0 ∧ jrd_decoder_properties_L1 N a3 y7 k13 k s9 s21 bi0 = some r) N ⟨[], 0, y7.2, ?_, ?_, h⟩ ?_
    · simp (disch := omega) only [vmE, liE, eE, seval, deE, fxE, retOf, maskA, setVals, getVals, putA, stripAt, AVal.strip, stripL, rd]
    · simp (disch := omega) only [vmE, liE, eE, seval, deE, fxE, retOf, maskA, setVals, getVals, putA, stripAt, AVal.strip, stripL, rd]
    · clear h
      rintro k19 _ ⟨m63, nL0_1⟩ ⟨s9, s21, bi0, rfl, hm, h⟩ J62 hJ62
      simp only [] at hm
      replace hm := hm.symm
      subst hm
      rcases k19 with _ | k19
      · simp only [jrd_decoder_properties_L1, reduceCtorEq] at h
      rw [jrd_decoder_properties_L1] at h
      refine AWp.known fun _ hkl => ?_
      simp only [] at hkl
      obtain ⟨_, hkl⟩ := keysLt_cons hkl
      obtain ⟨_, hkl⟩ := keysLt_cons hkl
      obtain ⟨_, hkl⟩ := keysLt_cons hkl
      clear hkl
      refine AWp.congr (by simp (disch := omega) only [vmE, liE, eE, seval, deE, fxE, retOf, maskA, setVals, getVals, putA, stripAt, AVal.strip, stripL, rd]; rfl) ?_
      refine awp_seq_k ?_
      intro K20 hK20
      refine awp_region' [] ?_
      intro K21 hK21
      simp (disch := omega) only [vmE, liE, eE, seval, deE, fxE, retOf, maskA, setVals, getVals, putA, stripAt, AVal.strip, stripL, rd]
      refine hK21 _ _ (kPost_normal (hK20 _ _ ?_))
      refine awp_seq_k ?_
      intro K22 hK22
      replace h := ite_some h
      rcases h with ⟨hc23, h⟩ | ⟨hc23, h⟩
      · refine awp_cond_t rfl hc23 ?_
        refine awp_skip ?_
        refine kPost_normal (hK22 _ _ ?_)
        refine awp_seq_k ?_
        intro K24 hK24
        refine awp_block_k ?_
        intro K25 hK25
        refine awp_seq_k ?_
        intro K26 hK26
        replace h := bind_some h
        rcases h with ⟨x28, hx29, h⟩
        refine awp_region' [] ?_
        intro K27 hK27
        simp (disch := omega) only [vmE, liE, eE, seval, deE, fxE, retOf, maskA, setVals, getVals, putA, stripAt, AVal.strip, stripL, rd, hc23, hx29]
        refine hK27 _ _ (kPost_normal (hK26 _ _ ?_))
        refine awp_seq_k ?_
        intro K30 hK30
        refine awp_seq_k ?_
        intro K31 hK31
        refine awp_region' [] ?_
        intro K32 hK32
        simp (disch := omega) only [vmE, liE, eE, seval, deE, fxE, retOf, maskA, setVals, getVals, putA, stripAt, AVal.strip, stripL, rd, hc23, hx29]
        refine hK32 _ _ (kPost_normal (hK31 _ _ ?_))
        replace h := ite_some h
        rcases h with ⟨hc33, h⟩ | ⟨hc33, h⟩
        · refine awp_cond_t rfl hc33 ?_
          refine awp_exit ?_
          refine kPost_exit (bPost_there rfl (kPost_exit (kPost_exit (bPost_here (hK18 _ _ (kPost_normal (hJ66 _ _ _ (.cons _ (List.Sublist.refl _)) ?_ ⟨(s9, bi0), ?_, ?_, h⟩))))))) <;> simp (disch := omega) only [vmE, liE, eE, seval, deE, fxE, retOf, maskA, setVals, getVals, putA, stripAt, AVal.strip, stripL, rd, hc23, hx29, hc33]
        · refine awp_cond_f rfl hc33 ?_
          refine awp_skip ?_
          refine kPost_normal (hK30 _ _ ?_)
          refine awp_seq_k ?_
          intro K34 hK34
          replace h := bind_some h
          rcases h with ⟨x36, hx37, h⟩
          refine awp_region' [] ?_
          intro K35 hK35
          simp (disch := omega) only [vmE, liE, eE, seval, deE, fxE, retOf, maskA, setVals, getVals, putA, stripAt, AVal.strip, stripL, rd, hc23, hx29, hc33, hx37]
          refine hK35 _ _ (kPost_normal (hK34 _ _ ?_))
          refine awp_seq_k ?_
          intro K38 hK38
          replace h := joinK_some h
          rcases h with ⟨k40, hk40, h⟩
          refine awp_join [37, 38, 39, 40, 41, 42, 43, 44, 45, 46, 47] [] (fun vs st' => ∃ j39 : (List UInt8) × Bool × JrdDecoder, vs = [] ∧ st'.m = ((nL0_1 + 1), [.str x36, .str j39.1, .bool j39.2.1]) :: (nL0_1, [.int .i64 x28.kind, .str x28.text, .slice 1 (List.map AVal.str x28.keys) false, .slice 4 (List.map encApiValue x28.items) false]) :: (n9, [.int .i64 y7.1.kind, .str y7.1.text, .slice 1 (List.map AVal.str y7.1.keys) false, .slice 4 (List.map encApiValue y7.1.items) false]) :: (n, [.int .i64 a1.kind, .str a1.text, .slice 1 (List.map AVal.str a1.keys) false, .slice 4 (List.map encApiValue a1.items) false]) :: (i0, [.int .i64 j39.2.2.e]) :: mdel m i0 ∧ k40 j39 = some r) hK38 ?_ ?_
          · clear h
            rintro _ ⟨m41, n42⟩ ⟨j39, rfl, hm, h⟩
            simp only [] at hm
            replace hm := hm.symm
            subst hm
            replace h := hk40 _ _ h
            clear hk40 k40
            refine AWp.known fun _ hkl => ?_
            simp only [] at hkl
            obtain ⟨_, hkl⟩ := keysLt_cons hkl
            obtain ⟨_, hkl⟩ := keysLt_cons hkl
            obtain ⟨_, hkl⟩ := keysLt_cons hkl
            obtain ⟨_, hkl⟩ := keysLt_cons hkl
            obtain ⟨_, hkl⟩ := keysLt_cons hkl
            clear hkl
            refine AWp.congr (by simp (disch := omega) only [vmE, liE, eE, seval, deE, fxE, retOf, maskA, setVals, getVals, putA, stripAt, AVal.strip, stripL, rd]; rfl) ?_
            replace h := grd_some h
            rcases h with ⟨hg59, h⟩
            try simp only [liE, seval] at hg59
            refine awp_region' [48] ?_
            intro K58 hK58
            simp (disch := omega) only [vmE, liE, eE, seval, deE, fxE, retOf, maskA, setVals, getVals, putA, stripAt, AVal.strip, stripL, rd, hc23, hx29, hc33, hx37, hg59]
            refine hK58 _ _ (bPost_normal (hK25 _ _ (kPost_normal (hK24 _ _ ?_))))
            refine awp_region' [] ?_
            intro K60 hK60
            simp (disch := omega) only [vmE, liE, eE, seval, deE, fxE, retOf, maskA, setVals, getVals, putA, stripAt, AVal.strip, stripL, rd, hc23, hx29, hc33, hx37, hg59]
            refine hK60 _ _ (kPost_normal (hJ62 k19 _ _ _ (Nat.lt_succ_self _) (.cons _ (.cons _ (List.Sublist.refl _))) ?_ ⟨(s9 ++ [(ApiProperty.mk x36 j39.1 j39.2.1)]), (wr .i64 (s21 + 1)), j39.2.2, ?_, ?_, h⟩)) <;> simp (disch := omega) only [vmE, liE, eE, seval, deE, fxE, retOf, maskA, setVals, getVals, putA, stripAt, AVal.strip, stripL, rd, hc23, hx29, hc33, hx37, hg59]
          · intro J61 hJ61
            refine awp_seq_k ?_
            intro K43 hK43
            replace h := joinK_some h
            rcases h with ⟨k45, hk45, h⟩
            refine awp_join [37, 38, 39, 40, 41] [42] (fun vs st' => ∃ j44 : Bool, vs = [.bool j44] ∧ st'.m = ((nL0_1 + 1), [.str x36, .str [], .bool false]) :: (nL0_1, [.int .i64 x28.kind, .str x28.text, .slice 1 (List.map AVal.str x28.keys) false, .slice 4 (List.map encApiValue x28.items) false]) :: (n9, [.int .i64 y7.1.kind, .str y7.1.text, .slice 1 (List.map AVal.str y7.1.keys) false, .slice 4 (List.map encApiValue y7.1.items) false]) :: (n, [.int .i64 a1.kind, .str a1.text, .slice 1 (List.map AVal.str a1.keys) false, .slice 4 (List.map encApiValue a1.items) false]) :: (i0, [.int .i64 bi0.e]) :: mdel m i0 ∧ k45 j44 = some r) hK43 ?_ ?_
            · clear h
              rintro _ ⟨m46, n47⟩ ⟨j44, rfl, hm, h⟩
              simp only [] at hm
              replace hm := hm.symm
              subst hm
              replace h := hk45 _ _ h
              clear hk45 k45
              refine AWp.known fun _ hkl => ?_
              simp only [] at hkl
              obtain ⟨_, hkl⟩ := keysLt_cons hkl
              obtain ⟨_, hkl⟩ := keysLt_cons hkl
              obtain ⟨_, hkl⟩ := keysLt_cons hkl
              obtain ⟨_, hkl⟩ := keysLt_cons hkl
              obtain ⟨_, hkl⟩ := keysLt_cons hkl
              clear hkl
              refine AWp.congr (by simp (disch := omega) only [vmE, liE, eE, seval, deE, fxE, retOf, maskA, setVals, getVals, putA, stripAt, AVal.strip, stripL, rd]; rfl) ?_
              replace h := ite_some h
              rcases h with ⟨hc50, h⟩ | ⟨hc50, h⟩
              · refine awp_cond_t rfl hc50 ?_
                refine awp_region' [] ?_
                intro K51 hK51
                simp (disch := omega) only [vmE, liE, eE, seval, deE, fxE, retOf, maskA, setVals, getVals, putA, stripAt, AVal.strip, stripL, rd, hc23, hx29, hc33, hx37, hc50]
                refine hK51 _ _ (kPost_normal (hJ61 _ _ _ (List.Sublist.refl _) ?_ ⟨([], true, bi0), ?_, ?_, h⟩)) <;> simp (disch := omega) only [vmE, liE, eE, seval, deE, fxE, retOf, maskA, setVals, getVals, putA, stripAt, AVal.strip, stripL, rd, hc23, hx29, hc33, hx37, hc50]
              · refine awp_cond_f rfl hc50 ?_
                replace h := bind_some h
                rcases h with ⟨y53, hy54, h⟩
                refine awp_region' [] ?_
                intro K52 hK52
                simp (disch := omega) only [vmE, liE, eE, seval, deE, fxE, retOf, maskA, setVals, getVals, putA, stripAt, AVal.strip, stripL, rd, hc23, hx29, hc33, hx37, hc50]
                refine ACall.of (jrd_decoder_text_w hy54 (i0 := i0) (by simp (disch := omega) only [vmE, liE, eE, seval, deE, fxE, retOf, maskA, setVals, getVals, putA, stripAt, AVal.strip, stripL, rd])) ?_ ?_
                · first | (simp (disch := omega) only [vmE, liE, eE, seval, deE, fxE, retOf, maskA, setVals, getVals, putA, stripAt, AVal.strip, stripL, rd, hc23, hx29, hc33, hx37, hc50]) | rfl
                rintro _ ⟨m56, n55⟩ hn55 ⟨rfl, hm⟩
                simp (disch := omega) only [vmE, liE, eE, seval] at hn55 hm
                replace hm := hm.symm
                subst hm
                simp (disch := omega) only [vmE, liE, eE, seval, deE, fxE, retOf, maskA, setVals, getVals, putA, stripAt, AVal.strip, stripL, rd, hc23, hx29, hc33, hx37, hc50]
                refine hK52 _ _ (kPost_normal (hJ61 _ _ _ (List.Sublist.refl _) ?_ ⟨(y53.1, false, y53.2), ?_, ?_, h⟩)) <;> simp (disch := omega) only [vmE, liE, eE, seval, deE, fxE, retOf, maskA, setVals, getVals, putA, stripAt, AVal.strip, stripL, rd, hc23, hx29, hc33, hx37, hc50]
            · intro J57 hJ57
              replace h := ite_some h
              rcases h with ⟨hc49, h⟩ | ⟨hc49, h⟩
              · refine awp_region' [] ?_
                intro K48 hK48
                simp (disch := omega) only [vmE, liE, eE, seval, deE, fxE, retOf, maskA, setVals, getVals, putA, stripAt, AVal.strip, stripL, rd, hc23, hx29, hc33, hx37, hc49]
                refine hK48 _ _ (kPost_normal (hJ57 _ _ _ (List.Sublist.refl _) ?_ ⟨(x28.kind == 1), ?_, ?_, h⟩)) <;> simp (disch := omega) only [vmE, liE, eE, seval, deE, fxE, retOf, maskA, setVals, getVals, putA, stripAt, AVal.strip, stripL, rd, hc23, hx29, hc33, hx37, hc49]
              · refine awp_region' [] ?_
                intro K48 hK48
                simp (disch := omega) only [vmE, liE, eE, seval, deE, fxE, retOf, maskA, setVals, getVals, putA, stripAt, AVal.strip, stripL, rd, hc23, hx29, hc33, hx37, hc49]
                refine hK48 _ _ (kPost_normal (hJ57 _ _ _ (List.Sublist.refl _) ?_ ⟨false, ?_, ?_, h⟩)) <;> simp (disch := omega) only [vmE, liE, eE, seval, deE, fxE, retOf, maskA, setVals, getVals, putA, stripAt, AVal.strip, stripL, rd, hc23, hx29, hc33, hx37, hc49]
      · refine awp_cond_f rfl hc23 ?_
        refine awp_exit ?_
        refine kPost_exit (kPost_exit (bPost_here (hK18 _ _ (kPost_normal (hJ66 _ _ _ (List.Sublist.refl _) ?_ ⟨(s9, bi0), ?_, ?_, h⟩))))) <;> simp (disch := omega) only [vmE, liE, eE, seval, deE, fxE, retOf, maskA, setVals, getVals, putA, stripAt, AVal.strip, stripL, rd, hc23]
end Go.Proofs.Ytdbeiialamganaa
