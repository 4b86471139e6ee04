/- That the code computes these functions; written by decomp.py. -/
import Derived.Test.YtdbeiialamganaaVmFacts
import Derived.Test.YtdbeiialamganaaDefs
import Derived.Test.YtdbeiialamganaaVMSets
import Derived.Test.YtdbeiialamganaaW0
set_option linter.unusedVariables false
set_option linter.unusedSimpArgs false
set_option maxHeartbeats 4000000
set_option maxRecDepth 100000
set_option linter.defProp false
namespace Go.Proofs.Ytdbeiialamganaa
open Go.VM
theorem ref13_run_w {N : Nat} {a0 : (List UInt8)} {r : Int} (h : ref13_run N a0 = some r) {n : Nat} {m : List (Nat × List AVal)} :
    ACall vE 65 [.str a0] ⟨m, n⟩ fun r' st => r' = .int .i64 r ∧ st.m = m := by
  rw [ref13_run] at h
  refine acall_k Try.func65 rfl ?_
  intro R hR
  refine AWp.congr (by simp only [Try.ntmps65, liE, seval]; rfl) ?_
  refine awp_seq_k ?_
  intro K1 hK1
  refine awp_region' [] ?_
  intro K2 hK2
  simp (disch := omega) only [vmE, liE, eE, seval, deE, fxE, retOf, maskA, setVals, getVals, putA, stripAt, AVal.strip, stripL, rd]
  refine hK2 _ _ (kPost_normal (hK1 _ _ ?_))
  refine awp_seq_k ?_
  intro K3 hK3
  refine awp_region' [] ?_
  intro K4 hK4
  simp (disch := omega) only [vmE, liE, eE, seval, deE, fxE, retOf, maskA, setVals, getVals, putA, stripAt, AVal.strip, stripL, rd]
  refine hK4 _ _ (kPost_normal (hK3 _ _ ?_))
  refine awp_seq_k ?_
  intro K5 hK5
  replace h := joinK_some h
  rcases h with ⟨k7, hk7, h⟩
  refine awp_join [4, 5, 6, 7, 8, 9, 10, 11, 12, 13, 14, 15] [3] (fun vs st' => ∃ j6 : Int, vs = [.int .i64 j6] ∧ st'.m = m ∧ k7 j6 = some r) hK5 ?_ ?_
  · clear h
    rintro _ ⟨m8, n9⟩ ⟨j6, rfl, hm, h⟩
    simp only [] at hm
    replace hm := hm.symm
    subst hm
    replace h := hk7 _ _ h
    clear hk7 k7
    refine AWp.congr (by simp (disch := omega) only [vmE, liE, eE, seval, deE, fxE, retOf, maskA, setVals, getVals, putA, stripAt, AVal.strip, stripL, rd]; rfl) ?_
    refine awp_seq_k ?_
    intro K32 hK32
    refine awp_region' [] ?_
    intro K33 hK33
    simp (disch := omega) only [vmE, liE, eE, seval, deE, fxE, retOf, maskA, setVals, getVals, putA, stripAt, AVal.strip, stripL, rd]
    refine hK33 _ _ (kPost_normal (hK32 _ _ ?_))
    refine awp_ret ?_
    refine hR _ _ _ (retPost_r (by simp (disch := omega) only [Try.results65, vmE, liE, eE, seval, deE, fxE, retOf, maskA, setVals, getVals, putA, stripAt, AVal.strip, stripL, rd]; rfl) (List.Sublist.refl _) ?_)
    cases h
    refine ⟨?_, ?_⟩
    · simp (disch := omega) only [vmE, liE, eE, seval, deE, fxE, retOf, maskA, setVals, getVals, putA, stripAt, AVal.strip, stripL, rd]
    · rfl
  · intro J34 hJ34
    refine awp_block_k ?_
    intro K10 hK10
    refine awp_loop_v [4, 5, 6, 7, 8, 9, 10, 11, 12, 13, 14, 15] [3] (fun k vs st' => ∃ (s3 : Int), vs = [.int .i64 s3] ∧ st'.m = m ∧ ref13_run_L1 N a0 k7 k s3 = some r) N ⟨0, ?_, ?_, h⟩ ?_
    · simp (disch := omega) only [vmE, liE, eE, seval, deE, fxE, retOf, maskA, setVals, getVals, putA, stripAt, AVal.strip, stripL, rd]
    · simp (disch := omega) only [vmE, liE, eE, seval, deE, fxE, retOf, maskA, setVals, getVals, putA, stripAt, AVal.strip, stripL, rd]
    · clear h
      rintro k11 _ ⟨m31, nL0_1⟩ ⟨s3, rfl, hm, h⟩ J30 hJ30
      simp only [] at hm
      replace hm := hm.symm
      subst hm
      rcases k11 with _ | k11
      · simp only [ref13_run_L1, reduceCtorEq] at h
      rw [ref13_run_L1] at h
      refine AWp.congr (by simp (disch := omega) only [vmE, liE, eE, seval, deE, fxE, retOf, maskA, setVals, getVals, putA, stripAt, AVal.strip, stripL, rd]; rfl) ?_
      refine awp_seq_k ?_
      intro K12 hK12
      refine awp_seq_k ?_
      intro K13 hK13
      replace h := joinK_some h
      rcases h with ⟨k15, hk15, h⟩
      refine awp_join [4, 5, 6, 7, 8, 9, 10, 11, 12] [13] (fun vs st' => ∃ j14 : Bool, vs = [.bool j14] ∧ st'.m = m ∧ k15 j14 = some r) hK13 ?_ ?_
      · clear h
        rintro _ ⟨m16, n17⟩ ⟨j14, rfl, hm, h⟩
        simp only [] at hm
        replace hm := hm.symm
        subst hm
        replace h := hk15 _ _ h
        clear hk15 k15
        refine AWp.congr (by simp (disch := omega) only [vmE, liE, eE, seval, deE, fxE, retOf, maskA, setVals, getVals, putA, stripAt, AVal.strip, stripL, rd]; rfl) ?_
        replace h := ite_some h
        rcases h with ⟨hc26, h⟩ | ⟨hc26, h⟩
        · refine awp_cond_t rfl hc26 ?_
          refine awp_skip ?_
          refine kPost_normal (hK12 _ _ ?_)
          refine awp_block_k ?_
          intro K27 hK27
          refine awp_region' [] ?_
          intro K28 hK28
          simp (disch := omega) only [vmE, liE, eE, seval, deE, fxE, retOf, maskA, setVals, getVals, putA, stripAt, AVal.strip, stripL, rd, hc26]
          refine hK28 _ _ (bPost_normal (hK27 _ _ (kPost_normal (hJ30 k11 _ _ _ (Nat.lt_succ_self _) (List.Sublist.refl _) ?_ ⟨(wr .i64 (s3 + 1)), ?_, ?_, h⟩)))) <;> simp (disch := omega) only [vmE, liE, eE, seval, deE, fxE, retOf, maskA, setVals, getVals, putA, stripAt, AVal.strip, stripL, rd, hc26]
        · refine awp_cond_f rfl hc26 ?_
          refine awp_exit ?_
          refine kPost_exit (kPost_exit (bPost_here (hK10 _ _ (kPost_normal (hJ34 _ _ _ (List.Sublist.refl _) ?_ ⟨s3, ?_, ?_, h⟩))))) <;> simp (disch := omega) only [vmE, liE, eE, seval, deE, fxE, retOf, maskA, setVals, getVals, putA, stripAt, AVal.strip, stripL, rd, hc26]
      · intro J29 hJ29
        replace h := ite_some h
        rcases h with ⟨hc19, h⟩ | ⟨hc19, h⟩
        · replace h := bind_some h
          rcases h with ⟨x20, hx21, h⟩
          replace h := bind_some h
          rcases h with ⟨y22, hy23, h⟩
          refine awp_region' [] ?_
          intro K18 hK18
          simp (disch := omega) only [vmE, liE, eE, seval, deE, fxE, retOf, maskA, setVals, getVals, putA, stripAt, AVal.strip, stripL, rd, hc19, hx21, hc19, hx21]
          refine ACall.of (ref01_IsDigit_w hy23) ?_ ?_
          · first | (simp (disch := omega) only [vmE, liE, eE, seval, deE, fxE, retOf, maskA, setVals, getVals, putA, stripAt, AVal.strip, stripL, rd, hc19, hx21, hc19, hx21]) | rfl
          rintro _ ⟨m25, n24⟩ hn24 ⟨rfl, hm⟩
          simp (disch := omega) only [vmE, liE, eE, seval] at hn24 hm
          replace hm := hm.symm
          subst hm
          simp (disch := omega) only [vmE, liE, eE, seval, deE, fxE, retOf, maskA, setVals, getVals, putA, stripAt, AVal.strip, stripL, rd, hc19, hx21]
          refine hK18 _ _ (kPost_normal (hJ29 _ _ _ (List.Sublist.refl _) ?_ ⟨y22, ?_, ?_, h⟩)) <;> simp (disch := omega) only [vmE, liE, eE, seval, deE, fxE, retOf, maskA, setVals, getVals, putA, stripAt, AVal.strip, stripL, rd, hc19, hx21]
        · refine awp_region' [] ?_
          intro K18 hK18
          simp (disch := omega) only [vmE, liE, eE, seval, deE, fxE, retOf, maskA, setVals, getVals, putA, stripAt, AVal.strip, stripL, rd, hc19]
          refine hK18 _ _ (kPost_normal (hJ29 _ _ _ (List.Sublist.refl _) ?_ ⟨false, ?_, ?_, h⟩)) <;> simp (disch := omega) only [vmE, liE, eE, seval, deE, fxE, retOf, maskA, setVals, getVals, putA, stripAt, AVal.strip, stripL, rd, hc19]
theorem ref01_Index_w {N : Nat} {a0 : (List UInt8)} {a1 : (List UInt8)} {r : Int} (h : ref01_Index N a0 a1 = some r) {n : Nat} {m : List (Nat × List AVal)} :
    ACall vE 56 [.str a0, .str a1] ⟨m, n⟩ fun r' st => r' = .int .i64 r ∧ st.m = m := by
  rw [ref01_Index] at h
  refine acall_k Try.func56 rfl ?_
  intro R hR
  refine AWp.congr (by simp only [Try.ntmps56, liE, seval]; rfl) ?_
  refine awp_seq_k ?_
  intro K1 hK1
  refine awp_region' [] ?_
  intro K2 hK2
  simp (disch := omega) only [vmE, liE, eE, seval, deE, fxE, retOf, maskA, setVals, getVals, putA, stripAt, AVal.strip, stripL, rd]
  refine hK2 _ _ (kPost_normal (hK1 _ _ ?_))
  refine awp_seq_k ?_
  intro K3 hK3
  replace h := joinK_some h
  rcases h with ⟨k5, hk5, h⟩
  refine awp_join [4, 5, 6, 7, 8, 9, 10, 11, 12, 13, 14, 15, 16, 17] [] (fun vs st' => ∃ j4 : Unit, vs = [] ∧ st'.m = m ∧ k5 j4 = some r) hK3 ?_ ?_
  · clear h
    rintro _ ⟨m6, n7⟩ ⟨j4, rfl, hm, h⟩
    simp only [] at hm
    replace hm := hm.symm
    subst hm
    replace h := hk5 _ _ h
    clear hk5 k5
    refine AWp.congr (by simp (disch := omega) only [vmE, liE, eE, seval, deE, fxE, retOf, maskA, setVals, getVals, putA, stripAt, AVal.strip, stripL, rd]; rfl) ?_
    refine awp_seq_k ?_
    intro K32 hK32
    refine awp_region' [] ?_
    intro K33 hK33
    simp (disch := omega) only [vmE, liE, eE, seval, deE, fxE, retOf, maskA, setVals, getVals, putA, stripAt, AVal.strip, stripL, rd]
    refine hK33 _ _ (kPost_normal (hK32 _ _ ?_))
    refine awp_ret ?_
    refine hR _ _ _ (retPost_r (by simp (disch := omega) only [Try.results56, vmE, liE, eE, seval, deE, fxE, retOf, maskA, setVals, getVals, putA, stripAt, AVal.strip, stripL, rd]; rfl) (List.Sublist.refl _) ?_)
    cases h
    refine ⟨?_, ?_⟩
    · simp (disch := omega) only [vmE, liE, eE, seval, deE, fxE, retOf, maskA, setVals, getVals, putA, stripAt, AVal.strip, stripL, rd]
    · rfl
  · intro J34 hJ34
    refine awp_seq_k ?_
    intro K8 hK8
    refine awp_region' [] ?_
    intro K9 hK9
    simp (disch := omega) only [vmE, liE, eE, seval, deE, fxE, retOf, maskA, setVals, getVals, putA, stripAt, AVal.strip, stripL, rd]
    refine hK9 _ _ (kPost_normal (hK8 _ _ ?_))
    refine awp_block_k ?_
    intro K10 hK10
    refine awp_loop_v [4, 6, 7, 8, 9, 10, 11, 12, 13, 14, 15, 16, 17] [5] (fun k vs st' => ∃ (s5 : Int), vs = [.int .i64 s5] ∧ st'.m = m ∧ ref01_Index_L1 N a0 a1 k5 k s5 = some r) N ⟨0, ?_, ?_, h⟩ ?_
    · simp (disch := omega) only [vmE, liE, eE, seval, deE, fxE, retOf, maskA, setVals, getVals, putA, stripAt, AVal.strip, stripL, rd]
    · simp (disch := omega) only [vmE, liE, eE, seval, deE, fxE, retOf, maskA, setVals, getVals, putA, stripAt, AVal.strip, stripL, rd]
    · clear h
      rintro k11 _ ⟨m31, nL0_1⟩ ⟨s5, rfl, hm, h⟩ J30 hJ30
      simp only [] at hm
      replace hm := hm.symm
      subst hm
      rcases k11 with _ | k11
      · simp only [ref01_Index_L1, reduceCtorEq] at h
      rw [ref01_Index_L1] at h
      refine AWp.congr (by simp (disch := omega) only [vmE, liE, eE, seval, deE, fxE, retOf, maskA, setVals, getVals, putA, stripAt, AVal.strip, stripL, rd]; rfl) ?_
      refine awp_seq_k ?_
      intro K12 hK12
      refine awp_seq_k ?_
      intro K13 hK13
      refine awp_region' [] ?_
      intro K14 hK14
      simp (disch := omega) only [vmE, liE, eE, seval, deE, fxE, retOf, maskA, setVals, getVals, putA, stripAt, AVal.strip, stripL, rd]
      refine hK14 _ _ (kPost_normal (hK13 _ _ ?_))
      replace h := ite_some h
      rcases h with ⟨hc15, h⟩ | ⟨hc15, h⟩
      · refine awp_cond_t rfl hc15 ?_
        refine awp_skip ?_
        refine kPost_normal (hK12 _ _ ?_)
        refine awp_seq_k ?_
        intro K16 hK16
        refine awp_block_k ?_
        intro K17 hK17
        refine awp_seq_k ?_
        intro K18 hK18
        replace h := bind_some h
        rcases h with ⟨x20, hx21, h⟩
        replace h := bind_some h
        rcases h with ⟨y22, hy23, h⟩
        refine awp_region' [] ?_
        intro K19 hK19
        simp (disch := omega) only [vmE, liE, eE, seval, deE, fxE, retOf, maskA, setVals, getVals, putA, stripAt, AVal.strip, stripL, rd, hc15, hx21, hx21]
        refine ACall.of (ref01_In_w hy23) ?_ ?_
        · first | (simp (disch := omega) only [vmE, liE, eE, seval, deE, fxE, retOf, maskA, setVals, getVals, putA, stripAt, AVal.strip, stripL, rd, hc15, hx21, hx21]) | rfl
        rintro _ ⟨m25, n24⟩ hn24 ⟨rfl, hm⟩
        simp (disch := omega) only [vmE, liE, eE, seval] at hn24 hm
        replace hm := hm.symm
        subst hm
        simp (disch := omega) only [vmE, liE, eE, seval, deE, fxE, retOf, maskA, setVals, getVals, putA, stripAt, AVal.strip, stripL, rd, hc15, hx21]
        refine hK19 _ _ (kPost_normal (hK18 _ _ ?_))
        replace h := ite_some h
        rcases h with ⟨hc26, h⟩ | ⟨hc26, h⟩
        · refine awp_cond_t rfl hc26 ?_
          refine awp_seq_k ?_
          intro K27 hK27
          refine awp_region' [] ?_
          intro K28 hK28
          simp (disch := omega) only [vmE, liE, eE, seval, deE, fxE, retOf, maskA, setVals, getVals, putA, stripAt, AVal.strip, stripL, rd, hc15, hx21, hc26]
          refine hK28 _ _ (kPost_normal (hK27 _ _ ?_))
          refine awp_ret ?_
          refine bPost_ret (kPost_ret (kPost_ret (bPost_ret (kPost_ret (hR _ _ _ (retPost_r (by simp (disch := omega) only [Try.results56, vmE, liE, eE, seval, deE, fxE, retOf, maskA, setVals, getVals, putA, stripAt, AVal.strip, stripL, rd, hc15, hx21, hc26]; rfl) (List.Sublist.refl _) ?_))))))
          cases h
          refine ⟨?_, ?_⟩
          · simp (disch := omega) only [vmE, liE, eE, seval, deE, fxE, retOf, maskA, setVals, getVals, putA, stripAt, AVal.strip, stripL, rd, hc15, hx21, hc26]
          · rfl
        · refine awp_cond_f rfl hc26 ?_
          refine awp_skip ?_
          refine bPost_normal (hK17 _ _ (kPost_normal (hK16 _ _ ?_)))
          refine awp_region' [] ?_
          intro K29 hK29
          simp (disch := omega) only [vmE, liE, eE, seval, deE, fxE, retOf, maskA, setVals, getVals, putA, stripAt, AVal.strip, stripL, rd, hc15, hx21, hc26]
          refine hK29 _ _ (kPost_normal (hJ30 k11 _ _ _ (Nat.lt_succ_self _) (List.Sublist.refl _) ?_ ⟨(wr .i64 (s5 + 1)), ?_, ?_, h⟩)) <;> simp (disch := omega) only [vmE, liE, eE, seval, deE, fxE, retOf, maskA, setVals, getVals, putA, stripAt, AVal.strip, stripL, rd, hc15, hx21, hc26]
      · refine awp_cond_f rfl hc15 ?_
        refine awp_exit ?_
        refine kPost_exit (kPost_exit (bPost_here (hK10 _ _ (kPost_normal (hJ34 _ _ _ (List.Sublist.refl _) ?_ ⟨(), ?_, ?_, h⟩))))) <;> simp (disch := omega) only [vmE, liE, eE, seval, deE, fxE, retOf, maskA, setVals, getVals, putA, stripAt, AVal.strip, stripL, rd, hc15]
theorem ref13_exponent_w {N : Nat} {a0 : (List UInt8)} {r : Int} (h : ref13_exponent N a0 = some r) {n : Nat} {m : List (Nat × List AVal)} :
    ACall vE 57 [.str a0] ⟨m, n⟩ fun r' st => r' = .int .i64 r ∧ st.m = m := by
  rw [ref13_exponent] at h
  refine acall_k Try.func57 rfl ?_
  intro R hR
  refine AWp.congr (by simp only [Try.ntmps57, liE, seval]; rfl) ?_
  refine awp_seq_k ?_
  intro K1 hK1
  refine awp_region' [] ?_
  intro K2 hK2
  simp (disch := omega) only [vmE, liE, eE, seval, deE, fxE, retOf, maskA, setVals, getVals, putA, stripAt, AVal.strip, stripL, rd]
  refine hK2 _ _ (kPost_normal (hK1 _ _ ?_))
  refine awp_seq_k ?_
  intro K3 hK3
  replace h := joinK_some h
  rcases h with ⟨k5, hk5, h⟩
  refine awp_join [6, 7, 8, 9, 10, 11, 12] [3] (fun vs st' => ∃ j4 : Bool, vs = [.bool j4] ∧ st'.m = m ∧ k5 j4 = some r) hK3 ?_ ?_
  · clear h
    rintro _ ⟨m6, n7⟩ ⟨j4, rfl, hm, h⟩
    simp only [] at hm
    replace hm := hm.symm
    subst hm
    replace h := hk5 _ _ h
    clear hk5 k5
    refine AWp.congr (by simp (disch := omega) only [vmE, liE, eE, seval, deE, fxE, retOf, maskA, setVals, getVals, putA, stripAt, AVal.strip, stripL, rd]; rfl) ?_
    refine awp_seq_k ?_
    intro K12 hK12
    replace h := joinK_some h
    rcases h with ⟨k14, hk14, h⟩
    refine awp_join [13, 14, 15, 16, 17, 18, 19, 20, 21] [0] (fun vs st' => ∃ j13 : (List UInt8), vs = [.str j13] ∧ st'.m = m ∧ k14 j13 = some r) hK12 ?_ ?_
    · clear h
      rintro _ ⟨m15, n16⟩ ⟨j13, rfl, hm, h⟩
      simp only [] at hm
      replace hm := hm.symm
      subst hm
      replace h := hk14 _ _ h
      clear hk14 k14
      refine AWp.congr (by simp (disch := omega) only [vmE, liE, eE, seval, deE, fxE, retOf, maskA, setVals, getVals, putA, stripAt, AVal.strip, stripL, rd]; rfl) ?_
      refine awp_seq_k ?_
      intro K35 hK35
      refine awp_region' [] ?_
      intro K36 hK36
      simp (disch := omega) only [vmE, liE, eE, seval, deE, fxE, retOf, maskA, setVals, getVals, putA, stripAt, AVal.strip, stripL, rd]
      refine hK36 _ _ (kPost_normal (hK35 _ _ ?_))
      refine awp_seq_k ?_
      intro K37 hK37
      replace h := joinK_some h
      rcases h with ⟨k39, hk39, h⟩
      refine awp_join [5, 22, 23, 24, 25, 26, 27, 28, 29, 30, 31, 32, 33, 34, 35, 36] [4] (fun vs st' => ∃ j38 : Int, vs = [.int .i64 j38] ∧ st'.m = m ∧ k39 j38 = some r) hK37 ?_ ?_
      · clear h
        rintro _ ⟨m40, n41⟩ ⟨j38, rfl, hm, h⟩
        simp only [] at hm
        replace hm := hm.symm
        subst hm
        replace h := hk39 _ _ h
        clear hk39 k39
        refine AWp.congr (by simp (disch := omega) only [vmE, liE, eE, seval, deE, fxE, retOf, maskA, setVals, getVals, putA, stripAt, AVal.strip, stripL, rd]; rfl) ?_
        refine awp_seq_k ?_
        intro K58 hK58
        refine awp_seq_k ?_
        intro K59 hK59
        refine awp_region' [] ?_
        intro K60 hK60
        simp (disch := omega) only [vmE, liE, eE, seval, deE, fxE, retOf, maskA, setVals, getVals, putA, stripAt, AVal.strip, stripL, rd]
        refine hK60 _ _ (kPost_normal (hK59 _ _ ?_))
        replace h := ite_some h
        rcases h with ⟨hc61, h⟩ | ⟨hc61, h⟩
        · refine awp_cond_t rfl hc61 ?_
          refine awp_seq_k ?_
          intro K62 hK62
          refine awp_region' [] ?_
          intro K63 hK63
          simp (disch := omega) only [vmE, liE, eE, seval, deE, fxE, retOf, maskA, setVals, getVals, putA, stripAt, AVal.strip, stripL, rd, hc61]
          refine hK63 _ _ (kPost_normal (hK62 _ _ ?_))
          refine awp_ret ?_
          refine kPost_ret (hR _ _ _ (retPost_r (by simp (disch := omega) only [Try.results57, vmE, liE, eE, seval, deE, fxE, retOf, maskA, setVals, getVals, putA, stripAt, AVal.strip, stripL, rd, hc61]; rfl) (List.Sublist.refl _) ?_))
          cases h
          refine ⟨?_, ?_⟩
          · simp (disch := omega) only [vmE, liE, eE, seval, deE, fxE, retOf, maskA, setVals, getVals, putA, stripAt, AVal.strip, stripL, rd, hc61]
          · rfl
        · refine awp_cond_f rfl hc61 ?_
          refine awp_skip ?_
          refine kPost_normal (hK58 _ _ ?_)
          refine awp_seq_k ?_
          intro K64 hK64
          refine awp_region' [] ?_
          intro K65 hK65
          simp (disch := omega) only [vmE, liE, eE, seval, deE, fxE, retOf, maskA, setVals, getVals, putA, stripAt, AVal.strip, stripL, rd, hc61]
          refine hK65 _ _ (kPost_normal (hK64 _ _ ?_))
          refine awp_ret ?_
          refine hR _ _ _ (retPost_r (by simp (disch := omega) only [Try.results57, vmE, liE, eE, seval, deE, fxE, retOf, maskA, setVals, getVals, putA, stripAt, AVal.strip, stripL, rd, hc61]; rfl) (List.Sublist.refl _) ?_)
          cases h
          refine ⟨?_, ?_⟩
          · simp (disch := omega) only [vmE, liE, eE, seval, deE, fxE, retOf, maskA, setVals, getVals, putA, stripAt, AVal.strip, stripL, rd, hc61]
          · rfl
      · intro J66 hJ66
        refine awp_seq_k ?_
        intro K42 hK42
        refine awp_region' [] ?_
        intro K43 hK43
        simp (disch := omega) only [vmE, liE, eE, seval, deE, fxE, retOf, maskA, setVals, getVals, putA, stripAt, AVal.strip, stripL, rd]
        refine hK43 _ _ (kPost_normal (hK42 _ _ ?_))
        refine awp_block_k ?_
        intro K44 hK44
        refine awp_loop_v [22, 23, 24, 25, 26, 27, 28, 29, 30, 31, 32, 33, 34, 35, 36] [4, 5] (fun k vs st' => ∃ (s4 : Int) (s5 : Int), vs = [.int .i64 s4, .int .i64 s5] ∧ st'.m = m ∧ ref13_exponent_L1 N j13 k39 k s4 s5 = some r) N ⟨0, 0, ?_, ?_, h⟩ ?_
        · simp (disch := omega) only [vmE, liE, eE, seval, deE, fxE, retOf, maskA, setVals, getVals, putA, stripAt, AVal.strip, stripL, rd]
        · simp (disch := omega) only [vmE, liE, eE, seval, deE, fxE, retOf, maskA, setVals, getVals, putA, stripAt, AVal.strip, stripL, rd]
        · clear h
          rintro k45 _ ⟨m57, nL0_1⟩ ⟨s4, s5, rfl, hm, h⟩ J56 hJ56
          simp only [] at hm
          replace hm := hm.symm
          subst hm
          rcases k45 with _ | k45
          · simp only [ref13_exponent_L1, reduceCtorEq] at h
          rw [ref13_exponent_L1] at h
          refine AWp.congr (by simp (disch := omega) only [vmE, liE, eE, seval, deE, fxE, retOf, maskA, setVals, getVals, putA, stripAt, AVal.strip, stripL, rd]; rfl) ?_
          refine awp_seq_k ?_
          intro K46 hK46
          refine awp_seq_k ?_
          intro K47 hK47
          refine awp_region' [] ?_
          intro K48 hK48
          simp (disch := omega) only [vmE, liE, eE, seval, deE, fxE, retOf, maskA, setVals, getVals, putA, stripAt, AVal.strip, stripL, rd]
          refine hK48 _ _ (kPost_normal (hK47 _ _ ?_))
          replace h := ite_some h
          rcases h with ⟨hc49, h⟩ | ⟨hc49, h⟩
          · refine awp_cond_t rfl hc49 ?_
            refine awp_skip ?_
            refine kPost_normal (hK46 _ _ ?_)
            refine awp_seq_k ?_
            intro K50 hK50
            refine awp_block_k ?_
            intro K51 hK51
            replace h := bind_some h
            rcases h with ⟨x53, hx54, h⟩
            refine awp_region' [] ?_
            intro K52 hK52
            simp (disch := omega) only [vmE, liE, eE, seval, deE, fxE, retOf, maskA, setVals, getVals, putA, stripAt, AVal.strip, stripL, rd, hc49, hx54]
            refine hK52 _ _ (bPost_normal (hK51 _ _ (kPost_normal (hK50 _ _ ?_))))
            refine awp_region' [] ?_
            intro K55 hK55
            simp (disch := omega) only [vmE, liE, eE, seval, deE, fxE, retOf, maskA, setVals, getVals, putA, stripAt, AVal.strip, stripL, rd, hc49, hx54]
            refine hK55 _ _ (kPost_normal (hJ56 k45 _ _ _ (Nat.lt_succ_self _) (List.Sublist.refl _) ?_ ⟨(if 1073741824 < (wr .i64 ((wr .i64 (s4 * 10)) + (wr .i64 (wr .u8 ((bord x53) - 48))))) then 1073741824 else (wr .i64 ((wr .i64 (s4 * 10)) + (wr .i64 (wr .u8 ((bord x53) - 48)))))), (wr .i64 (s5 + 1)), ?_, ?_, h⟩)) <;> simp (disch := omega) only [vmE, liE, eE, seval, deE, fxE, retOf, maskA, setVals, getVals, putA, stripAt, AVal.strip, stripL, rd, hc49, hx54]
          · refine awp_cond_f rfl hc49 ?_
            refine awp_exit ?_
            refine kPost_exit (kPost_exit (bPost_here (hK44 _ _ (kPost_normal (hJ66 _ _ _ (List.Sublist.refl _) ?_ ⟨s4, ?_, ?_, h⟩))))) <;> simp (disch := omega) only [vmE, liE, eE, seval, deE, fxE, retOf, maskA, setVals, getVals, putA, stripAt, AVal.strip, stripL, rd, hc49]
    · intro J67 hJ67
      refine awp_seq_k ?_
      intro K17 hK17
      replace h := joinK_some h
      rcases h with ⟨k19, hk19, h⟩
      refine awp_join [13, 14, 15, 16, 17, 18] [19] (fun vs st' => ∃ j18 : Bool, vs = [.bool j18] ∧ st'.m = m ∧ k19 j18 = some r) hK17 ?_ ?_
      · clear h
        rintro _ ⟨m20, n21⟩ ⟨j18, rfl, hm, h⟩
        simp only [] at hm
        replace hm := hm.symm
        subst hm
        replace h := hk19 _ _ h
        clear hk19 k19
        refine AWp.congr (by simp (disch := omega) only [vmE, liE, eE, seval, deE, fxE, retOf, maskA, setVals, getVals, putA, stripAt, AVal.strip, stripL, rd]; rfl) ?_
        replace h := ite_some h
        rcases h with ⟨hc30, h⟩ | ⟨hc30, h⟩
        · refine awp_cond_t rfl hc30 ?_
          replace h := bind_some h
          rcases h with ⟨x32, hx33, h⟩
          refine awp_region' [] ?_
          intro K31 hK31
          simp (disch := omega) only [vmE, liE, eE, seval, deE, fxE, retOf, maskA, setVals, getVals, putA, stripAt, AVal.strip, stripL, rd, hc30, hx33]
          refine hK31 _ _ (kPost_normal (hJ67 _ _ _ (List.Sublist.refl _) ?_ ⟨x32, ?_, ?_, h⟩)) <;> simp (disch := omega) only [vmE, liE, eE, seval, deE, fxE, retOf, maskA, setVals, getVals, putA, stripAt, AVal.strip, stripL, rd, hc30, hx33]
        · refine awp_cond_f rfl hc30 ?_
          refine awp_skip ?_
          refine kPost_normal (hJ67 _ _ _ (List.Sublist.refl _) ?_ ⟨a0, ?_, ?_, h⟩) <;> simp (disch := omega) only [vmE, liE, eE, seval, deE, fxE, retOf, maskA, setVals, getVals, putA, stripAt, AVal.strip, stripL, rd, hc30]
      · intro J34 hJ34
        replace h := ite_some h
        rcases h with ⟨hc23, h⟩ | ⟨hc23, h⟩
        · refine awp_region' [] ?_
          intro K22 hK22
          simp (disch := omega) only [vmE, liE, eE, seval, deE, fxE, retOf, maskA, setVals, getVals, putA, stripAt, AVal.strip, stripL, rd, hc23]
          refine hK22 _ _ (kPost_normal (hJ34 _ _ _ (List.Sublist.refl _) ?_ ⟨false, ?_, ?_, h⟩)) <;> simp (disch := omega) only [vmE, liE, eE, seval, deE, fxE, retOf, maskA, setVals, getVals, putA, stripAt, AVal.strip, stripL, rd, hc23]
        · replace h := bind_some h
          rcases h with ⟨x24, hx25, h⟩
          replace h := bind_some h
          rcases h with ⟨y26, hy27, h⟩
          refine awp_region' [] ?_
          intro K22 hK22
          simp (disch := omega) only [vmE, liE, eE, seval, deE, fxE, retOf, maskA, setVals, getVals, putA, stripAt, AVal.strip, stripL, rd, hc23, hx25, hc23, hx25]
          refine ACall.of (ref01_In_w hy27) ?_ ?_
          · first | (simp (disch := omega) only [vmE, liE, eE, seval, deE, fxE, retOf, maskA, setVals, getVals, putA, stripAt, AVal.strip, stripL, rd, hc23, hx25, hc23, hx25]) | rfl
          rintro _ ⟨m29, n28⟩ hn28 ⟨rfl, hm⟩
          simp (disch := omega) only [vmE, liE, eE, seval] at hn28 hm
          replace hm := hm.symm
          subst hm
          simp (disch := omega) only [vmE, liE, eE, seval, deE, fxE, retOf, maskA, setVals, getVals, putA, stripAt, AVal.strip, stripL, rd, hc23, hx25]
          refine hK22 _ _ (kPost_normal (hJ34 _ _ _ (List.Sublist.refl _) ?_ ⟨y26, ?_, ?_, h⟩)) <;> simp (disch := omega) only [vmE, liE, eE, seval, deE, fxE, retOf, maskA, setVals, getVals, putA, stripAt, AVal.strip, stripL, rd, hc23, hx25]
  · intro J68 hJ68
    replace h := ite_some h
    rcases h with ⟨hc9, h⟩ | ⟨hc9, h⟩
    · refine awp_region' [] ?_
      intro K8 hK8
      simp (disch := omega) only [vmE, liE, eE, seval, deE, fxE, retOf, maskA, setVals, getVals, putA, stripAt, AVal.strip, stripL, rd, hc9]
      refine hK8 _ _ (kPost_normal (hJ68 _ _ _ (List.Sublist.refl _) ?_ ⟨false, ?_, ?_, h⟩)) <;> simp (disch := omega) only [vmE, liE, eE, seval, deE, fxE, retOf, maskA, setVals, getVals, putA, stripAt, AVal.strip, stripL, rd, hc9]
    · replace h := bind_some h
      rcases h with ⟨x10, hx11, h⟩
      refine awp_region' [] ?_
      intro K8 hK8
      simp (disch := omega) only [vmE, liE, eE, seval, deE, fxE, retOf, maskA, setVals, getVals, putA, stripAt, AVal.strip, stripL, rd, hc9, hx11]
      refine hK8 _ _ (kPost_normal (hJ68 _ _ _ (List.Sublist.refl _) ?_ ⟨((bord x10) == 45), ?_, ?_, h⟩)) <;> simp (disch := omega) only [vmE, liE, eE, seval, deE, fxE, retOf, maskA, setVals, getVals, putA, stripAt, AVal.strip, stripL, rd, hc9, hx11]
theorem ref13_white_w {N : Nat} {a0 : Int} {r : Bool} (h : ref13_white N a0 = some r) {n : Nat} {m : List (Nat × List AVal)} :
    ACall vE 60 [.int .u8 a0] ⟨m, n⟩ fun r' st => r' = .bool r ∧ st.m = m := by
  rw [ref13_white] at h
  refine acall_k Try.func60 rfl ?_
  intro R hR
  refine AWp.congr (by simp only [Try.ntmps60, liE, seval]; rfl) ?_
  refine awp_seq_k ?_
  intro K1 hK1
  refine awp_region' [] ?_
  intro K2 hK2
  simp (disch := omega) only [vmE, liE, eE, seval, deE, fxE, retOf, maskA, setVals, getVals, putA, stripAt, AVal.strip, stripL, rd]
  refine hK2 _ _ (kPost_normal (hK1 _ _ ?_))
  refine awp_seq_k ?_
  intro K3 hK3
  replace h := bind_some h
  rcases h with ⟨y5, hy6, h⟩
  refine awp_region' [] ?_
  intro K4 hK4
  simp (disch := omega) only [vmE, liE, eE, seval, deE, fxE, retOf, maskA, setVals, getVals, putA, stripAt, AVal.strip, stripL, rd]
  refine ACall.of (ref01_In_w hy6) ?_ ?_
  · first | (simp (disch := omega) only [vmE, liE, eE, seval, deE, fxE, retOf, maskA, setVals, getVals, putA, stripAt, AVal.strip, stripL, rd]) | rfl
  rintro _ ⟨m8, n7⟩ hn7 ⟨rfl, hm⟩
  simp (disch := omega) only [vmE, liE, eE, seval] at hn7 hm
  replace hm := hm.symm
  subst hm
  simp (disch := omega) only [vmE, liE, eE, seval, deE, fxE, retOf, maskA, setVals, getVals, putA, stripAt, AVal.strip, stripL, rd]
  refine hK4 _ _ (kPost_normal (hK3 _ _ ?_))
  refine awp_ret ?_
  refine hR _ _ _ (retPost_r (by simp (disch := omega) only [Try.results60, vmE, liE, eE, seval, deE, fxE, retOf, maskA, setVals, getVals, putA, stripAt, AVal.strip, stripL, rd]; rfl) (List.Sublist.refl _) ?_)
  cases h
  refine ⟨?_, ?_⟩
  · simp (disch := omega) only [vmE, liE, eE, seval, deE, fxE, retOf, maskA, setVals, getVals, putA, stripAt, AVal.strip, stripL, rd]
  · rfl
theorem ref01_IsHex_w {N : Nat} {a0 : Int} {r : Bool} (h : ref01_IsHex N a0 = some r) {n : Nat} {m : List (Nat × List AVal)} :
    ACall vE 74 [.int .u8 a0] ⟨m, n⟩ fun r' st => r' = .bool r ∧ st.m = m := by
  rw [ref01_IsHex] at h
  refine acall_k Try.func74 rfl ?_
  intro R hR
  refine AWp.congr (by simp only [Try.ntmps74, liE, seval]; rfl) ?_
  refine awp_seq_k ?_
  intro K1 hK1
  refine awp_region' [] ?_
  intro K2 hK2
  simp (disch := omega) only [vmE, liE, eE, seval, deE, fxE, retOf, maskA, setVals, getVals, putA, stripAt, AVal.strip, stripL, rd]
  refine hK2 _ _ (kPost_normal (hK1 _ _ ?_))
  refine awp_seq_k ?_
  intro K3 hK3
  replace h := bind_some h
  rcases h with ⟨y5, hy6, h⟩
  replace h := ite_some h
  rcases h with ⟨hc9, h⟩ | ⟨hc9, h⟩
  · refine awp_region' [] ?_
    intro K4 hK4
    simp (disch := omega) only [vmE, liE, eE, seval, deE, fxE, retOf, maskA, setVals, getVals, putA, stripAt, AVal.strip, stripL, rd, hc9]
    refine ACall.of (ref01_IsDigit_w hy6) ?_ ?_
    · first | (simp (disch := omega) only [vmE, liE, eE, seval, deE, fxE, retOf, maskA, setVals, getVals, putA, stripAt, AVal.strip, stripL, rd, hc9]) | rfl
    rintro _ ⟨m8, n7⟩ hn7 ⟨rfl, hm⟩
    simp (disch := omega) only [vmE, liE, eE, seval] at hn7 hm
    replace hm := hm.symm
    subst hm
    simp (disch := omega) only [vmE, liE, eE, seval, deE, fxE, retOf, maskA, setVals, getVals, putA, stripAt, AVal.strip, stripL, rd, hc9]
    refine hK4 _ _ (kPost_normal (hK3 _ _ ?_))
    refine awp_ret ?_
    refine hR _ _ _ (retPost_r (by simp (disch := omega) only [Try.results74, vmE, liE, eE, seval, deE, fxE, retOf, maskA, setVals, getVals, putA, stripAt, AVal.strip, stripL, rd, hc9]; rfl) (List.Sublist.refl _) ?_)
    cases h
    refine ⟨?_, ?_⟩
    · simp (disch := omega) only [vmE, liE, eE, seval, deE, fxE, retOf, maskA, setVals, getVals, putA, stripAt, AVal.strip, stripL, rd, hc9]
    · rfl
  · replace h := ite_some h
    rcases h with ⟨hc10, h⟩ | ⟨hc10, h⟩
    · replace h := ite_some h
      rcases h with ⟨hc11, h⟩ | ⟨hc11, h⟩
      · refine awp_region' [] ?_
        intro K4 hK4
        simp (disch := omega) only [vmE, liE, eE, seval, deE, fxE, retOf, maskA, setVals, getVals, putA, stripAt, AVal.strip, stripL, rd, hc9, hc10, hc11]
        refine ACall.of (ref01_IsDigit_w hy6) ?_ ?_
        · first | (simp (disch := omega) only [vmE, liE, eE, seval, deE, fxE, retOf, maskA, setVals, getVals, putA, stripAt, AVal.strip, stripL, rd, hc9, hc10, hc11]) | rfl
        rintro _ ⟨m8, n7⟩ hn7 ⟨rfl, hm⟩
        simp (disch := omega) only [vmE, liE, eE, seval] at hn7 hm
        replace hm := hm.symm
        subst hm
        simp (disch := omega) only [vmE, liE, eE, seval, deE, fxE, retOf, maskA, setVals, getVals, putA, stripAt, AVal.strip, stripL, rd, hc9, hc10, hc11]
        refine hK4 _ _ (kPost_normal (hK3 _ _ ?_))
        refine awp_ret ?_
        refine hR _ _ _ (retPost_r (by simp (disch := omega) only [Try.results74, vmE, liE, eE, seval, deE, fxE, retOf, maskA, setVals, getVals, putA, stripAt, AVal.strip, stripL, rd, hc9, hc10, hc11]; rfl) (List.Sublist.refl _) ?_)
        cases h
        refine ⟨?_, ?_⟩
        · simp (disch := omega) only [vmE, liE, eE, seval, deE, fxE, retOf, maskA, setVals, getVals, putA, stripAt, AVal.strip, stripL, rd, hc9, hc10, hc11]
        · rfl
      · replace h := ite_some h
        rcases h with ⟨hc12, h⟩ | ⟨hc12, h⟩
        · refine awp_region' [] ?_
          intro K4 hK4
          simp (disch := omega) only [vmE, liE, eE, seval, deE, fxE, retOf, maskA, setVals, getVals, putA, stripAt, AVal.strip, stripL, rd, hc9, hc10, hc11, hc12]
          refine ACall.of (ref01_IsDigit_w hy6) ?_ ?_
          · first | (simp (disch := omega) only [vmE, liE, eE, seval, deE, fxE, retOf, maskA, setVals, getVals, putA, stripAt, AVal.strip, stripL, rd, hc9, hc10, hc11, hc12]) | rfl
          rintro _ ⟨m8, n7⟩ hn7 ⟨rfl, hm⟩
          simp (disch := omega) only [vmE, liE, eE, seval] at hn7 hm
          replace hm := hm.symm
          subst hm
          simp (disch := omega) only [vmE, liE, eE, seval, deE, fxE, retOf, maskA, setVals, getVals, putA, stripAt, AVal.strip, stripL, rd, hc9, hc10, hc11, hc12]
          refine hK4 _ _ (kPost_normal (hK3 _ _ ?_))
          refine awp_ret ?_
          refine hR _ _ _ (retPost_r (by simp (disch := omega) only [Try.results74, vmE, liE, eE, seval, deE, fxE, retOf, maskA, setVals, getVals, putA, stripAt, AVal.strip, stripL, rd, hc9, hc10, hc11, hc12]; rfl) (List.Sublist.refl _) ?_)
          cases h
          refine ⟨?_, ?_⟩
          · simp (disch := omega) only [vmE, liE, eE, seval, deE, fxE, retOf, maskA, setVals, getVals, putA, stripAt, AVal.strip, stripL, rd, hc9, hc10, hc11, hc12]
          · rfl
        · refine awp_region' [] ?_
          intro K4 hK4
          simp (disch := omega) only [vmE, liE, eE, seval, deE, fxE, retOf, maskA, setVals, getVals, putA, stripAt, AVal.strip, stripL, rd, hc9, hc10, hc11, hc12]
          refine ACall.of (ref01_IsDigit_w hy6) ?_ ?_
          · first | (simp (disch := omega) only [vmE, liE, eE, seval, deE, fxE, retOf, maskA, setVals, getVals, putA, stripAt, AVal.strip, stripL, rd, hc9, hc10, hc11, hc12]) | rfl
          rintro _ ⟨m8, n7⟩ hn7 ⟨rfl, hm⟩
          simp (disch := omega) only [vmE, liE, eE, seval] at hn7 hm
          replace hm := hm.symm
          subst hm
          simp (disch := omega) only [vmE, liE, eE, seval, deE, fxE, retOf, maskA, setVals, getVals, putA, stripAt, AVal.strip, stripL, rd, hc9, hc10, hc11, hc12]
          refine hK4 _ _ (kPost_normal (hK3 _ _ ?_))
          refine awp_ret ?_
          refine hR _ _ _ (retPost_r (by simp (disch := omega) only [Try.results74, vmE, liE, eE, seval, deE, fxE, retOf, maskA, setVals, getVals, putA, stripAt, AVal.strip, stripL, rd, hc9, hc10, hc11, hc12]; rfl) (List.Sublist.refl _) ?_)
          cases h
          refine ⟨?_, ?_⟩
          · simp (disch := omega) only [vmE, liE, eE, seval, deE, fxE, retOf, maskA, setVals, getVals, putA, stripAt, AVal.strip, stripL, rd, hc9, hc10, hc11, hc12]
          · rfl
    · replace h := ite_some h
      rcases h with ⟨hc13, h⟩ | ⟨hc13, h⟩
      · refine awp_region' [] ?_
        intro K4 hK4
        simp (disch := omega) only [vmE, liE, eE, seval, deE, fxE, retOf, maskA, setVals, getVals, putA, stripAt, AVal.strip, stripL, rd, hc9, hc10, hc13]
        refine ACall.of (ref01_IsDigit_w hy6) ?_ ?_
        · first | (simp (disch := omega) only [vmE, liE, eE, seval, deE, fxE, retOf, maskA, setVals, getVals, putA, stripAt, AVal.strip, stripL, rd, hc9, hc10, hc13]) | rfl
        rintro _ ⟨m8, n7⟩ hn7 ⟨rfl, hm⟩
        simp (disch := omega) only [vmE, liE, eE, seval] at hn7 hm
        replace hm := hm.symm
        subst hm
        simp (disch := omega) only [vmE, liE, eE, seval, deE, fxE, retOf, maskA, setVals, getVals, putA, stripAt, AVal.strip, stripL, rd, hc9, hc10, hc13]
        refine hK4 _ _ (kPost_normal (hK3 _ _ ?_))
        refine awp_ret ?_
        refine hR _ _ _ (retPost_r (by simp (disch := omega) only [Try.results74, vmE, liE, eE, seval, deE, fxE, retOf, maskA, setVals, getVals, putA, stripAt, AVal.strip, stripL, rd, hc9, hc10, hc13]; rfl) (List.Sublist.refl _) ?_)
        cases h
        refine ⟨?_, ?_⟩
        · simp (disch := omega) only [vmE, liE, eE, seval, deE, fxE, retOf, maskA, setVals, getVals, putA, stripAt, AVal.strip, stripL, rd, hc9, hc10, hc13]
        · rfl
      · refine awp_region' [] ?_
        intro K4 hK4
        simp (disch := omega) only [vmE, liE, eE, seval, deE, fxE, retOf, maskA, setVals, getVals, putA, stripAt, AVal.strip, stripL, rd, hc9, hc10, hc13]
        refine ACall.of (ref01_IsDigit_w hy6) ?_ ?_
        · first | (simp (disch := omega) only [vmE, liE, eE, seval, deE, fxE, retOf, maskA, setVals, getVals, putA, stripAt, AVal.strip, stripL, rd, hc9, hc10, hc13]) | rfl
        rintro _ ⟨m8, n7⟩ hn7 ⟨rfl, hm⟩
        simp (disch := omega) only [vmE, liE, eE, seval] at hn7 hm
        replace hm := hm.symm
        subst hm
        simp (disch := omega) only [vmE, liE, eE, seval, deE, fxE, retOf, maskA, setVals, getVals, putA, stripAt, AVal.strip, stripL, rd, hc9, hc10, hc13]
        refine hK4 _ _ (kPost_normal (hK3 _ _ ?_))
        refine awp_ret ?_
        refine hR _ _ _ (retPost_r (by simp (disch := omega) only [Try.results74, vmE, liE, eE, seval, deE, fxE, retOf, maskA, setVals, getVals, putA, stripAt, AVal.strip, stripL, rd, hc9, hc10, hc13]; rfl) (List.Sublist.refl _) ?_)
        cases h
        refine ⟨?_, ?_⟩
        · simp (disch := omega) only [vmE, liE, eE, seval, deE, fxE, retOf, maskA, setVals, getVals, putA, stripAt, AVal.strip, stripL, rd, hc9, hc10, hc13]
        · rfl
end Go.Proofs.Ytdbeiialamganaa
