/- That the code computes these functions; written by decomp.py. -/
import Derived.Test.YtdbeiialamganaaVmFacts
import Derived.Test.YtdbeiialamganaaDefs
import Derived.Test.YtdbeiialamganaaVMSets
import Derived.Test.YtdbeiialamganaaW0
import Derived.Test.YtdbeiialamganaaW4
set_option linter.unusedVariables false
set_option linter.unusedSimpArgs false
set_option maxHeartbeats 4000000
set_option maxRecDepth 100000
set_option linter.defProp false
namespace Go.Proofs.Ytdbeiialamganaa
open Go.VM
theorem ref04_parse_w {N : Nat} {a0 : (List UInt8)} {a1 : Int} {a2 : Int} {r : Int × Int} (h : ref04_parse N a0 a1 a2 = some r) {n : Nat} {m : List (Nat × List AVal)} :
    ACall vE 73 [.str a0, .int .u64 a1, .int .u64 a2] ⟨m, n⟩ fun r' st => r' = .tuple [.int .u64 r.1, .int .i64 r.2] ∧ st.m = m := by
  rw [ref04_parse] at h
  refine acall_k Try.func73 rfl ?_
  intro R hR
  refine AWp.congr (by simp only [Try.ntmps73, liE, seval]; rfl) ?_
  refine awp_seq_k ?_
  intro K1 hK1
  refine awp_region' [] ?_
  intro K2 hK2
  simp (disch := omega) only [vmE, liE, eE, seval, deE, fxE, retOf, maskA, setVals, getVals, putA, stripAt, AVal.strip, stripL, rd]
  refine hK2 _ _ (kPost_normal (hK1 _ _ ?_))
  refine awp_seq_k ?_
  intro K3 hK3
  refine awp_seq_k ?_
  intro K4 hK4
  refine awp_region' [] ?_
  intro K5 hK5
  simp (disch := omega) only [vmE, liE, eE, seval, deE, fxE, retOf, maskA, setVals, getVals, putA, stripAt, AVal.strip, stripL, rd]
  refine hK5 _ _ (kPost_normal (hK4 _ _ ?_))
  replace h := ite_some h
  rcases h with ⟨hc6, h⟩ | ⟨hc6, h⟩
  · refine awp_cond_t rfl hc6 ?_
    refine awp_seq_k ?_
    intro K7 hK7
    refine awp_region' [] ?_
    intro K8 hK8
    simp (disch := omega) only [vmE, liE, eE, seval, deE, fxE, retOf, maskA, setVals, getVals, putA, stripAt, AVal.strip, stripL, rd, hc6]
    refine hK8 _ _ (kPost_normal (hK7 _ _ ?_))
    refine awp_ret ?_
    refine kPost_ret (hR _ _ _ (retPost_r (by simp (disch := omega) only [Try.results73, vmE, liE, eE, seval, deE, fxE, retOf, maskA, setVals, getVals, putA, stripAt, AVal.strip, stripL, rd, hc6]; rfl) (List.Sublist.refl _) ?_))
    cases h
    refine ⟨?_, ?_⟩
    · simp (disch := omega) only [vmE, liE, eE, seval, deE, fxE, retOf, maskA, setVals, getVals, putA, stripAt, AVal.strip, stripL, rd, hc6]
    · rfl
  · refine awp_cond_f rfl hc6 ?_
    refine awp_skip ?_
    refine kPost_normal (hK3 _ _ ?_)
    refine awp_seq_k ?_
    intro K9 hK9
    replace h := joinK_some h
    rcases h with ⟨k11, hk11, h⟩
    refine awp_join [6, 7, 8, 14, 15, 16, 17, 18, 19, 20, 21, 22, 23, 24, 25, 26, 27, 28, 29, 30, 31, 32, 33, 34, 35, 36, 37, 38, 39] [] (fun vs st' => ∃ j10 : Unit, vs = [] ∧ st'.m = m ∧ k11 j10 = some r) hK9 ?_ ?_
    · clear h
      rintro _ ⟨m12, n13⟩ ⟨j10, rfl, hm, h⟩
      simp only [] at hm
      replace hm := hm.symm
      subst hm
      replace h := hk11 _ _ h
      clear hk11 k11
      refine AWp.congr (by simp (disch := omega) only [vmE, liE, eE, seval, deE, fxE, retOf, maskA, setVals, getVals, putA, stripAt, AVal.strip, stripL, rd]; rfl) ?_
      refine awp_seq_k ?_
      intro K57 hK57
      refine awp_region' [] ?_
      intro K58 hK58
      simp (disch := omega) only [vmE, liE, eE, seval, deE, fxE, retOf, maskA, setVals, getVals, putA, stripAt, AVal.strip, stripL, rd, hc6]
      refine hK58 _ _ (kPost_normal (hK57 _ _ ?_))
      refine awp_seq_k ?_
      intro K59 hK59
      replace h := joinK_some h
      rcases h with ⟨k61, hk61, h⟩
      refine awp_join [6, 7, 10, 11, 40, 41, 42, 43, 44, 45, 46, 47, 48, 49, 50, 51, 52, 53, 54, 55, 56, 57, 58, 59, 60, 61, 62, 63, 64, 65, 66, 67, 68, 69, 70, 71, 72, 73, 74, 75, 76, 77, 78, 79, 80, 81, 82, 83, 84, 85] [9] (fun vs st' => ∃ j60 : Int, vs = [.int .u64 j60] ∧ st'.m = m ∧ k61 j60 = some r) hK59 ?_ ?_
      · clear h
        rintro _ ⟨m62, n63⟩ ⟨j60, rfl, hm, h⟩
        simp only [] at hm
        replace hm := hm.symm
        subst hm
        replace h := hk61 _ _ h
        clear hk61 k61
        refine AWp.congr (by simp (disch := omega) only [vmE, liE, eE, seval, deE, fxE, retOf, maskA, setVals, getVals, putA, stripAt, AVal.strip, stripL, rd]; rfl) ?_
        refine awp_seq_k ?_
        intro K106 hK106
        refine awp_region' [] ?_
        intro K107 hK107
        simp (disch := omega) only [vmE, liE, eE, seval, deE, fxE, retOf, maskA, setVals, getVals, putA, stripAt, AVal.strip, stripL, rd, hc6]
        refine hK107 _ _ (kPost_normal (hK106 _ _ ?_))
        refine awp_ret ?_
        refine hR _ _ _ (retPost_r (by simp (disch := omega) only [Try.results73, vmE, liE, eE, seval, deE, fxE, retOf, maskA, setVals, getVals, putA, stripAt, AVal.strip, stripL, rd, hc6]; rfl) (List.Sublist.refl _) ?_)
        cases h
        refine ⟨?_, ?_⟩
        · simp (disch := omega) only [vmE, liE, eE, seval, deE, fxE, retOf, maskA, setVals, getVals, putA, stripAt, AVal.strip, stripL, rd, hc6]
        · rfl
      · intro J108 hJ108
        refine awp_seq_k ?_
        intro K64 hK64
        refine awp_region' [] ?_
        intro K65 hK65
        simp (disch := omega) only [vmE, liE, eE, seval, deE, fxE, retOf, maskA, setVals, getVals, putA, stripAt, AVal.strip, stripL, rd, hc6]
        refine hK65 _ _ (kPost_normal (hK64 _ _ ?_))
        refine awp_block_k ?_
        intro K66 hK66
        refine awp_loop_v [6, 7, 11, 40, 41, 42, 43, 44, 45, 46, 47, 48, 49, 50, 51, 52, 53, 54, 55, 56, 57, 58, 59, 60, 61, 62, 63, 64, 65, 66, 67, 68, 69, 70, 71, 72, 73, 74, 75, 76, 77, 78, 79, 80, 81, 82, 83, 84, 85] [9, 10] (fun k vs st' => ∃ (s9 : Int) (s10 : Int), vs = [.int .u64 s9, .int .i64 s10] ∧ st'.m = m ∧ ref04_parse_L2 N a0 a1 a2 k61 k s9 s10 = some r) N ⟨0, 0, ?_, ?_, h⟩ ?_
        · simp (disch := omega) only [vmE, liE, eE, seval, deE, fxE, retOf, maskA, setVals, getVals, putA, stripAt, AVal.strip, stripL, rd, hc6]
        · simp (disch := omega) only [vmE, liE, eE, seval, deE, fxE, retOf, maskA, setVals, getVals, putA, stripAt, AVal.strip, stripL, rd, hc6]
        · clear h
          rintro k67 _ ⟨m105, nL1_1⟩ ⟨s9, s10, rfl, hm, h⟩ J104 hJ104
          simp only [] at hm
          replace hm := hm.symm
          subst hm
          rcases k67 with _ | k67
          · simp only [ref04_parse_L2, reduceCtorEq] at h
          rw [ref04_parse_L2] at h
          refine AWp.congr (by simp (disch := omega) only [vmE, liE, eE, seval, deE, fxE, retOf, maskA, setVals, getVals, putA, stripAt, AVal.strip, stripL, rd]; rfl) ?_
          refine awp_seq_k ?_
          intro K68 hK68
          refine awp_seq_k ?_
          intro K69 hK69
          refine awp_region' [] ?_
          intro K70 hK70
          simp (disch := omega) only [vmE, liE, eE, seval, deE, fxE, retOf, maskA, setVals, getVals, putA, stripAt, AVal.strip, stripL, rd, hc6]
          refine hK70 _ _ (kPost_normal (hK69 _ _ ?_))
          replace h := ite_some h
          rcases h with ⟨hc71, h⟩ | ⟨hc71, h⟩
          · refine awp_cond_t rfl hc71 ?_
            refine awp_skip ?_
            refine kPost_normal (hK68 _ _ ?_)
            refine awp_seq_k ?_
            intro K72 hK72
            refine awp_block_k ?_
            intro K73 hK73
            refine awp_seq_k ?_
            intro K74 hK74
            replace h := bind_some h
            rcases h with ⟨x76, hx77, h⟩
            refine awp_region' [] ?_
            intro K75 hK75
            simp (disch := omega) only [vmE, liE, eE, seval, deE, fxE, retOf, maskA, setVals, getVals, putA, stripAt, AVal.strip, stripL, rd, hc6, hc71, hx77]
            refine hK75 _ _ (kPost_normal (hK74 _ _ ?_))
            refine awp_seq_k ?_
            intro K78 hK78
            replace h := joinK_some h
            rcases h with ⟨k80, hk80, h⟩
            refine awp_join [51, 52, 53, 54, 55, 56, 57, 58, 59, 60, 61] [11] (fun vs st' => ∃ j79 : Int, vs = [.int .u64 j79] ∧ st'.m = m ∧ k80 j79 = some r) hK78 ?_ ?_
            · clear h
              rintro _ ⟨m81, n82⟩ ⟨j79, rfl, hm, h⟩
              simp only [] at hm
              replace hm := hm.symm
              subst hm
              replace h := hk80 _ _ h
              clear hk80 k80
              refine AWp.congr (by simp (disch := omega) only [vmE, liE, eE, seval, deE, fxE, retOf, maskA, setVals, getVals, putA, stripAt, AVal.strip, stripL, rd]; rfl) ?_
              refine awp_seq_k ?_
              intro K87 hK87
              refine awp_seq_k ?_
              intro K88 hK88
              replace h := joinK_some h
              rcases h with ⟨k90, hk90, h⟩
              refine awp_join [62, 63, 64, 65, 66, 67, 68, 69, 70, 71, 72, 73, 74, 75, 76, 77, 78, 79] [80] (fun vs st' => ∃ j89 : Bool, vs = [.bool j89] ∧ st'.m = m ∧ k90 j89 = some r) hK88 ?_ ?_
              · clear h
                rintro _ ⟨m91, n92⟩ ⟨j89, rfl, hm, h⟩
                simp only [] at hm
                replace hm := hm.symm
                subst hm
                replace h := hk90 _ _ h
                clear hk90 k90
                refine AWp.congr (by simp (disch := omega) only [vmE, liE, eE, seval, deE, fxE, retOf, maskA, setVals, getVals, putA, stripAt, AVal.strip, stripL, rd]; rfl) ?_
                replace h := ite_some h
                rcases h with ⟨hc97, h⟩ | ⟨hc97, h⟩
                · refine awp_cond_t rfl hc97 ?_
                  refine awp_seq_k ?_
                  intro K98 hK98
                  refine awp_region' [] ?_
                  intro K99 hK99
                  simp (disch := omega) only [vmE, liE, eE, seval, deE, fxE, retOf, maskA, setVals, getVals, putA, stripAt, AVal.strip, stripL, rd, hc6, hc71, hx77, hc97]
                  refine hK99 _ _ (kPost_normal (hK98 _ _ ?_))
                  refine awp_ret ?_
                  refine kPost_ret (bPost_ret (kPost_ret (kPost_ret (bPost_ret (kPost_ret (hR _ _ _ (retPost_r (by simp (disch := omega) only [Try.results73, vmE, liE, eE, seval, deE, fxE, retOf, maskA, setVals, getVals, putA, stripAt, AVal.strip, stripL, rd, hc6, hc71, hx77, hc97]; rfl) (List.Sublist.refl _) ?_)))))))
                  cases h
                  refine ⟨?_, ?_⟩
                  · simp (disch := omega) only [vmE, liE, eE, seval, deE, fxE, retOf, maskA, setVals, getVals, putA, stripAt, AVal.strip, stripL, rd, hc6, hc71, hx77, hc97]
                  · rfl
                · refine awp_cond_f rfl hc97 ?_
                  refine awp_skip ?_
                  refine kPost_normal (hK87 _ _ ?_)
                  refine awp_region' [] ?_
                  intro K100 hK100
                  simp (disch := omega) only [vmE, liE, eE, seval, deE, fxE, retOf, maskA, setVals, getVals, putA, stripAt, AVal.strip, stripL, rd, hc6, hc71, hx77, hc97]
                  refine hK100 _ _ (bPost_normal (hK73 _ _ (kPost_normal (hK72 _ _ ?_))))
                  refine awp_region' [] ?_
                  intro K101 hK101
                  simp (disch := omega) only [vmE, liE, eE, seval, deE, fxE, retOf, maskA, setVals, getVals, putA, stripAt, AVal.strip, stripL, rd, hc6, hc71, hx77, hc97]
                  refine hK101 _ _ (kPost_normal (hJ104 k67 _ _ _ (Nat.lt_succ_self _) (List.Sublist.refl _) ?_ ⟨(wr .u64 ((wr .u64 (s9 * a1)) + j79)), (wr .i64 (s10 + 1)), ?_, ?_, h⟩)) <;> simp (disch := omega) only [vmE, liE, eE, seval, deE, fxE, retOf, maskA, setVals, getVals, putA, stripAt, AVal.strip, stripL, rd, hc6, hc71, hx77, hc97]
              · intro J102 hJ102
                replace h := grd_some h
                rcases h with ⟨hg94, h⟩
                try simp only [liE, seval] at hg94
                replace h := ite_some h
                rcases h with ⟨hc95, h⟩ | ⟨hc95, h⟩
                · refine awp_region' [] ?_
                  intro K93 hK93
                  simp (disch := omega) only [vmE, liE, eE, seval, deE, fxE, retOf, maskA, setVals, getVals, putA, stripAt, AVal.strip, stripL, rd, hc6, hc71, hx77, hg94, hc95]
                  refine hK93 _ _ (kPost_normal (hJ102 _ _ _ (List.Sublist.refl _) ?_ ⟨true, ?_, ?_, h⟩)) <;> simp (disch := omega) only [vmE, liE, eE, seval, deE, fxE, retOf, maskA, setVals, getVals, putA, stripAt, AVal.strip, stripL, rd, hc6, hc71, hx77, hg94, hc95]
                · replace h := ite_some h
                  rcases h with ⟨hc96, h⟩ | ⟨hc96, h⟩
                  · refine awp_region' [] ?_
                    intro K93 hK93
                    simp (disch := omega) only [vmE, liE, eE, seval, deE, fxE, retOf, maskA, setVals, getVals, putA, stripAt, AVal.strip, stripL, rd, hc6, hc71, hx77, hg94, hc95, hc96]
                    refine hK93 _ _ (kPost_normal (hJ102 _ _ _ (List.Sublist.refl _) ?_ ⟨true, ?_, ?_, h⟩)) <;> simp (disch := omega) only [vmE, liE, eE, seval, deE, fxE, retOf, maskA, setVals, getVals, putA, stripAt, AVal.strip, stripL, rd, hc6, hc71, hx77, hg94, hc95, hc96]
                  · refine awp_region' [] ?_
                    intro K93 hK93
                    simp (disch := omega) only [vmE, liE, eE, seval, deE, fxE, retOf, maskA, setVals, getVals, putA, stripAt, AVal.strip, stripL, rd, hc6, hc71, hx77, hg94, hc95, hc96]
                    refine hK93 _ _ (kPost_normal (hJ102 _ _ _ (List.Sublist.refl _) ?_ ⟨(decide (j79 > a2)), ?_, ?_, h⟩)) <;> simp (disch := omega) only [vmE, liE, eE, seval, deE, fxE, retOf, maskA, setVals, getVals, putA, stripAt, AVal.strip, stripL, rd, hc6, hc71, hx77, hg94, hc95, hc96]
            · intro J103 hJ103
              refine awp_seq_k ?_
              intro K83 hK83
              refine awp_region' [] ?_
              intro K84 hK84
              simp (disch := omega) only [vmE, liE, eE, seval, deE, fxE, retOf, maskA, setVals, getVals, putA, stripAt, AVal.strip, stripL, rd, hc6, hc71, hx77]
              refine hK84 _ _ (kPost_normal (hK83 _ _ ?_))
              replace h := ite_some h
              rcases h with ⟨hc85, h⟩ | ⟨hc85, h⟩
              · refine awp_cond_t rfl hc85 ?_
                refine awp_region' [] ?_
                intro K86 hK86
                simp (disch := omega) only [vmE, liE, eE, seval, deE, fxE, retOf, maskA, setVals, getVals, putA, stripAt, AVal.strip, stripL, rd, hc6, hc71, hx77, hc85]
                refine hK86 _ _ (kPost_normal (hJ103 _ _ _ (List.Sublist.refl _) ?_ ⟨(wr .u64 ((wr .u64 ((wr .u64 (borI .u8 (bord x76) 32)) - 97)) + 10)), ?_, ?_, h⟩)) <;> simp (disch := omega) only [vmE, liE, eE, seval, deE, fxE, retOf, maskA, setVals, getVals, putA, stripAt, AVal.strip, stripL, rd, hc6, hc71, hx77, hc85]
              · refine awp_cond_f rfl hc85 ?_
                refine awp_skip ?_
                refine kPost_normal (hJ103 _ _ _ (List.Sublist.refl _) ?_ ⟨(wr .u64 (wr .u8 ((bord x76) - 48))), ?_, ?_, h⟩) <;> simp (disch := omega) only [vmE, liE, eE, seval, deE, fxE, retOf, maskA, setVals, getVals, putA, stripAt, AVal.strip, stripL, rd, hc6, hc71, hx77, hc85]
          · refine awp_cond_f rfl hc71 ?_
            refine awp_exit ?_
            refine kPost_exit (kPost_exit (bPost_here (hK66 _ _ (kPost_normal (hJ108 _ _ _ (List.Sublist.refl _) ?_ ⟨s9, ?_, ?_, h⟩))))) <;> simp (disch := omega) only [vmE, liE, eE, seval, deE, fxE, retOf, maskA, setVals, getVals, putA, stripAt, AVal.strip, stripL, rd, hc6, hc71]
    · intro J109 hJ109
      refine awp_seq_k ?_
      intro K14 hK14
      refine awp_region' [] ?_
      intro K15 hK15
      simp (disch := omega) only [vmE, liE, eE, seval, deE, fxE, retOf, maskA, setVals, getVals, putA, stripAt, AVal.strip, stripL, rd, hc6]
      refine hK15 _ _ (kPost_normal (hK14 _ _ ?_))
      refine awp_block_k ?_
      intro K16 hK16
      refine awp_loop_v [6, 7, 14, 15, 16, 17, 18, 19, 20, 21, 22, 23, 24, 25, 26, 27, 28, 29, 30, 31, 32, 33, 34, 35, 36, 37, 38, 39] [8] (fun k vs st' => ∃ (s8 : Int), vs = [.int .i64 s8] ∧ st'.m = m ∧ ref04_parse_L1 N a0 a1 k11 k s8 = some r) N ⟨0, ?_, ?_, h⟩ ?_
      · simp (disch := omega) only [vmE, liE, eE, seval, deE, fxE, retOf, maskA, setVals, getVals, putA, stripAt, AVal.strip, stripL, rd, hc6]
      · simp (disch := omega) only [vmE, liE, eE, seval, deE, fxE, retOf, maskA, setVals, getVals, putA, stripAt, AVal.strip, stripL, rd, hc6]
      · clear h
        rintro k17 _ ⟨m56, nL0_1⟩ ⟨s8, rfl, hm, h⟩ J55 hJ55
        simp only [] at hm
        replace hm := hm.symm
        subst hm
        rcases k17 with _ | k17
        · simp only [ref04_parse_L1, reduceCtorEq] at h
        rw [ref04_parse_L1] at h
        refine AWp.congr (by simp (disch := omega) only [vmE, liE, eE, seval, deE, fxE, retOf, maskA, setVals, getVals, putA, stripAt, AVal.strip, stripL, rd]; rfl) ?_
        refine awp_seq_k ?_
        intro K18 hK18
        refine awp_seq_k ?_
        intro K19 hK19
        refine awp_region' [] ?_
        intro K20 hK20
        simp (disch := omega) only [vmE, liE, eE, seval, deE, fxE, retOf, maskA, setVals, getVals, putA, stripAt, AVal.strip, stripL, rd, hc6]
        refine hK20 _ _ (kPost_normal (hK19 _ _ ?_))
        replace h := ite_some h
        rcases h with ⟨hc21, h⟩ | ⟨hc21, h⟩
        · refine awp_cond_t rfl hc21 ?_
          refine awp_skip ?_
          refine kPost_normal (hK18 _ _ ?_)
          refine awp_seq_k ?_
          intro K22 hK22
          refine awp_block_k ?_
          intro K23 hK23
          refine awp_seq_k ?_
          intro K24 hK24
          replace h := joinK_some h
          rcases h with ⟨k26, hk26, h⟩
          refine awp_join [20, 21, 22, 23, 24, 25, 26, 27, 28, 29, 30, 31, 32, 33, 34, 35, 36, 37, 38] [39] (fun vs st' => ∃ j25 : Bool, vs = [.bool j25] ∧ st'.m = m ∧ k26 j25 = some r) hK24 ?_ ?_
          · clear h
            rintro _ ⟨m27, n28⟩ ⟨j25, rfl, hm, h⟩
            simp only [] at hm
            replace hm := hm.symm
            subst hm
            replace h := hk26 _ _ h
            clear hk26 k26
            refine AWp.congr (by simp (disch := omega) only [vmE, liE, eE, seval, deE, fxE, retOf, maskA, setVals, getVals, putA, stripAt, AVal.strip, stripL, rd]; rfl) ?_
            replace h := ite_some h
            rcases h with ⟨hc50, h⟩ | ⟨hc50, h⟩
            · refine awp_cond_t rfl hc50 ?_
              refine awp_seq_k ?_
              intro K51 hK51
              refine awp_region' [] ?_
              intro K52 hK52
              simp (disch := omega) only [vmE, liE, eE, seval, deE, fxE, retOf, maskA, setVals, getVals, putA, stripAt, AVal.strip, stripL, rd, hc6, hc21, hc50]
              refine hK52 _ _ (kPost_normal (hK51 _ _ ?_))
              refine awp_ret ?_
              refine bPost_ret (kPost_ret (kPost_ret (bPost_ret (kPost_ret (hR _ _ _ (retPost_r (by simp (disch := omega) only [Try.results73, vmE, liE, eE, seval, deE, fxE, retOf, maskA, setVals, getVals, putA, stripAt, AVal.strip, stripL, rd, hc6, hc21, hc50]; rfl) (List.Sublist.refl _) ?_))))))
              cases h
              refine ⟨?_, ?_⟩
              · simp (disch := omega) only [vmE, liE, eE, seval, deE, fxE, retOf, maskA, setVals, getVals, putA, stripAt, AVal.strip, stripL, rd, hc6, hc21, hc50]
              · rfl
            · refine awp_cond_f rfl hc50 ?_
              refine awp_skip ?_
              refine bPost_normal (hK23 _ _ (kPost_normal (hK22 _ _ ?_)))
              refine awp_region' [] ?_
              intro K53 hK53
              simp (disch := omega) only [vmE, liE, eE, seval, deE, fxE, retOf, maskA, setVals, getVals, putA, stripAt, AVal.strip, stripL, rd, hc6, hc21, hc50]
              refine hK53 _ _ (kPost_normal (hJ55 k17 _ _ _ (Nat.lt_succ_self _) (List.Sublist.refl _) ?_ ⟨(wr .i64 (s8 + 1)), ?_, ?_, h⟩)) <;> simp (disch := omega) only [vmE, liE, eE, seval, deE, fxE, retOf, maskA, setVals, getVals, putA, stripAt, AVal.strip, stripL, rd, hc6, hc21, hc50]
          · intro J54 hJ54
            replace h := ite_some h
            rcases h with ⟨hc30, h⟩ | ⟨hc30, h⟩
            · replace h := bind_some h
              rcases h with ⟨x31, hx32, h⟩
              replace h := bind_some h
              rcases h with ⟨y33, hy34, h⟩
              replace h := ite_some h
              rcases h with ⟨hc37, h⟩ | ⟨hc37, h⟩
              · replace h := ite_some h
                rcases h with ⟨hc38, h⟩ | ⟨hc38, h⟩
                · replace h := bind_some h
                  rcases h with ⟨y39, hy40, h⟩
                  refine awp_region' [] ?_
                  intro K29 hK29
                  simp (disch := omega) only [vmE, liE, eE, seval, deE, fxE, retOf, maskA, setVals, getVals, putA, stripAt, AVal.strip, stripL, rd, hc6, hc21, hc30, hx32, hc30, hx32, hc37, hc38]
                  refine ACall.of (ref01_IsDigit_w hy34) ?_ ?_
                  · first | (simp (disch := omega) only [vmE, liE, eE, seval, deE, fxE, retOf, maskA, setVals, getVals, putA, stripAt, AVal.strip, stripL, rd, hc6, hc21, hc30, hx32, hc30, hx32, hc37, hc38]) | rfl
                  rintro _ ⟨m36, n35⟩ hn35 ⟨rfl, hm⟩
                  simp (disch := omega) only [vmE, liE, eE, seval] at hn35 hm
                  replace hm := hm.symm
                  subst hm
                  simp (disch := omega) only [vmE, liE, eE, seval, deE, fxE, retOf, maskA, setVals, getVals, putA, stripAt, AVal.strip, stripL, rd, hc6, hc21, hc30, hx32, hc37, hc38, hc30, hx32, hc37, hc38]
                  refine ACall.of (ref01_IsHex_w hy40) ?_ ?_
                  · first | (simp (disch := omega) only [vmE, liE, eE, seval, deE, fxE, retOf, maskA, setVals, getVals, putA, stripAt, AVal.strip, stripL, rd, hc6, hc21, hc30, hx32, hc37, hc38, hc30, hx32, hc37, hc38]) | rfl
                  rintro _ ⟨m42, n41⟩ hn41 ⟨rfl, hm⟩
                  simp (disch := omega) only [vmE, liE, eE, seval] at hn41 hm
                  replace hm := hm.symm
                  subst hm
                  simp (disch := omega) only [vmE, liE, eE, seval, deE, fxE, retOf, maskA, setVals, getVals, putA, stripAt, AVal.strip, stripL, rd, hc6, hc21, hc30, hx32, hc37, hc38]
                  refine hK29 _ _ (kPost_normal (hJ54 _ _ _ (List.Sublist.refl _) ?_ ⟨(!y39), ?_, ?_, h⟩)) <;> simp (disch := omega) only [vmE, liE, eE, seval, deE, fxE, retOf, maskA, setVals, getVals, putA, stripAt, AVal.strip, stripL, rd, hc6, hc21, hc30, hx32, hc37, hc38]
                · refine awp_region' [] ?_
                  intro K29 hK29
                  simp (disch := omega) only [vmE, liE, eE, seval, deE, fxE, retOf, maskA, setVals, getVals, putA, stripAt, AVal.strip, stripL, rd, hc6, hc21, hc30, hx32, hc30, hx32, hc37, hc38]
                  refine ACall.of (ref01_IsDigit_w hy34) ?_ ?_
                  · first | (simp (disch := omega) only [vmE, liE, eE, seval, deE, fxE, retOf, maskA, setVals, getVals, putA, stripAt, AVal.strip, stripL, rd, hc6, hc21, hc30, hx32, hc30, hx32, hc37, hc38]) | rfl
                  rintro _ ⟨m36, n35⟩ hn35 ⟨rfl, hm⟩
                  simp (disch := omega) only [vmE, liE, eE, seval] at hn35 hm
                  replace hm := hm.symm
                  subst hm
                  simp (disch := omega) only [vmE, liE, eE, seval, deE, fxE, retOf, maskA, setVals, getVals, putA, stripAt, AVal.strip, stripL, rd, hc6, hc21, hc30, hx32, hc37, hc38]
                  refine hK29 _ _ (kPost_normal (hJ54 _ _ _ (List.Sublist.refl _) ?_ ⟨false, ?_, ?_, h⟩)) <;> simp (disch := omega) only [vmE, liE, eE, seval, deE, fxE, retOf, maskA, setVals, getVals, putA, stripAt, AVal.strip, stripL, rd, hc6, hc21, hc30, hx32, hc37, hc38]
              · refine awp_region' [] ?_
                intro K29 hK29
                simp (disch := omega) only [vmE, liE, eE, seval, deE, fxE, retOf, maskA, setVals, getVals, putA, stripAt, AVal.strip, stripL, rd, hc6, hc21, hc30, hx32, hc30, hx32, hc37]
                refine ACall.of (ref01_IsDigit_w hy34) ?_ ?_
                · first | (simp (disch := omega) only [vmE, liE, eE, seval, deE, fxE, retOf, maskA, setVals, getVals, putA, stripAt, AVal.strip, stripL, rd, hc6, hc21, hc30, hx32, hc30, hx32, hc37]) | rfl
                rintro _ ⟨m36, n35⟩ hn35 ⟨rfl, hm⟩
                simp (disch := omega) only [vmE, liE, eE, seval] at hn35 hm
                replace hm := hm.symm
                subst hm
                simp (disch := omega) only [vmE, liE, eE, seval, deE, fxE, retOf, maskA, setVals, getVals, putA, stripAt, AVal.strip, stripL, rd, hc6, hc21, hc30, hx32, hc37]
                refine hK29 _ _ (kPost_normal (hJ54 _ _ _ (List.Sublist.refl _) ?_ ⟨true, ?_, ?_, h⟩)) <;> simp (disch := omega) only [vmE, liE, eE, seval, deE, fxE, retOf, maskA, setVals, getVals, putA, stripAt, AVal.strip, stripL, rd, hc6, hc21, hc30, hx32, hc37]
            · replace h := ite_some h
              rcases h with ⟨hc43, h⟩ | ⟨hc43, h⟩
              · replace h := bind_some h
                rcases h with ⟨x44, hx45, h⟩
                replace h := bind_some h
                rcases h with ⟨y46, hy47, h⟩
                refine awp_region' [] ?_
                intro K29 hK29
                simp (disch := omega) only [vmE, liE, eE, seval, deE, fxE, retOf, maskA, setVals, getVals, putA, stripAt, AVal.strip, stripL, rd, hc6, hc21, hc30, hc43, hx45, hc30, hc43, hx45]
                refine ACall.of (ref01_IsHex_w hy47) ?_ ?_
                · first | (simp (disch := omega) only [vmE, liE, eE, seval, deE, fxE, retOf, maskA, setVals, getVals, putA, stripAt, AVal.strip, stripL, rd, hc6, hc21, hc30, hc43, hx45, hc30, hc43, hx45]) | rfl
                rintro _ ⟨m49, n48⟩ hn48 ⟨rfl, hm⟩
                simp (disch := omega) only [vmE, liE, eE, seval] at hn48 hm
                replace hm := hm.symm
                subst hm
                simp (disch := omega) only [vmE, liE, eE, seval, deE, fxE, retOf, maskA, setVals, getVals, putA, stripAt, AVal.strip, stripL, rd, hc6, hc21, hc30, hc43, hx45]
                refine hK29 _ _ (kPost_normal (hJ54 _ _ _ (List.Sublist.refl _) ?_ ⟨(!y46), ?_, ?_, h⟩)) <;> simp (disch := omega) only [vmE, liE, eE, seval, deE, fxE, retOf, maskA, setVals, getVals, putA, stripAt, AVal.strip, stripL, rd, hc6, hc21, hc30, hc43, hx45]
              · refine awp_region' [] ?_
                intro K29 hK29
                simp (disch := omega) only [vmE, liE, eE, seval, deE, fxE, retOf, maskA, setVals, getVals, putA, stripAt, AVal.strip, stripL, rd, hc6, hc21, hc30, hc43]
                refine hK29 _ _ (kPost_normal (hJ54 _ _ _ (List.Sublist.refl _) ?_ ⟨false, ?_, ?_, h⟩)) <;> simp (disch := omega) only [vmE, liE, eE, seval, deE, fxE, retOf, maskA, setVals, getVals, putA, stripAt, AVal.strip, stripL, rd, hc6, hc21, hc30, hc43]
        · refine awp_cond_f rfl hc21 ?_
          refine awp_exit ?_
          refine kPost_exit (kPost_exit (bPost_here (hK16 _ _ (kPost_normal (hJ109 _ _ _ (List.Sublist.refl _) ?_ ⟨(), ?_, ?_, h⟩))))) <;> simp (disch := omega) only [vmE, liE, eE, seval, deE, fxE, retOf, maskA, setVals, getVals, putA, stripAt, AVal.strip, stripL, rd, hc6, hc21]
end Go.Proofs.Ytdbeiialamganaa
