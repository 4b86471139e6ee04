/- That the code computes these functions; written by decomp.py. -/
import Derived.Test.YtdbeiialamganaaVmFacts
import Derived.Test.YtdbeiialamganaaDefs
import Derived.Test.YtdbeiialamganaaVMSets
import Derived.Test.YtdbeiialamganaaW0
import Derived.Test.YtdbeiialamganaaW4
import Derived.Test.YtdbeiialamganaaW8
import Derived.Test.YtdbeiialamganaaW9
set_option linter.unusedVariables false
set_option linter.unusedSimpArgs false
set_option maxHeartbeats 4000000
set_option maxRecDepth 100000
set_option linter.defProp false
namespace Go.Proofs.Ytdbeiialamganaa
open Go.VM
theorem ref13_Number_w {N : Nat} {a0 : (List UInt8)} {r : (List UInt8) × Int} (h : ref13_Number N a0 = some r) {n : Nat} {m : List (Nat × List AVal)} :
    ACall vE 46 [.str a0] ⟨m, n⟩ fun r' st => r' = .tuple [.str r.1, .int .i64 r.2] ∧ st.m = m := by
  rw [ref13_Number] at h
  refine acall_k Try.func46 rfl ?_
  intro R hR
  refine AWp.congr (by simp only [Try.ntmps46, liE, seval]; rfl) ?_
  refine awp_seq_k ?_
  intro K1 hK1
  refine awp_region' [] ?_
  intro K2 hK2
  simp (disch := omega) only [vmE, liE, eE, seval, deE, fxE, retOf, maskA, setVals, getVals, putA, stripAt, AVal.strip, stripL, rd]
  refine hK2 _ _ (kPost_normal (hK1 _ _ ?_))
  refine awp_seq_k ?_
  intro K3 hK3
  refine awp_seq_k ?_
  intro K4 hK4
  replace h := joinK_some h
  rcases h with ⟨k6, hk6, h⟩
  refine awp_join [9, 10, 11, 12, 13, 14, 15, 16] [17] (fun vs st' => ∃ j5 : Bool, vs = [.bool j5] ∧ st'.m = m ∧ k6 j5 = some r) hK4 ?_ ?_
  · clear h
    rintro _ ⟨m7, n8⟩ ⟨j5, rfl, hm, h⟩
    simp only [] at hm
    replace hm := hm.symm
    subst hm
    replace h := hk6 _ _ h
    clear hk6 k6
    refine AWp.congr (by simp (disch := omega) only [vmE, liE, eE, seval, deE, fxE, retOf, maskA, setVals, getVals, putA, stripAt, AVal.strip, stripL, rd]; rfl) ?_
    replace h := ite_some h
    rcases h with ⟨hc15, h⟩ | ⟨hc15, h⟩
    · refine awp_cond_t rfl hc15 ?_
      refine awp_seq_k ?_
      intro K16 hK16
      refine awp_region' [] ?_
      intro K17 hK17
      simp (disch := omega) only [vmE, liE, eE, seval, deE, fxE, retOf, maskA, setVals, getVals, putA, stripAt, AVal.strip, stripL, rd, hc15]
      refine hK17 _ _ (kPost_normal (hK16 _ _ ?_))
      refine awp_ret ?_
      refine kPost_ret (hR _ _ _ (retPost_r (by simp (disch := omega) only [Try.results46, vmE, liE, eE, seval, deE, fxE, retOf, maskA, setVals, getVals, putA, stripAt, AVal.strip, stripL, rd, hc15]; rfl) (List.Sublist.refl _) ?_))
      cases h
      refine ⟨?_, ?_⟩
      · simp (disch := omega) only [vmE, liE, eE, seval, deE, fxE, retOf, maskA, setVals, getVals, putA, stripAt, AVal.strip, stripL, rd, hc15]
      · rfl
    · refine awp_cond_f rfl hc15 ?_
      refine awp_skip ?_
      refine kPost_normal (hK3 _ _ ?_)
      refine awp_seq_k ?_
      intro K18 hK18
      refine awp_region' [] ?_
      intro K19 hK19
      simp (disch := omega) only [vmE, liE, eE, seval, deE, fxE, retOf, maskA, setVals, getVals, putA, stripAt, AVal.strip, stripL, rd, hc15]
      refine hK19 _ _ (kPost_normal (hK18 _ _ ?_))
      refine awp_seq_k ?_
      intro K20 hK20
      replace h := joinK_some h
      rcases h with ⟨k22, hk22, h⟩
      refine awp_join [18, 19, 20, 21, 22] [0, 4] (fun vs st' => ∃ j21 : (List UInt8) × (List UInt8), vs = [.str j21.1, .str j21.2] ∧ st'.m = m ∧ k22 j21 = some r) hK20 ?_ ?_
      · clear h
        rintro _ ⟨m23, n24⟩ ⟨j21, rfl, hm, h⟩
        simp only [] at hm
        replace hm := hm.symm
        subst hm
        replace h := hk22 _ _ h
        clear hk22 k22
        refine AWp.congr (by simp (disch := omega) only [vmE, liE, eE, seval, deE, fxE, retOf, maskA, setVals, getVals, putA, stripAt, AVal.strip, stripL, rd]; rfl) ?_
        refine awp_seq_k ?_
        intro K33 hK33
        replace h := bind_some h
        rcases h with ⟨y35, hy36, h⟩
        refine awp_region' [] ?_
        intro K34 hK34
        simp (disch := omega) only [vmE, liE, eE, seval, deE, fxE, retOf, maskA, setVals, getVals, putA, stripAt, AVal.strip, stripL, rd, hc15]
        refine ACall.of (ref01_Index_w hy36) ?_ ?_
        · first | (simp (disch := omega) only [vmE, liE, eE, seval, deE, fxE, retOf, maskA, setVals, getVals, putA, stripAt, AVal.strip, stripL, rd, hc15]) | rfl
        rintro _ ⟨m38, n37⟩ hn37 ⟨rfl, hm⟩
        simp (disch := omega) only [vmE, liE, eE, seval] at hn37 hm
        replace hm := hm.symm
        subst hm
        simp (disch := omega) only [vmE, liE, eE, seval, deE, fxE, retOf, maskA, setVals, getVals, putA, stripAt, AVal.strip, stripL, rd, hc15]
        refine hK34 _ _ (kPost_normal (hK33 _ _ ?_))
        refine awp_seq_k ?_
        intro K39 hK39
        replace h := bind_some h
        rcases h with ⟨y41, hy42, h⟩
        replace h := bind_some h
        rcases h with ⟨y45, hy46, h⟩
        replace h := bind_some h
        rcases h with ⟨x49, hx50, h⟩
        refine awp_draw' [] (.take 0 (.take 1 (.take 2 (.take 5 (.take 6 (.take 7 (.alt 3 [7, 6, 5, 1] (.alt 4 [7, 6, 5, 2, 1, 0] (.alt 8 [7, 6, 5] (.alt 9 [] (.done) (.stop)) (.stop)) (.stop)) (.stop)))))))) vE_mixed (by kernel_rfl) ?_
        intro K40 hK40
        simp (disch := omega) only [vmE, liE, eE, seval, deE, fxE, retOf, maskA, setVals, getVals, putA, stripAt, AVal.strip, stripL, rd, hc15, hx50]
        refine ACall.of (ref13_tail_w hy42) ?_ ?_
        · first | (simp (disch := omega) only [vmE, liE, eE, seval, deE, fxE, retOf, maskA, setVals, getVals, putA, stripAt, AVal.strip, stripL, rd, hc15, hx50]) | rfl
        rintro _ ⟨m44, n43⟩ hn43 ⟨rfl, hm⟩
        simp (disch := omega) only [vmE, liE, eE, seval] at hn43 hm
        replace hm := hm.symm
        subst hm
        simp (disch := omega) only [vmE, liE, eE, seval, deE, fxE, retOf, maskA, setVals, getVals, putA, stripAt, AVal.strip, stripL, rd, hc15, hx50]
        refine ACall.of (ref13_exponent_w hy46) ?_ ?_
        · first | (simp (disch := omega) only [vmE, liE, eE, seval, deE, fxE, retOf, maskA, setVals, getVals, putA, stripAt, AVal.strip, stripL, rd, hc15, hx50]) | rfl
        rintro _ ⟨m48, n47⟩ hn47 ⟨rfl, hm⟩
        simp (disch := omega) only [vmE, liE, eE, seval] at hn47 hm
        replace hm := hm.symm
        subst hm
        simp (disch := omega) only [vmE, liE, eE, seval, deE, fxE, retOf, maskA, setVals, getVals, putA, stripAt, AVal.strip, stripL, rd, hc15, hx50]
        refine hK40 _ _ (kPost_normal (hK39 _ _ ?_))
        refine awp_seq_k ?_
        intro K51 hK51
        replace h := joinK_some h
        rcases h with ⟨k53, hk53, h⟩
        refine awp_join [8, 33, 34, 35, 36, 37, 38, 39, 40, 41, 42, 43, 44, 45, 46, 47, 48, 49, 50, 51, 52, 53] [6, 7] (fun vs st' => ∃ j52 : Int × (List UInt8), vs = [.int .i64 j52.1, .str j52.2] ∧ st'.m = m ∧ k53 j52 = some r) hK51 ?_ ?_
        · clear h
          rintro _ ⟨m54, n55⟩ ⟨j52, rfl, hm, h⟩
          simp only [] at hm
          replace hm := hm.symm
          subst hm
          replace h := hk53 _ _ h
          clear hk53 k53
          refine AWp.congr (by simp (disch := omega) only [vmE, liE, eE, seval, deE, fxE, retOf, maskA, setVals, getVals, putA, stripAt, AVal.strip, stripL, rd]; rfl) ?_
          refine awp_seq_k ?_
          intro K71 hK71
          replace h := joinK_some h
          rcases h with ⟨k73, hk73, h⟩
          refine awp_join [54, 55, 56, 57, 58, 59, 60, 61, 62, 63] [7] (fun vs st' => ∃ j72 : (List UInt8), vs = [.str j72] ∧ st'.m = m ∧ k73 j72 = some r) hK71 ?_ ?_
          · clear h
            rintro _ ⟨m74, n75⟩ ⟨j72, rfl, hm, h⟩
            simp only [] at hm
            replace hm := hm.symm
            subst hm
            replace h := hk73 _ _ h
            clear hk73 k73
            refine AWp.congr (by simp (disch := omega) only [vmE, liE, eE, seval, deE, fxE, retOf, maskA, setVals, getVals, putA, stripAt, AVal.strip, stripL, rd]; rfl) ?_
            refine awp_seq_k ?_
            intro K96 hK96
            refine awp_seq_k ?_
            intro K97 hK97
            refine awp_region' [] ?_
            intro K98 hK98
            simp (disch := omega) only [vmE, liE, eE, seval, deE, fxE, retOf, maskA, setVals, getVals, putA, stripAt, AVal.strip, stripL, rd, hc15, hx50]
            refine hK98 _ _ (kPost_normal (hK97 _ _ ?_))
            replace h := ite_some h
            rcases h with ⟨hc99, h⟩ | ⟨hc99, h⟩
            · refine awp_cond_t rfl hc99 ?_
              refine awp_seq_k ?_
              intro K100 hK100
              refine awp_region' [] ?_
              intro K101 hK101
              simp (disch := omega) only [vmE, liE, eE, seval, deE, fxE, retOf, maskA, setVals, getVals, putA, stripAt, AVal.strip, stripL, rd, hc15, hx50, hc99]
              refine hK101 _ _ (kPost_normal (hK100 _ _ ?_))
              refine awp_ret ?_
              refine kPost_ret (hR _ _ _ (retPost_r (by simp (disch := omega) only [Try.results46, vmE, liE, eE, seval, deE, fxE, retOf, maskA, setVals, getVals, putA, stripAt, AVal.strip, stripL, rd, hc15, hx50, hc99]; rfl) (List.Sublist.refl _) ?_))
              cases h
              refine ⟨?_, ?_⟩
              · simp (disch := omega) only [vmE, liE, eE, seval, deE, fxE, retOf, maskA, setVals, getVals, putA, stripAt, AVal.strip, stripL, rd, hc15, hx50, hc99]
              · rfl
            · refine awp_cond_f rfl hc99 ?_
              refine awp_skip ?_
              refine kPost_normal (hK96 _ _ ?_)
              refine awp_seq_k ?_
              intro K102 hK102
              replace h := joinK_some h
              rcases h with ⟨k104, hk104, h⟩
              refine awp_join [66, 67, 68, 69, 70, 71, 72, 73, 74, 75, 76, 77, 78] [6, 7] (fun vs st' => ∃ j103 : Int × (List UInt8), vs = [.int .i64 j103.1, .str j103.2] ∧ st'.m = m ∧ k104 j103 = some r) hK102 ?_ ?_
              · clear h
                rintro _ ⟨m105, n106⟩ ⟨j103, rfl, hm, h⟩
                simp only [] at hm
                replace hm := hm.symm
                subst hm
                replace h := hk104 _ _ h
                clear hk104 k104
                refine AWp.congr (by simp (disch := omega) only [vmE, liE, eE, seval, deE, fxE, retOf, maskA, setVals, getVals, putA, stripAt, AVal.strip, stripL, rd]; rfl) ?_
                refine awp_seq_k ?_
                intro K121 hK121
                refine awp_block_k ?_
                intro K122 hK122
                refine awp_seq_k ?_
                intro K123 hK123
                replace h := joinK_some h
                rcases h with ⟨k125, hk125, h⟩
                refine awp_join [80, 81, 82, 83, 84, 85, 86, 87, 88, 89, 90] [79] (fun vs st' => ∃ j124 : Bool, vs = [.bool j124] ∧ st'.m = m ∧ k125 j124 = some r) hK123 ?_ ?_
                · clear h
                  rintro _ ⟨m126, n127⟩ ⟨j124, rfl, hm, h⟩
                  simp only [] at hm
                  replace hm := hm.symm
                  subst hm
                  replace h := hk125 _ _ h
                  clear hk125 k125
                  refine AWp.congr (by simp (disch := omega) only [vmE, liE, eE, seval, deE, fxE, retOf, maskA, setVals, getVals, putA, stripAt, AVal.strip, stripL, rd]; rfl) ?_
                  replace h := ite_some h
                  rcases h with ⟨hc131, h⟩ | ⟨hc131, h⟩
                  · refine awp_cond_t rfl hc131 ?_
                    refine awp_seq_k ?_
                    intro K132 hK132
                    refine awp_region' [] ?_
                    intro K133 hK133
                    simp (disch := omega) only [vmE, liE, eE, seval, deE, fxE, retOf, maskA, setVals, getVals, putA, stripAt, AVal.strip, stripL, rd, hc15, hx50, hc99, hc131]
                    refine hK133 _ _ (kPost_normal (hK132 _ _ ?_))
                    refine awp_ret ?_
                    refine bPost_ret (kPost_ret (hR _ _ _ (retPost_r (by simp (disch := omega) only [Try.results46, vmE, liE, eE, seval, deE, fxE, retOf, maskA, setVals, getVals, putA, stripAt, AVal.strip, stripL, rd, hc15, hx50, hc99, hc131]; rfl) (List.Sublist.refl _) ?_)))
                    cases h
                    refine ⟨?_, ?_⟩
                    · simp (disch := omega) only [vmE, liE, eE, seval, deE, fxE, retOf, maskA, setVals, getVals, putA, stripAt, AVal.strip, stripL, rd, hc15, hx50, hc99, hc131]
                    · rfl
                  · refine awp_cond_f rfl hc131 ?_
                    refine awp_seq_k ?_
                    intro K134 hK134
                    refine awp_region' [] ?_
                    intro K135 hK135
                    simp (disch := omega) only [vmE, liE, eE, seval, deE, fxE, retOf, maskA, setVals, getVals, putA, stripAt, AVal.strip, stripL, rd, hc15, hx50, hc99, hc131]
                    refine hK135 _ _ (kPost_normal (hK134 _ _ ?_))
                    replace h := ite_some h
                    rcases h with ⟨hc136, h⟩ | ⟨hc136, h⟩
                    · refine awp_cond_t rfl hc136 ?_
                      refine awp_seq_k ?_
                      intro K137 hK137
                      replace h := grd_some h
                      rcases h with ⟨hg139, h⟩
                      try simp only [liE, seval] at hg139
                      replace h := grd_some h
                      rcases h with ⟨hg140, h⟩
                      try simp only [liE, seval] at hg140
                      replace h := bind_some h
                      rcases h with ⟨y141, hy142, h⟩
                      replace h := grd_some h
                      rcases h with ⟨hg145, h⟩
                      try simp only [liE, seval] at hg145
                      refine awp_region' [] ?_
                      intro K138 hK138
                      simp (disch := omega) only [vmE, liE, eE, seval, deE, fxE, retOf, maskA, setVals, getVals, putA, stripAt, AVal.strip, stripL, rd, hc15, hx50, hc99, hc131, hc136, hg139, hg140, hg139, hg140, hg145]
                      refine ACall.of (ref04_Format_w hy142) ?_ ?_
                      · first | (simp (disch := omega) only [vmE, liE, eE, seval, deE, fxE, retOf, maskA, setVals, getVals, putA, stripAt, AVal.strip, stripL, rd, hc15, hx50, hc99, hc131, hc136, hg139, hg140, hg139, hg140, hg145]) | rfl
                      rintro _ ⟨m144, n143⟩ hn143 ⟨rfl, hm⟩
                      simp (disch := omega) only [vmE, liE, eE, seval] at hn143 hm
                      replace hm := hm.symm
                      subst hm
                      simp (disch := omega) only [vmE, liE, eE, seval, deE, fxE, retOf, maskA, setVals, getVals, putA, stripAt, AVal.strip, stripL, rd, hc15, hx50, hc99, hc131, hc136, hg139, hg140, hg145]
                      refine hK138 _ _ (kPost_normal (hK137 _ _ ?_))
                      refine awp_ret ?_
                      refine bPost_ret (kPost_ret (hR _ _ _ (retPost_r (by simp (disch := omega) only [Try.results46, vmE, liE, eE, seval, deE, fxE, retOf, maskA, setVals, getVals, putA, stripAt, AVal.strip, stripL, rd, hc15, hx50, hc99, hc131, hc136, hg139, hg140, hg145]; rfl) (List.Sublist.refl _) ?_)))
                      cases h
                      refine ⟨?_, ?_⟩
                      · simp (disch := omega) only [vmE, liE, eE, seval, deE, fxE, retOf, maskA, setVals, getVals, putA, stripAt, AVal.strip, stripL, rd, hc15, hx50, hc99, hc131, hc136, hg139, hg140, hg145]
                      · rfl
                    · refine awp_cond_f rfl hc136 ?_
                      refine awp_seq_k ?_
                      intro K146 hK146
                      refine awp_region' [] ?_
                      intro K147 hK147
                      simp (disch := omega) only [vmE, liE, eE, seval, deE, fxE, retOf, maskA, setVals, getVals, putA, stripAt, AVal.strip, stripL, rd, hc15, hx50, hc99, hc131, hc136]
                      refine hK147 _ _ (kPost_normal (hK146 _ _ ?_))
                      replace h := ite_some h
                      rcases h with ⟨hc148, h⟩ | ⟨hc148, h⟩
                      · refine awp_cond_t rfl hc148 ?_
                        refine awp_seq_k ?_
                        intro K149 hK149
                        replace h := grd_some h
                        rcases h with ⟨hg151, h⟩
                        try simp only [liE, seval] at hg151
                        replace h := grd_some h
                        rcases h with ⟨hg152, h⟩
                        try simp only [liE, seval] at hg152
                        replace h := bind_some h
                        rcases h with ⟨y153, hy154, h⟩
                        replace h := grd_some h
                        rcases h with ⟨hg157, h⟩
                        try simp only [liE, seval] at hg157
                        refine awp_region' [] ?_
                        intro K150 hK150
                        simp (disch := omega) only [vmE, liE, eE, seval, deE, fxE, retOf, maskA, setVals, getVals, putA, stripAt, AVal.strip, stripL, rd, hc15, hx50, hc99, hc131, hc136, hc148, hg151, hg152, hg151, hg152, hg157]
                        refine ACall.of (ref04_Format_w hy154) ?_ ?_
                        · first | (simp (disch := omega) only [vmE, liE, eE, seval, deE, fxE, retOf, maskA, setVals, getVals, putA, stripAt, AVal.strip, stripL, rd, hc15, hx50, hc99, hc131, hc136, hc148, hg151, hg152, hg151, hg152, hg157]) | rfl
                        rintro _ ⟨m156, n155⟩ hn155 ⟨rfl, hm⟩
                        simp (disch := omega) only [vmE, liE, eE, seval] at hn155 hm
                        replace hm := hm.symm
                        subst hm
                        simp (disch := omega) only [vmE, liE, eE, seval, deE, fxE, retOf, maskA, setVals, getVals, putA, stripAt, AVal.strip, stripL, rd, hc15, hx50, hc99, hc131, hc136, hc148, hg151, hg152, hg157]
                        refine hK150 _ _ (kPost_normal (hK149 _ _ ?_))
                        refine awp_ret ?_
                        refine bPost_ret (kPost_ret (hR _ _ _ (retPost_r (by simp (disch := omega) only [Try.results46, vmE, liE, eE, seval, deE, fxE, retOf, maskA, setVals, getVals, putA, stripAt, AVal.strip, stripL, rd, hc15, hx50, hc99, hc131, hc136, hc148, hg151, hg152, hg157]; rfl) (List.Sublist.refl _) ?_)))
                        cases h
                        refine ⟨?_, ?_⟩
                        · simp (disch := omega) only [vmE, liE, eE, seval, deE, fxE, retOf, maskA, setVals, getVals, putA, stripAt, AVal.strip, stripL, rd, hc15, hx50, hc99, hc131, hc136, hc148, hg151, hg152, hg157]
                        · rfl
                      · refine awp_cond_f rfl hc148 ?_
                        refine awp_skip ?_
                        refine bPost_normal (hK122 _ _ (kPost_normal (hK121 _ _ ?_)))
                        refine awp_seq_k ?_
                        intro K158 hK158
                        replace h := grd_some h
                        rcases h with ⟨hg160, h⟩
                        try simp only [liE, seval] at hg160
                        refine awp_region' [] ?_
                        intro K159 hK159
                        simp (disch := omega) only [vmE, liE, eE, seval, deE, fxE, retOf, maskA, setVals, getVals, putA, stripAt, AVal.strip, stripL, rd, hc15, hx50, hc99, hc131, hc136, hc148, hg160]
                        refine hK159 _ _ (kPost_normal (hK158 _ _ ?_))
                        refine awp_ret ?_
                        refine hR _ _ _ (retPost_r (by simp (disch := omega) only [Try.results46, vmE, liE, eE, seval, deE, fxE, retOf, maskA, setVals, getVals, putA, stripAt, AVal.strip, stripL, rd, hc15, hx50, hc99, hc131, hc136, hc148, hg160]; rfl) (List.Sublist.refl _) ?_)
                        cases h
                        refine ⟨?_, ?_⟩
                        · simp (disch := omega) only [vmE, liE, eE, seval, deE, fxE, retOf, maskA, setVals, getVals, putA, stripAt, AVal.strip, stripL, rd, hc15, hx50, hc99, hc131, hc136, hc148, hg160]
                        · rfl
                · intro J161 hJ161
                  replace h := ite_some h
                  rcases h with ⟨hc129, h⟩ | ⟨hc129, h⟩
                  · refine awp_region' [] ?_
                    intro K128 hK128
                    simp (disch := omega) only [vmE, liE, eE, seval, deE, fxE, retOf, maskA, setVals, getVals, putA, stripAt, AVal.strip, stripL, rd, hc15, hx50, hc99, hc129]
                    refine hK128 _ _ (kPost_normal (hJ161 _ _ _ (List.Sublist.refl _) ?_ ⟨true, ?_, ?_, h⟩)) <;> simp (disch := omega) only [vmE, liE, eE, seval, deE, fxE, retOf, maskA, setVals, getVals, putA, stripAt, AVal.strip, stripL, rd, hc15, hx50, hc99, hc129]
                  · replace h := ite_some h
                    rcases h with ⟨hc130, h⟩ | ⟨hc130, h⟩
                    · refine awp_region' [] ?_
                      intro K128 hK128
                      simp (disch := omega) only [vmE, liE, eE, seval, deE, fxE, retOf, maskA, setVals, getVals, putA, stripAt, AVal.strip, stripL, rd, hc15, hx50, hc99, hc129, hc130]
                      refine hK128 _ _ (kPost_normal (hJ161 _ _ _ (List.Sublist.refl _) ?_ ⟨true, ?_, ?_, h⟩)) <;> simp (disch := omega) only [vmE, liE, eE, seval, deE, fxE, retOf, maskA, setVals, getVals, putA, stripAt, AVal.strip, stripL, rd, hc15, hx50, hc99, hc129, hc130]
                    · refine awp_region' [] ?_
                      intro K128 hK128
                      simp (disch := omega) only [vmE, liE, eE, seval, deE, fxE, retOf, maskA, setVals, getVals, putA, stripAt, AVal.strip, stripL, rd, hc15, hx50, hc99, hc129, hc130]
                      refine hK128 _ _ (kPost_normal (hJ161 _ _ _ (List.Sublist.refl _) ?_ ⟨(decide (j103.1 < (-400))), ?_, ?_, h⟩)) <;> simp (disch := omega) only [vmE, liE, eE, seval, deE, fxE, retOf, maskA, setVals, getVals, putA, stripAt, AVal.strip, stripL, rd, hc15, hx50, hc99, hc129, hc130]
              · intro J162 hJ162
                refine awp_block_k ?_
                intro K107 hK107
                refine awp_loop_v [66, 67, 68, 69, 70, 71, 72, 73, 74, 75, 76, 77, 78] [6, 7] (fun k vs st' => ∃ (s6 : Int) (s7 : (List UInt8)), vs = [.int .i64 s6, .str s7] ∧ st'.m = m ∧ ref13_Number_L2 N k104 k s6 s7 = some r) N ⟨j52.1, j72, ?_, ?_, h⟩ ?_
                · simp (disch := omega) only [vmE, liE, eE, seval, deE, fxE, retOf, maskA, setVals, getVals, putA, stripAt, AVal.strip, stripL, rd, hc15, hx50, hc99]
                · simp (disch := omega) only [vmE, liE, eE, seval, deE, fxE, retOf, maskA, setVals, getVals, putA, stripAt, AVal.strip, stripL, rd, hc15, hx50, hc99]
                · clear h
                  rintro k108 _ ⟨m120, nL1_1⟩ ⟨s6, s7, rfl, hm, h⟩ J119 hJ119
                  simp only [] at hm
                  replace hm := hm.symm
                  subst hm
                  rcases k108 with _ | k108
                  · simp only [ref13_Number_L2, reduceCtorEq] at h
                  rw [ref13_Number_L2] at h
                  refine AWp.congr (by simp (disch := omega) only [vmE, liE, eE, seval, deE, fxE, retOf, maskA, setVals, getVals, putA, stripAt, AVal.strip, stripL, rd]; rfl) ?_
                  refine awp_seq_k ?_
                  intro K109 hK109
                  refine awp_seq_k ?_
                  intro K110 hK110
                  replace h := bind_some h
                  rcases h with ⟨x112, hx113, h⟩
                  refine awp_region' [] ?_
                  intro K111 hK111
                  simp (disch := omega) only [vmE, liE, eE, seval, deE, fxE, retOf, maskA, setVals, getVals, putA, stripAt, AVal.strip, stripL, rd, hc15, hx50, hc99, hx113]
                  refine hK111 _ _ (kPost_normal (hK110 _ _ ?_))
                  replace h := ite_some h
                  rcases h with ⟨hc114, h⟩ | ⟨hc114, h⟩
                  · refine awp_cond_t rfl hc114 ?_
                    refine awp_skip ?_
                    refine kPost_normal (hK109 _ _ ?_)
                    refine awp_block_k ?_
                    intro K115 hK115
                    replace h := bind_some h
                    rcases h with ⟨x117, hx118, h⟩
                    refine awp_region' [] ?_
                    intro K116 hK116
                    simp (disch := omega) only [vmE, liE, eE, seval, deE, fxE, retOf, maskA, setVals, getVals, putA, stripAt, AVal.strip, stripL, rd, hc15, hx50, hc99, hx113, hc114, hx118]
                    refine hK116 _ _ (bPost_normal (hK115 _ _ (kPost_normal (hJ119 k108 _ _ _ (Nat.lt_succ_self _) (List.Sublist.refl _) ?_ ⟨(wr .i64 (s6 + 1)), x117, ?_, ?_, h⟩)))) <;> simp (disch := omega) only [vmE, liE, eE, seval, deE, fxE, retOf, maskA, setVals, getVals, putA, stripAt, AVal.strip, stripL, rd, hc15, hx50, hc99, hx113, hc114, hx118]
                  · refine awp_cond_f rfl hc114 ?_
                    refine awp_exit ?_
                    refine kPost_exit (kPost_exit (bPost_here (hK107 _ _ (kPost_normal (hJ162 _ _ _ (List.Sublist.refl _) ?_ ⟨(s6, s7), ?_, ?_, h⟩))))) <;> simp (disch := omega) only [vmE, liE, eE, seval, deE, fxE, retOf, maskA, setVals, getVals, putA, stripAt, AVal.strip, stripL, rd, hc15, hx50, hc99, hx113, hc114]
          · intro J163 hJ163
            refine awp_block_k ?_
            intro K76 hK76
            refine awp_loop_v [54, 55, 56, 57, 58, 59, 60, 61, 62, 63] [7] (fun k vs st' => ∃ (s7 : (List UInt8)), vs = [.str s7] ∧ st'.m = m ∧ ref13_Number_L1 N k73 k s7 = some r) N ⟨j52.2, ?_, ?_, h⟩ ?_
            · simp (disch := omega) only [vmE, liE, eE, seval, deE, fxE, retOf, maskA, setVals, getVals, putA, stripAt, AVal.strip, stripL, rd, hc15, hx50]
            · simp (disch := omega) only [vmE, liE, eE, seval, deE, fxE, retOf, maskA, setVals, getVals, putA, stripAt, AVal.strip, stripL, rd, hc15, hx50]
            · clear h
              rintro k77 _ ⟨m95, nL0_1⟩ ⟨s7, rfl, hm, h⟩ J94 hJ94
              simp only [] at hm
              replace hm := hm.symm
              subst hm
              rcases k77 with _ | k77
              · simp only [ref13_Number_L1, reduceCtorEq] at h
              rw [ref13_Number_L1] at h
              refine AWp.congr (by simp (disch := omega) only [vmE, liE, eE, seval, deE, fxE, retOf, maskA, setVals, getVals, putA, stripAt, AVal.strip, stripL, rd]; rfl) ?_
              refine awp_seq_k ?_
              intro K78 hK78
              refine awp_seq_k ?_
              intro K79 hK79
              replace h := joinK_some h
              rcases h with ⟨k81, hk81, h⟩
              refine awp_join [54, 55, 56, 57, 58, 59, 60] [61] (fun vs st' => ∃ j80 : Bool, vs = [.bool j80] ∧ st'.m = m ∧ k81 j80 = some r) hK79 ?_ ?_
              · clear h
                rintro _ ⟨m82, n83⟩ ⟨j80, rfl, hm, h⟩
                simp only [] at hm
                replace hm := hm.symm
                subst hm
                replace h := hk81 _ _ h
                clear hk81 k81
                refine AWp.congr (by simp (disch := omega) only [vmE, liE, eE, seval, deE, fxE, retOf, maskA, setVals, getVals, putA, stripAt, AVal.strip, stripL, rd]; rfl) ?_
                replace h := ite_some h
                rcases h with ⟨hc88, h⟩ | ⟨hc88, h⟩
                · refine awp_cond_t rfl hc88 ?_
                  refine awp_skip ?_
                  refine kPost_normal (hK78 _ _ ?_)
                  refine awp_block_k ?_
                  intro K89 hK89
                  replace h := bind_some h
                  rcases h with ⟨x91, hx92, h⟩
                  refine awp_region' [] ?_
                  intro K90 hK90
                  simp (disch := omega) only [vmE, liE, eE, seval, deE, fxE, retOf, maskA, setVals, getVals, putA, stripAt, AVal.strip, stripL, rd, hc15, hx50, hc88, hx92]
                  refine hK90 _ _ (bPost_normal (hK89 _ _ (kPost_normal (hJ94 k77 _ _ _ (Nat.lt_succ_self _) (List.Sublist.refl _) ?_ ⟨x91, ?_, ?_, h⟩)))) <;> simp (disch := omega) only [vmE, liE, eE, seval, deE, fxE, retOf, maskA, setVals, getVals, putA, stripAt, AVal.strip, stripL, rd, hc15, hx50, hc88, hx92]
                · refine awp_cond_f rfl hc88 ?_
                  refine awp_exit ?_
                  refine kPost_exit (kPost_exit (bPost_here (hK76 _ _ (kPost_normal (hJ163 _ _ _ (List.Sublist.refl _) ?_ ⟨s7, ?_, ?_, h⟩))))) <;> simp (disch := omega) only [vmE, liE, eE, seval, deE, fxE, retOf, maskA, setVals, getVals, putA, stripAt, AVal.strip, stripL, rd, hc15, hx50, hc88]
              · intro J93 hJ93
                replace h := ite_some h
                rcases h with ⟨hc85, h⟩ | ⟨hc85, h⟩
                · replace h := bind_some h
                  rcases h with ⟨x86, hx87, h⟩
                  refine awp_region' [] ?_
                  intro K84 hK84
                  simp (disch := omega) only [vmE, liE, eE, seval, deE, fxE, retOf, maskA, setVals, getVals, putA, stripAt, AVal.strip, stripL, rd, hc15, hx50, hc85, hx87]
                  refine hK84 _ _ (kPost_normal (hJ93 _ _ _ (List.Sublist.refl _) ?_ ⟨((bord x86) == 48), ?_, ?_, h⟩)) <;> simp (disch := omega) only [vmE, liE, eE, seval, deE, fxE, retOf, maskA, setVals, getVals, putA, stripAt, AVal.strip, stripL, rd, hc15, hx50, hc85, hx87]
                · refine awp_region' [] ?_
                  intro K84 hK84
                  simp (disch := omega) only [vmE, liE, eE, seval, deE, fxE, retOf, maskA, setVals, getVals, putA, stripAt, AVal.strip, stripL, rd, hc15, hx50, hc85]
                  refine hK84 _ _ (kPost_normal (hJ93 _ _ _ (List.Sublist.refl _) ?_ ⟨false, ?_, ?_, h⟩)) <;> simp (disch := omega) only [vmE, liE, eE, seval, deE, fxE, retOf, maskA, setVals, getVals, putA, stripAt, AVal.strip, stripL, rd, hc15, hx50, hc85]
        · intro J164 hJ164
          refine awp_seq_k ?_
          intro K56 hK56
          replace h := bind_some h
          rcases h with ⟨y58, hy59, h⟩
          refine awp_region' [] ?_
          intro K57 hK57
          simp (disch := omega) only [vmE, liE, eE, seval, deE, fxE, retOf, maskA, setVals, getVals, putA, stripAt, AVal.strip, stripL, rd, hc15, hx50]
          refine ACall.of (ref01_Index_w hy59) ?_ ?_
          · first | (simp (disch := omega) only [vmE, liE, eE, seval, deE, fxE, retOf, maskA, setVals, getVals, putA, stripAt, AVal.strip, stripL, rd, hc15, hx50]) | rfl
          rintro _ ⟨m61, n60⟩ hn60 ⟨rfl, hm⟩
          simp (disch := omega) only [vmE, liE, eE, seval] at hn60 hm
          replace hm := hm.symm
          subst hm
          simp (disch := omega) only [vmE, liE, eE, seval, deE, fxE, retOf, maskA, setVals, getVals, putA, stripAt, AVal.strip, stripL, rd, hc15, hx50]
          refine hK57 _ _ (kPost_normal (hK56 _ _ ?_))
          refine awp_seq_k ?_
          intro K62 hK62
          refine awp_region' [] ?_
          intro K63 hK63
          simp (disch := omega) only [vmE, liE, eE, seval, deE, fxE, retOf, maskA, setVals, getVals, putA, stripAt, AVal.strip, stripL, rd, hc15, hx50]
          refine hK63 _ _ (kPost_normal (hK62 _ _ ?_))
          replace h := ite_some h
          rcases h with ⟨hc64, h⟩ | ⟨hc64, h⟩
          · refine awp_cond_t rfl hc64 ?_
            replace h := bind_some h
            rcases h with ⟨x66, hx67, h⟩
            replace h := bind_some h
            rcases h with ⟨x68, hx69, h⟩
            replace h := grd_some h
            rcases h with ⟨hg70, h⟩
            try simp only [liE, seval] at hg70
            refine awp_draw' [] (.take 0 (.take 1 (.take 2 (.take 3 (.take 4 (.take 5 (.take 6 (.take 7 (.take 8 (.take 9 (.take 10 (.take 11 (.take 12 (.take 13 (.take 14 (.alt 15 [14, 13, 12, 11, 10, 9, 8, 7] (.alt 16 [] (.done) (.stop)) (.stop))))))))))))))))) vE_mixed (by kernel_rfl) ?_
            intro K65 hK65
            simp (disch := omega) only [vmE, liE, eE, seval, deE, fxE, retOf, maskA, setVals, getVals, putA, stripAt, AVal.strip, stripL, rd, hc15, hx50, hc64, hx67, hx69, hg70]
            refine hK65 _ _ (kPost_normal (hJ164 _ _ _ (List.Sublist.refl _) ?_ ⟨((wr .i64 (y45 - (wr .i64 ((wr .i64 ((x49.length : Int) - y58)) - 1)))), (x66 ++ x68)), ?_, ?_, h⟩)) <;> simp (disch := omega) only [vmE, liE, eE, seval, deE, fxE, retOf, maskA, setVals, getVals, putA, stripAt, AVal.strip, stripL, rd, hc15, hx50, hc64, hx67, hx69, hg70]
          · refine awp_cond_f rfl hc64 ?_
            refine awp_skip ?_
            refine kPost_normal (hJ164 _ _ _ (List.Sublist.refl _) ?_ ⟨(y45, x49), ?_, ?_, h⟩) <;> simp (disch := omega) only [vmE, liE, eE, seval, deE, fxE, retOf, maskA, setVals, getVals, putA, stripAt, AVal.strip, stripL, rd, hc15, hx50, hc64]
      · intro J165 hJ165
        refine awp_seq_k ?_
        intro K25 hK25
        replace h := bind_some h
        rcases h with ⟨x27, hx28, h⟩
        refine awp_region' [] ?_
        intro K26 hK26
        simp (disch := omega) only [vmE, liE, eE, seval, deE, fxE, retOf, maskA, setVals, getVals, putA, stripAt, AVal.strip, stripL, rd, hc15, hx28]
        refine hK26 _ _ (kPost_normal (hK25 _ _ ?_))
        replace h := ite_some h
        rcases h with ⟨hc29, h⟩ | ⟨hc29, h⟩
        · refine awp_cond_t rfl hc29 ?_
          replace h := bind_some h
          rcases h with ⟨x31, hx32, h⟩
          refine awp_draw' [] (.take 0 (.take 1 (.alt 2 [1, 0] (.alt 3 [] (.done) (.stop)) (.stop)))) vE_mixed (by kernel_rfl) ?_
          intro K30 hK30
          simp (disch := omega) only [vmE, liE, eE, seval, deE, fxE, retOf, maskA, setVals, getVals, putA, stripAt, AVal.strip, stripL, rd, hc15, hx28, hc29, hx32]
          refine hK30 _ _ (kPost_normal (hJ165 _ _ _ (List.Sublist.refl _) ?_ ⟨(x31, ([45] : List UInt8)), ?_, ?_, h⟩)) <;> simp (disch := omega) only [vmE, liE, eE, seval, deE, fxE, retOf, maskA, setVals, getVals, putA, stripAt, AVal.strip, stripL, rd, hc15, hx28, hc29, hx32]
        · refine awp_cond_f rfl hc29 ?_
          refine awp_skip ?_
          refine kPost_normal (hJ165 _ _ _ (List.Sublist.refl _) ?_ ⟨(a0, []), ?_, ?_, h⟩) <;> simp (disch := omega) only [vmE, liE, eE, seval, deE, fxE, retOf, maskA, setVals, getVals, putA, stripAt, AVal.strip, stripL, rd, hc15, hx28, hc29]
  · intro J166 hJ166
    replace h := ite_some h
    rcases h with ⟨hc10, h⟩ | ⟨hc10, h⟩
    · refine awp_region' [] ?_
      intro K9 hK9
      simp (disch := omega) only [vmE, liE, eE, seval, deE, fxE, retOf, maskA, setVals, getVals, putA, stripAt, AVal.strip, stripL, rd, hc10]
      refine hK9 _ _ (kPost_normal (hJ166 _ _ _ (List.Sublist.refl _) ?_ ⟨true, ?_, ?_, h⟩)) <;> simp (disch := omega) only [vmE, liE, eE, seval, deE, fxE, retOf, maskA, setVals, getVals, putA, stripAt, AVal.strip, stripL, rd, hc10]
    · replace h := bind_some h
      rcases h with ⟨y11, hy12, h⟩
      refine awp_region' [] ?_
      intro K9 hK9
      simp (disch := omega) only [vmE, liE, eE, seval, deE, fxE, retOf, maskA, setVals, getVals, putA, stripAt, AVal.strip, stripL, rd, hc10, hc10]
      refine ACall.of (ref13_numeral_w hy12) ?_ ?_
      · first | (simp (disch := omega) only [vmE, liE, eE, seval, deE, fxE, retOf, maskA, setVals, getVals, putA, stripAt, AVal.strip, stripL, rd, hc10, hc10]) | rfl
      rintro _ ⟨m14, n13⟩ hn13 ⟨rfl, hm⟩
      simp (disch := omega) only [vmE, liE, eE, seval] at hn13 hm
      replace hm := hm.symm
      subst hm
      simp (disch := omega) only [vmE, liE, eE, seval, deE, fxE, retOf, maskA, setVals, getVals, putA, stripAt, AVal.strip, stripL, rd, hc10]
      refine hK9 _ _ (kPost_normal (hJ166 _ _ _ (List.Sublist.refl _) ?_ ⟨(y11 != (a0.length : Int)), ?_, ?_, h⟩)) <;> simp (disch := omega) only [vmE, liE, eE, seval, deE, fxE, retOf, maskA, setVals, getVals, putA, stripAt, AVal.strip, stripL, rd, hc10]
theorem ref04_Hex_w {N : Nat} {a0 : (List UInt8)} {a1 : Int} {r : Int × Int} (h : ref04_Hex N a0 a1 = some r) {n : Nat} {m : List (Nat × List AVal)} :
    ACall vE 71 [.str a0, .int .u64 a1] ⟨m, n⟩ fun r' st => r' = .tuple [.int .u64 r.1, .int .i64 r.2] ∧ st.m = m := by
  rw [ref04_Hex] at h
  refine acall_k Try.func71 rfl ?_
  intro R hR
  refine AWp.congr (by simp only [Try.ntmps71, liE, seval]; rfl) ?_
  refine awp_seq_k ?_
  intro K1 hK1
  refine awp_region' [] ?_
  intro K2 hK2
  simp (disch := omega) only [vmE, liE, eE, seval, deE, fxE, retOf, maskA, setVals, getVals, putA, stripAt, AVal.strip, stripL, rd]
  refine hK2 _ _ (kPost_normal (hK1 _ _ ?_))
  refine awp_seq_k ?_
  intro K3 hK3
  replace h := bind_some h
  rcases h with ⟨y5, hy6, h⟩
  refine awp_region' [] ?_
  intro K4 hK4
  simp (disch := omega) only [vmE, liE, eE, seval, deE, fxE, retOf, maskA, setVals, getVals, putA, stripAt, AVal.strip, stripL, rd]
  refine ACall.of (ref04_parse_w hy6) ?_ ?_
  · first | (simp (disch := omega) only [vmE, liE, eE, seval, deE, fxE, retOf, maskA, setVals, getVals, putA, stripAt, AVal.strip, stripL, rd]) | rfl
  rintro _ ⟨m8, n7⟩ hn7 ⟨rfl, hm⟩
  simp (disch := omega) only [vmE, liE, eE, seval] at hn7 hm
  replace hm := hm.symm
  subst hm
  simp (disch := omega) only [vmE, liE, eE, seval, deE, fxE, retOf, maskA, setVals, getVals, putA, stripAt, AVal.strip, stripL, rd]
  refine hK4 _ _ (kPost_normal (hK3 _ _ ?_))
  refine awp_ret ?_
  refine hR _ _ _ (retPost_r (by simp (disch := omega) only [Try.results71, vmE, liE, eE, seval, deE, fxE, retOf, maskA, setVals, getVals, putA, stripAt, AVal.strip, stripL, rd]; rfl) (List.Sublist.refl _) ?_)
  cases h
  refine ⟨?_, ?_⟩
  · simp (disch := omega) only [vmE, liE, eE, seval, deE, fxE, retOf, maskA, setVals, getVals, putA, stripAt, AVal.strip, stripL, rd]
  · rfl
end Go.Proofs.Ytdbeiialamganaa
