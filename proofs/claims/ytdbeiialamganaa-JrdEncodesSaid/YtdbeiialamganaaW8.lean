/- That the code computes these functions; written by decomp.py. -/
import Derived.Test.YtdbeiialamganaaVmFacts
import Derived.Test.YtdbeiialamganaaDefs
import Derived.Test.YtdbeiialamganaaVMSets
import Derived.Test.YtdbeiialamganaaW0
import Derived.Test.YtdbeiialamganaaW4
set_option linter.unusedVariables false
set_option linter.unusedSimpArgs false
set_option maxHeartbeats 4000000
set_option maxRecDepth 100000
set_option linter.defProp false
namespace Go.Proofs.Ytdbeiialamganaa
open Go.VM
theorem ref13_numeral_w {N : Nat} {a0 : (List UInt8)} {r : Int} (h : ref13_numeral N a0 = some r) {n : Nat} {m : List (Nat × List AVal)} :
    ACall vE 55 [.str a0] ⟨m, n⟩ fun r' st => r' = .int .i64 r ∧ st.m = m := by
  rw [ref13_numeral] at h
  refine acall_k Try.func55 rfl ?_
  intro R hR
  refine AWp.congr (by simp only [Try.ntmps55, liE, seval]; rfl) ?_
  refine awp_seq_k ?_
  intro K1 hK1
  refine awp_region' [] ?_
  intro K2 hK2
  simp (disch := omega) only [vmE, liE, eE, seval, deE, fxE, retOf, maskA, setVals, getVals, putA, stripAt, AVal.strip, stripL, rd]
  refine hK2 _ _ (kPost_normal (hK1 _ _ ?_))
  refine awp_seq_k ?_
  intro K3 hK3
  refine awp_region' [] ?_
  intro K4 hK4
  simp (disch := omega) only [vmE, liE, eE, seval, deE, fxE, retOf, maskA, setVals, getVals, putA, stripAt, AVal.strip, stripL, rd]
  refine hK4 _ _ (kPost_normal (hK3 _ _ ?_))
  refine awp_seq_k ?_
  intro K5 hK5
  replace h := joinK_some h
  rcases h with ⟨k7, hk7, h⟩
  refine awp_join [7, 8, 9, 10, 11, 12, 13, 14, 15, 16, 17, 18] [3] (fun vs st' => ∃ j6 : Int, vs = [.int .i64 j6] ∧ st'.m = m ∧ k7 j6 = some r) hK5 ?_ ?_
  · clear h
    rintro _ ⟨m8, n9⟩ ⟨j6, rfl, hm, h⟩
    simp only [] at hm
    replace hm := hm.symm
    subst hm
    replace h := hk7 _ _ h
    clear hk7 k7
    refine AWp.congr (by simp (disch := omega) only [vmE, liE, eE, seval, deE, fxE, retOf, maskA, setVals, getVals, putA, stripAt, AVal.strip, stripL, rd]; rfl) ?_
    refine awp_seq_k ?_
    intro K22 hK22
    refine awp_seq_k ?_
    intro K23 hK23
    replace h := joinK_some h
    rcases h with ⟨k25, hk25, h⟩
    refine awp_join [19, 20, 21, 22, 23, 24, 25, 26, 27, 28] [29] (fun vs st' => ∃ j24 : Bool, vs = [.bool j24] ∧ st'.m = m ∧ k25 j24 = some r) hK23 ?_ ?_
    · clear h
      rintro _ ⟨m26, n27⟩ ⟨j24, rfl, hm, h⟩
      simp only [] at hm
      replace hm := hm.symm
      subst hm
      replace h := hk25 _ _ h
      clear hk25 k25
      refine AWp.congr (by simp (disch := omega) only [vmE, liE, eE, seval, deE, fxE, retOf, maskA, setVals, getVals, putA, stripAt, AVal.strip, stripL, rd]; rfl) ?_
      replace h := ite_some h
      rcases h with ⟨hc36, h⟩ | ⟨hc36, h⟩
      · refine awp_cond_t rfl hc36 ?_
        refine awp_seq_k ?_
        intro K37 hK37
        refine awp_region' [] ?_
        intro K38 hK38
        simp (disch := omega) only [vmE, liE, eE, seval, deE, fxE, retOf, maskA, setVals, getVals, putA, stripAt, AVal.strip, stripL, rd, hc36]
        refine hK38 _ _ (kPost_normal (hK37 _ _ ?_))
        refine awp_ret ?_
        refine kPost_ret (hR _ _ _ (retPost_r (by simp (disch := omega) only [Try.results55, vmE, liE, eE, seval, deE, fxE, retOf, maskA, setVals, getVals, putA, stripAt, AVal.strip, stripL, rd, hc36]; rfl) (List.Sublist.refl _) ?_))
        cases h
        refine ⟨?_, ?_⟩
        · simp (disch := omega) only [vmE, liE, eE, seval, deE, fxE, retOf, maskA, setVals, getVals, putA, stripAt, AVal.strip, stripL, rd, hc36]
        · rfl
      · refine awp_cond_f rfl hc36 ?_
        refine awp_skip ?_
        refine kPost_normal (hK22 _ _ ?_)
        refine awp_seq_k ?_
        intro K39 hK39
        replace h := joinK_some h
        rcases h with ⟨k41, hk41, h⟩
        refine awp_join [30, 31, 32, 33, 34, 35, 36, 37, 38, 39, 40, 41] [3] (fun vs st' => ∃ j40 : Int, vs = [.int .i64 j40] ∧ st'.m = m ∧ k41 j40 = some r) hK39 ?_ ?_
        · clear h
          rintro _ ⟨m42, n43⟩ ⟨j40, rfl, hm, h⟩
          simp only [] at hm
          replace hm := hm.symm
          subst hm
          replace h := hk41 _ _ h
          clear hk41 k41
          refine AWp.congr (by simp (disch := omega) only [vmE, liE, eE, seval, deE, fxE, retOf, maskA, setVals, getVals, putA, stripAt, AVal.strip, stripL, rd]; rfl) ?_
          refine awp_seq_k ?_
          intro K57 hK57
          replace h := joinK_some h
          rcases h with ⟨k59, hk59, h⟩
          refine awp_join [4, 42, 43, 44, 45, 46, 47, 48, 49, 50, 51, 52, 53, 54, 55, 56, 57, 58, 59, 60, 61, 62, 63, 64] [3] (fun vs st' => ∃ j58 : Int, vs = [.int .i64 j58] ∧ st'.m = m ∧ k59 j58 = some r) hK57 ?_ ?_
          · clear h
            rintro _ ⟨m60, n61⟩ ⟨j58, rfl, hm, h⟩
            simp only [] at hm
            replace hm := hm.symm
            subst hm
            replace h := hk59 _ _ h
            clear hk59 k59
            refine AWp.congr (by simp (disch := omega) only [vmE, liE, eE, seval, deE, fxE, retOf, maskA, setVals, getVals, putA, stripAt, AVal.strip, stripL, rd]; rfl) ?_
            refine awp_seq_k ?_
            intro K85 hK85
            replace h := joinK_some h
            rcases h with ⟨k87, hk87, h⟩
            refine awp_join [5, 6, 65, 66, 67, 68, 69, 70, 71, 72, 73, 74, 75, 76, 77, 78, 79, 80, 81, 82, 83, 84, 85, 86, 87, 88, 89, 90, 91, 92, 93, 94, 95, 96, 97] [3] (fun vs st' => ∃ j86 : Int, vs = [.int .i64 j86] ∧ st'.m = m ∧ k87 j86 = some r) hK85 ?_ ?_
            · clear h
              rintro _ ⟨m88, n89⟩ ⟨j86, rfl, hm, h⟩
              simp only [] at hm
              replace hm := hm.symm
              subst hm
              replace h := hk87 _ _ h
              clear hk87 k87
              refine AWp.congr (by simp (disch := omega) only [vmE, liE, eE, seval, deE, fxE, retOf, maskA, setVals, getVals, putA, stripAt, AVal.strip, stripL, rd]; rfl) ?_
              refine awp_seq_k ?_
              intro K143 hK143
              refine awp_region' [] ?_
              intro K144 hK144
              simp (disch := omega) only [vmE, liE, eE, seval, deE, fxE, retOf, maskA, setVals, getVals, putA, stripAt, AVal.strip, stripL, rd, hc36]
              refine hK144 _ _ (kPost_normal (hK143 _ _ ?_))
              refine awp_ret ?_
              refine hR _ _ _ (retPost_r (by simp (disch := omega) only [Try.results55, vmE, liE, eE, seval, deE, fxE, retOf, maskA, setVals, getVals, putA, stripAt, AVal.strip, stripL, rd, hc36]; rfl) (List.Sublist.refl _) ?_)
              cases h
              refine ⟨?_, ?_⟩
              · simp (disch := omega) only [vmE, liE, eE, seval, deE, fxE, retOf, maskA, setVals, getVals, putA, stripAt, AVal.strip, stripL, rd, hc36]
              · rfl
            · intro J145 hJ145
              refine awp_seq_k ?_
              intro K90 hK90
              replace h := joinK_some h
              rcases h with ⟨k92, hk92, h⟩
              refine awp_join [65, 66, 67, 68, 69, 70, 71, 72, 73] [74] (fun vs st' => ∃ j91 : Bool, vs = [.bool j91] ∧ st'.m = m ∧ k92 j91 = some r) hK90 ?_ ?_
              · clear h
                rintro _ ⟨m93, n94⟩ ⟨j91, rfl, hm, h⟩
                simp only [] at hm
                replace hm := hm.symm
                subst hm
                replace h := hk92 _ _ h
                clear hk92 k92
                refine AWp.congr (by simp (disch := omega) only [vmE, liE, eE, seval, deE, fxE, retOf, maskA, setVals, getVals, putA, stripAt, AVal.strip, stripL, rd]; rfl) ?_
                replace h := ite_some h
                rcases h with ⟨hc103, h⟩ | ⟨hc103, h⟩
                · refine awp_cond_t rfl hc103 ?_
                  refine awp_seq_k ?_
                  intro K104 hK104
                  refine awp_region' [] ?_
                  intro K105 hK105
                  simp (disch := omega) only [vmE, liE, eE, seval, deE, fxE, retOf, maskA, setVals, getVals, putA, stripAt, AVal.strip, stripL, rd, hc36, hc103]
                  refine hK105 _ _ (kPost_normal (hK104 _ _ ?_))
                  refine awp_seq_k ?_
                  intro K106 hK106
                  replace h := joinK_some h
                  rcases h with ⟨k108, hk108, h⟩
                  refine awp_join [77, 78, 79, 80, 81, 82, 83, 84, 85, 86, 87, 88] [5] (fun vs st' => ∃ j107 : Int, vs = [.int .i64 j107] ∧ st'.m = m ∧ k108 j107 = some r) hK106 ?_ ?_
                  · clear h
                    rintro _ ⟨m109, n110⟩ ⟨j107, rfl, hm, h⟩
                    simp only [] at hm
                    replace hm := hm.symm
                    subst hm
                    replace h := hk108 _ _ h
                    clear hk108 k108
                    refine AWp.congr (by simp (disch := omega) only [vmE, liE, eE, seval, deE, fxE, retOf, maskA, setVals, getVals, putA, stripAt, AVal.strip, stripL, rd]; rfl) ?_
                    refine awp_seq_k ?_
                    intro K127 hK127
                    replace h := bind_some h
                    rcases h with ⟨y129, hy130, h⟩
                    replace h := bind_some h
                    rcases h with ⟨y133, hy134, h⟩
                    refine awp_region' [] ?_
                    intro K128 hK128
                    simp (disch := omega) only [vmE, liE, eE, seval, deE, fxE, retOf, maskA, setVals, getVals, putA, stripAt, AVal.strip, stripL, rd, hc36, hc103]
                    refine ACall.of (ref13_tail_w hy130) ?_ ?_
                    · first | (simp (disch := omega) only [vmE, liE, eE, seval, deE, fxE, retOf, maskA, setVals, getVals, putA, stripAt, AVal.strip, stripL, rd, hc36, hc103]) | rfl
                    rintro _ ⟨m132, n131⟩ hn131 ⟨rfl, hm⟩
                    simp (disch := omega) only [vmE, liE, eE, seval] at hn131 hm
                    replace hm := hm.symm
                    subst hm
                    simp (disch := omega) only [vmE, liE, eE, seval, deE, fxE, retOf, maskA, setVals, getVals, putA, stripAt, AVal.strip, stripL, rd, hc36, hc103]
                    refine ACall.of (ref13_run_w hy134) ?_ ?_
                    · first | (simp (disch := omega) only [vmE, liE, eE, seval, deE, fxE, retOf, maskA, setVals, getVals, putA, stripAt, AVal.strip, stripL, rd, hc36, hc103]) | rfl
                    rintro _ ⟨m136, n135⟩ hn135 ⟨rfl, hm⟩
                    simp (disch := omega) only [vmE, liE, eE, seval] at hn135 hm
                    replace hm := hm.symm
                    subst hm
                    simp (disch := omega) only [vmE, liE, eE, seval, deE, fxE, retOf, maskA, setVals, getVals, putA, stripAt, AVal.strip, stripL, rd, hc36, hc103]
                    refine hK128 _ _ (kPost_normal (hK127 _ _ ?_))
                    refine awp_seq_k ?_
                    intro K137 hK137
                    refine awp_region' [] ?_
                    intro K138 hK138
                    simp (disch := omega) only [vmE, liE, eE, seval, deE, fxE, retOf, maskA, setVals, getVals, putA, stripAt, AVal.strip, stripL, rd, hc36, hc103]
                    refine hK138 _ _ (kPost_normal (hK137 _ _ ?_))
                    replace h := ite_some h
                    rcases h with ⟨hc139, h⟩ | ⟨hc139, h⟩
                    · refine awp_cond_t rfl hc139 ?_
                      refine awp_region' [] ?_
                      intro K140 hK140
                      simp (disch := omega) only [vmE, liE, eE, seval, deE, fxE, retOf, maskA, setVals, getVals, putA, stripAt, AVal.strip, stripL, rd, hc36, hc103, hc139]
                      refine hK140 _ _ (kPost_normal (hJ145 _ _ _ (List.Sublist.refl _) ?_ ⟨(wr .i64 (j107 + y133)), ?_, ?_, h⟩)) <;> simp (disch := omega) only [vmE, liE, eE, seval, deE, fxE, retOf, maskA, setVals, getVals, putA, stripAt, AVal.strip, stripL, rd, hc36, hc103, hc139]
                    · refine awp_cond_f rfl hc139 ?_
                      refine awp_skip ?_
                      refine kPost_normal (hJ145 _ _ _ (List.Sublist.refl _) ?_ ⟨j58, ?_, ?_, h⟩) <;> simp (disch := omega) only [vmE, liE, eE, seval, deE, fxE, retOf, maskA, setVals, getVals, putA, stripAt, AVal.strip, stripL, rd, hc36, hc103, hc139]
                  · intro J141 hJ141
                    refine awp_seq_k ?_
                    intro K111 hK111
                    replace h := joinK_some h
                    rcases h with ⟨k113, hk113, h⟩
                    refine awp_join [77, 78, 79, 80, 81, 82, 83, 84, 85] [86] (fun vs st' => ∃ j112 : Bool, vs = [.bool j112] ∧ st'.m = m ∧ k113 j112 = some r) hK111 ?_ ?_
                    · clear h
                      rintro _ ⟨m114, n115⟩ ⟨j112, rfl, hm, h⟩
                      simp only [] at hm
                      replace hm := hm.symm
                      subst hm
                      replace h := hk113 _ _ h
                      clear hk113 k113
                      refine AWp.congr (by simp (disch := omega) only [vmE, liE, eE, seval, deE, fxE, retOf, maskA, setVals, getVals, putA, stripAt, AVal.strip, stripL, rd]; rfl) ?_
                      replace h := ite_some h
                      rcases h with ⟨hc124, h⟩ | ⟨hc124, h⟩
                      · refine awp_cond_t rfl hc124 ?_
                        refine awp_region' [] ?_
                        intro K125 hK125
                        simp (disch := omega) only [vmE, liE, eE, seval, deE, fxE, retOf, maskA, setVals, getVals, putA, stripAt, AVal.strip, stripL, rd, hc36, hc103, hc124]
                        refine hK125 _ _ (kPost_normal (hJ141 _ _ _ (List.Sublist.refl _) ?_ ⟨(wr .i64 ((wr .i64 (j58 + 1)) + 1)), ?_, ?_, h⟩)) <;> simp (disch := omega) only [vmE, liE, eE, seval, deE, fxE, retOf, maskA, setVals, getVals, putA, stripAt, AVal.strip, stripL, rd, hc36, hc103, hc124]
                      · refine awp_cond_f rfl hc124 ?_
                        refine awp_skip ?_
                        refine kPost_normal (hJ141 _ _ _ (List.Sublist.refl _) ?_ ⟨(wr .i64 (j58 + 1)), ?_, ?_, h⟩) <;> simp (disch := omega) only [vmE, liE, eE, seval, deE, fxE, retOf, maskA, setVals, getVals, putA, stripAt, AVal.strip, stripL, rd, hc36, hc103, hc124]
                    · intro J126 hJ126
                      replace h := ite_some h
                      rcases h with ⟨hc117, h⟩ | ⟨hc117, h⟩
                      · replace h := bind_some h
                        rcases h with ⟨x118, hx119, h⟩
                        replace h := bind_some h
                        rcases h with ⟨y120, hy121, h⟩
                        refine awp_region' [] ?_
                        intro K116 hK116
                        simp (disch := omega) only [vmE, liE, eE, seval, deE, fxE, retOf, maskA, setVals, getVals, putA, stripAt, AVal.strip, stripL, rd, hc36, hc103, hc117, hx119, hc117, hx119]
                        refine ACall.of (ref01_In_w hy121) ?_ ?_
                        · first | (simp (disch := omega) only [vmE, liE, eE, seval, deE, fxE, retOf, maskA, setVals, getVals, putA, stripAt, AVal.strip, stripL, rd, hc36, hc103, hc117, hx119, hc117, hx119]) | rfl
                        rintro _ ⟨m123, n122⟩ hn122 ⟨rfl, hm⟩
                        simp (disch := omega) only [vmE, liE, eE, seval] at hn122 hm
                        replace hm := hm.symm
                        subst hm
                        simp (disch := omega) only [vmE, liE, eE, seval, deE, fxE, retOf, maskA, setVals, getVals, putA, stripAt, AVal.strip, stripL, rd, hc36, hc103, hc117, hx119]
                        refine hK116 _ _ (kPost_normal (hJ126 _ _ _ (List.Sublist.refl _) ?_ ⟨y120, ?_, ?_, h⟩)) <;> simp (disch := omega) only [vmE, liE, eE, seval, deE, fxE, retOf, maskA, setVals, getVals, putA, stripAt, AVal.strip, stripL, rd, hc36, hc103, hc117, hx119]
                      · refine awp_region' [] ?_
                        intro K116 hK116
                        simp (disch := omega) only [vmE, liE, eE, seval, deE, fxE, retOf, maskA, setVals, getVals, putA, stripAt, AVal.strip, stripL, rd, hc36, hc103, hc117]
                        refine hK116 _ _ (kPost_normal (hJ126 _ _ _ (List.Sublist.refl _) ?_ ⟨false, ?_, ?_, h⟩)) <;> simp (disch := omega) only [vmE, liE, eE, seval, deE, fxE, retOf, maskA, setVals, getVals, putA, stripAt, AVal.strip, stripL, rd, hc36, hc103, hc117]
                · refine awp_cond_f rfl hc103 ?_
                  refine awp_skip ?_
                  refine kPost_normal (hJ145 _ _ _ (List.Sublist.refl _) ?_ ⟨j58, ?_, ?_, h⟩) <;> simp (disch := omega) only [vmE, liE, eE, seval, deE, fxE, retOf, maskA, setVals, getVals, putA, stripAt, AVal.strip, stripL, rd, hc36, hc103]
              · intro J142 hJ142
                replace h := ite_some h
                rcases h with ⟨hc96, h⟩ | ⟨hc96, h⟩
                · replace h := bind_some h
                  rcases h with ⟨x97, hx98, h⟩
                  replace h := bind_some h
                  rcases h with ⟨y99, hy100, h⟩
                  refine awp_region' [] ?_
                  intro K95 hK95
                  simp (disch := omega) only [vmE, liE, eE, seval, deE, fxE, retOf, maskA, setVals, getVals, putA, stripAt, AVal.strip, stripL, rd, hc36, hc96, hx98, hc96, hx98]
                  refine ACall.of (ref01_In_w hy100) ?_ ?_
                  · first | (simp (disch := omega) only [vmE, liE, eE, seval, deE, fxE, retOf, maskA, setVals, getVals, putA, stripAt, AVal.strip, stripL, rd, hc36, hc96, hx98, hc96, hx98]) | rfl
                  rintro _ ⟨m102, n101⟩ hn101 ⟨rfl, hm⟩
                  simp (disch := omega) only [vmE, liE, eE, seval] at hn101 hm
                  replace hm := hm.symm
                  subst hm
                  simp (disch := omega) only [vmE, liE, eE, seval, deE, fxE, retOf, maskA, setVals, getVals, putA, stripAt, AVal.strip, stripL, rd, hc36, hc96, hx98]
                  refine hK95 _ _ (kPost_normal (hJ142 _ _ _ (List.Sublist.refl _) ?_ ⟨y99, ?_, ?_, h⟩)) <;> simp (disch := omega) only [vmE, liE, eE, seval, deE, fxE, retOf, maskA, setVals, getVals, putA, stripAt, AVal.strip, stripL, rd, hc36, hc96, hx98]
                · refine awp_region' [] ?_
                  intro K95 hK95
                  simp (disch := omega) only [vmE, liE, eE, seval, deE, fxE, retOf, maskA, setVals, getVals, putA, stripAt, AVal.strip, stripL, rd, hc36, hc96]
                  refine hK95 _ _ (kPost_normal (hJ142 _ _ _ (List.Sublist.refl _) ?_ ⟨false, ?_, ?_, h⟩)) <;> simp (disch := omega) only [vmE, liE, eE, seval, deE, fxE, retOf, maskA, setVals, getVals, putA, stripAt, AVal.strip, stripL, rd, hc36, hc96]
          · intro J146 hJ146
            refine awp_seq_k ?_
            intro K62 hK62
            replace h := bind_some h
            rcases h with ⟨y64, hy65, h⟩
            replace h := bind_some h
            rcases h with ⟨y68, hy69, h⟩
            refine awp_region' [] ?_
            intro K63 hK63
            simp (disch := omega) only [vmE, liE, eE, seval, deE, fxE, retOf, maskA, setVals, getVals, putA, stripAt, AVal.strip, stripL, rd, hc36]
            refine ACall.of (ref13_tail_w hy65) ?_ ?_
            · first | (simp (disch := omega) only [vmE, liE, eE, seval, deE, fxE, retOf, maskA, setVals, getVals, putA, stripAt, AVal.strip, stripL, rd, hc36]) | rfl
            rintro _ ⟨m67, n66⟩ hn66 ⟨rfl, hm⟩
            simp (disch := omega) only [vmE, liE, eE, seval] at hn66 hm
            replace hm := hm.symm
            subst hm
            simp (disch := omega) only [vmE, liE, eE, seval, deE, fxE, retOf, maskA, setVals, getVals, putA, stripAt, AVal.strip, stripL, rd, hc36]
            refine ACall.of (ref13_run_w hy69) ?_ ?_
            · first | (simp (disch := omega) only [vmE, liE, eE, seval, deE, fxE, retOf, maskA, setVals, getVals, putA, stripAt, AVal.strip, stripL, rd, hc36]) | rfl
            rintro _ ⟨m71, n70⟩ hn70 ⟨rfl, hm⟩
            simp (disch := omega) only [vmE, liE, eE, seval] at hn70 hm
            replace hm := hm.symm
            subst hm
            simp (disch := omega) only [vmE, liE, eE, seval, deE, fxE, retOf, maskA, setVals, getVals, putA, stripAt, AVal.strip, stripL, rd, hc36]
            refine hK63 _ _ (kPost_normal (hK62 _ _ ?_))
            refine awp_seq_k ?_
            intro K72 hK72
            replace h := joinK_some h
            rcases h with ⟨k74, hk74, h⟩
            refine awp_join [47, 48, 49, 50, 51, 52, 53, 54, 55, 56, 57, 58, 59] [60] (fun vs st' => ∃ j73 : Bool, vs = [.bool j73] ∧ st'.m = m ∧ k74 j73 = some r) hK72 ?_ ?_
            · clear h
              rintro _ ⟨m75, n76⟩ ⟨j73, rfl, hm, h⟩
              simp only [] at hm
              replace hm := hm.symm
              subst hm
              replace h := hk74 _ _ h
              clear hk74 k74
              refine AWp.congr (by simp (disch := omega) only [vmE, liE, eE, seval, deE, fxE, retOf, maskA, setVals, getVals, putA, stripAt, AVal.strip, stripL, rd]; rfl) ?_
              replace h := ite_some h
              rcases h with ⟨hc82, h⟩ | ⟨hc82, h⟩
              · refine awp_cond_t rfl hc82 ?_
                refine awp_region' [] ?_
                intro K83 hK83
                simp (disch := omega) only [vmE, liE, eE, seval, deE, fxE, retOf, maskA, setVals, getVals, putA, stripAt, AVal.strip, stripL, rd, hc36, hc82]
                refine hK83 _ _ (kPost_normal (hJ146 _ _ _ (List.Sublist.refl _) ?_ ⟨(wr .i64 (j40 + (wr .i64 (1 + y68)))), ?_, ?_, h⟩)) <;> simp (disch := omega) only [vmE, liE, eE, seval, deE, fxE, retOf, maskA, setVals, getVals, putA, stripAt, AVal.strip, stripL, rd, hc36, hc82]
              · refine awp_cond_f rfl hc82 ?_
                refine awp_skip ?_
                refine kPost_normal (hJ146 _ _ _ (List.Sublist.refl _) ?_ ⟨j40, ?_, ?_, h⟩) <;> simp (disch := omega) only [vmE, liE, eE, seval, deE, fxE, retOf, maskA, setVals, getVals, putA, stripAt, AVal.strip, stripL, rd, hc36, hc82]
            · intro J84 hJ84
              replace h := ite_some h
              rcases h with ⟨hc78, h⟩ | ⟨hc78, h⟩
              · replace h := bind_some h
                rcases h with ⟨x79, hx80, h⟩
                replace h := ite_some h
                rcases h with ⟨hc81, h⟩ | ⟨hc81, h⟩
                · refine awp_region' [] ?_
                  intro K77 hK77
                  simp (disch := omega) only [vmE, liE, eE, seval, deE, fxE, retOf, maskA, setVals, getVals, putA, stripAt, AVal.strip, stripL, rd, hc36, hc78, hx80, hc81]
                  refine hK77 _ _ (kPost_normal (hJ84 _ _ _ (List.Sublist.refl _) ?_ ⟨(decide (y68 > 0)), ?_, ?_, h⟩)) <;> simp (disch := omega) only [vmE, liE, eE, seval, deE, fxE, retOf, maskA, setVals, getVals, putA, stripAt, AVal.strip, stripL, rd, hc36, hc78, hx80, hc81]
                · refine awp_region' [] ?_
                  intro K77 hK77
                  simp (disch := omega) only [vmE, liE, eE, seval, deE, fxE, retOf, maskA, setVals, getVals, putA, stripAt, AVal.strip, stripL, rd, hc36, hc78, hx80, hc81]
                  refine hK77 _ _ (kPost_normal (hJ84 _ _ _ (List.Sublist.refl _) ?_ ⟨false, ?_, ?_, h⟩)) <;> simp (disch := omega) only [vmE, liE, eE, seval, deE, fxE, retOf, maskA, setVals, getVals, putA, stripAt, AVal.strip, stripL, rd, hc36, hc78, hx80, hc81]
              · refine awp_region' [] ?_
                intro K77 hK77
                simp (disch := omega) only [vmE, liE, eE, seval, deE, fxE, retOf, maskA, setVals, getVals, putA, stripAt, AVal.strip, stripL, rd, hc36, hc78]
                refine hK77 _ _ (kPost_normal (hJ84 _ _ _ (List.Sublist.refl _) ?_ ⟨false, ?_, ?_, h⟩)) <;> simp (disch := omega) only [vmE, liE, eE, seval, deE, fxE, retOf, maskA, setVals, getVals, putA, stripAt, AVal.strip, stripL, rd, hc36, hc78]
        · intro J147 hJ147
          refine awp_seq_k ?_
          intro K44 hK44
          replace h := bind_some h
          rcases h with ⟨x46, hx47, h⟩
          refine awp_region' [] ?_
          intro K45 hK45
          simp (disch := omega) only [vmE, liE, eE, seval, deE, fxE, retOf, maskA, setVals, getVals, putA, stripAt, AVal.strip, stripL, rd, hc36, hx47]
          refine hK45 _ _ (kPost_normal (hK44 _ _ ?_))
          replace h := ite_some h
          rcases h with ⟨hc48, h⟩ | ⟨hc48, h⟩
          · refine awp_cond_t rfl hc48 ?_
            refine awp_region' [] ?_
            intro K49 hK49
            simp (disch := omega) only [vmE, liE, eE, seval, deE, fxE, retOf, maskA, setVals, getVals, putA, stripAt, AVal.strip, stripL, rd, hc36, hx47, hc48]
            refine hK49 _ _ (kPost_normal (hJ147 _ _ _ (List.Sublist.refl _) ?_ ⟨(wr .i64 (j6 + 1)), ?_, ?_, h⟩)) <;> simp (disch := omega) only [vmE, liE, eE, seval, deE, fxE, retOf, maskA, setVals, getVals, putA, stripAt, AVal.strip, stripL, rd, hc36, hx47, hc48]
          · refine awp_cond_f rfl hc48 ?_
            replace h := bind_some h
            rcases h with ⟨x51, hx52, h⟩
            replace h := bind_some h
            rcases h with ⟨y53, hy54, h⟩
            refine awp_region' [] ?_
            intro K50 hK50
            simp (disch := omega) only [vmE, liE, eE, seval, deE, fxE, retOf, maskA, setVals, getVals, putA, stripAt, AVal.strip, stripL, rd, hc36, hx47, hc48, hx52, hx52]
            refine ACall.of (ref13_run_w hy54) ?_ ?_
            · first | (simp (disch := omega) only [vmE, liE, eE, seval, deE, fxE, retOf, maskA, setVals, getVals, putA, stripAt, AVal.strip, stripL, rd, hc36, hx47, hc48, hx52, hx52]) | rfl
            rintro _ ⟨m56, n55⟩ hn55 ⟨rfl, hm⟩
            simp (disch := omega) only [vmE, liE, eE, seval] at hn55 hm
            replace hm := hm.symm
            subst hm
            simp (disch := omega) only [vmE, liE, eE, seval, deE, fxE, retOf, maskA, setVals, getVals, putA, stripAt, AVal.strip, stripL, rd, hc36, hx47, hc48, hx52]
            refine hK50 _ _ (kPost_normal (hJ147 _ _ _ (List.Sublist.refl _) ?_ ⟨(wr .i64 (j6 + y53)), ?_, ?_, h⟩)) <;> simp (disch := omega) only [vmE, liE, eE, seval, deE, fxE, retOf, maskA, setVals, getVals, putA, stripAt, AVal.strip, stripL, rd, hc36, hx47, hc48, hx52]
    · intro J148 hJ148
      replace h := ite_some h
      rcases h with ⟨hc29, h⟩ | ⟨hc29, h⟩
      · refine awp_region' [] ?_
        intro K28 hK28
        simp (disch := omega) only [vmE, liE, eE, seval, deE, fxE, retOf, maskA, setVals, getVals, putA, stripAt, AVal.strip, stripL, rd, hc29]
        refine hK28 _ _ (kPost_normal (hJ148 _ _ _ (List.Sublist.refl _) ?_ ⟨true, ?_, ?_, h⟩)) <;> simp (disch := omega) only [vmE, liE, eE, seval, deE, fxE, retOf, maskA, setVals, getVals, putA, stripAt, AVal.strip, stripL, rd, hc29]
      · replace h := bind_some h
        rcases h with ⟨x30, hx31, h⟩
        replace h := bind_some h
        rcases h with ⟨y32, hy33, h⟩
        refine awp_region' [] ?_
        intro K28 hK28
        simp (disch := omega) only [vmE, liE, eE, seval, deE, fxE, retOf, maskA, setVals, getVals, putA, stripAt, AVal.strip, stripL, rd, hc29, hx31, hc29, hx31]
        refine ACall.of (ref01_IsDigit_w hy33) ?_ ?_
        · first | (simp (disch := omega) only [vmE, liE, eE, seval, deE, fxE, retOf, maskA, setVals, getVals, putA, stripAt, AVal.strip, stripL, rd, hc29, hx31, hc29, hx31]) | rfl
        rintro _ ⟨m35, n34⟩ hn34 ⟨rfl, hm⟩
        simp (disch := omega) only [vmE, liE, eE, seval] at hn34 hm
        replace hm := hm.symm
        subst hm
        simp (disch := omega) only [vmE, liE, eE, seval, deE, fxE, retOf, maskA, setVals, getVals, putA, stripAt, AVal.strip, stripL, rd, hc29, hx31]
        refine hK28 _ _ (kPost_normal (hJ148 _ _ _ (List.Sublist.refl _) ?_ ⟨(!y32), ?_, ?_, h⟩)) <;> simp (disch := omega) only [vmE, liE, eE, seval, deE, fxE, retOf, maskA, setVals, getVals, putA, stripAt, AVal.strip, stripL, rd, hc29, hx31]
  · intro J149 hJ149
    refine awp_seq_k ?_
    intro K10 hK10
    replace h := joinK_some h
    rcases h with ⟨k12, hk12, h⟩
    refine awp_join [7, 8, 9, 10, 11, 12, 13, 14, 15] [16] (fun vs st' => ∃ j11 : Bool, vs = [.bool j11] ∧ st'.m = m ∧ k12 j11 = some r) hK10 ?_ ?_
    · clear h
      rintro _ ⟨m13, n14⟩ ⟨j11, rfl, hm, h⟩
      simp only [] at hm
      replace hm := hm.symm
      subst hm
      replace h := hk12 _ _ h
      clear hk12 k12
      refine AWp.congr (by simp (disch := omega) only [vmE, liE, eE, seval, deE, fxE, retOf, maskA, setVals, getVals, putA, stripAt, AVal.strip, stripL, rd]; rfl) ?_
      replace h := ite_some h
      rcases h with ⟨hc19, h⟩ | ⟨hc19, h⟩
      · refine awp_cond_t rfl hc19 ?_
        refine awp_region' [] ?_
        intro K20 hK20
        simp (disch := omega) only [vmE, liE, eE, seval, deE, fxE, retOf, maskA, setVals, getVals, putA, stripAt, AVal.strip, stripL, rd, hc19]
        refine hK20 _ _ (kPost_normal (hJ149 _ _ _ (List.Sublist.refl _) ?_ ⟨(wr .i64 (0 + 1)), ?_, ?_, h⟩)) <;> simp (disch := omega) only [vmE, liE, eE, seval, deE, fxE, retOf, maskA, setVals, getVals, putA, stripAt, AVal.strip, stripL, rd, hc19]
      · refine awp_cond_f rfl hc19 ?_
        refine awp_skip ?_
        refine kPost_normal (hJ149 _ _ _ (List.Sublist.refl _) ?_ ⟨0, ?_, ?_, h⟩) <;> simp (disch := omega) only [vmE, liE, eE, seval, deE, fxE, retOf, maskA, setVals, getVals, putA, stripAt, AVal.strip, stripL, rd, hc19]
    · intro J21 hJ21
      replace h := ite_some h
      rcases h with ⟨hc16, h⟩ | ⟨hc16, h⟩
      · replace h := bind_some h
        rcases h with ⟨x17, hx18, h⟩
        refine awp_region' [] ?_
        intro K15 hK15
        simp (disch := omega) only [vmE, liE, eE, seval, deE, fxE, retOf, maskA, setVals, getVals, putA, stripAt, AVal.strip, stripL, rd, hc16, hx18]
        refine hK15 _ _ (kPost_normal (hJ21 _ _ _ (List.Sublist.refl _) ?_ ⟨((bord x17) == 45), ?_, ?_, h⟩)) <;> simp (disch := omega) only [vmE, liE, eE, seval, deE, fxE, retOf, maskA, setVals, getVals, putA, stripAt, AVal.strip, stripL, rd, hc16, hx18]
      · refine awp_region' [] ?_
        intro K15 hK15
        simp (disch := omega) only [vmE, liE, eE, seval, deE, fxE, retOf, maskA, setVals, getVals, putA, stripAt, AVal.strip, stripL, rd, hc16]
        refine hK15 _ _ (kPost_normal (hJ21 _ _ _ (List.Sublist.refl _) ?_ ⟨false, ?_, ?_, h⟩)) <;> simp (disch := omega) only [vmE, liE, eE, seval, deE, fxE, retOf, maskA, setVals, getVals, putA, stripAt, AVal.strip, stripL, rd, hc16]
end Go.Proofs.Ytdbeiialamganaa
