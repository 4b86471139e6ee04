/- That the code computes these functions; written by decomp.py. -/
import Derived.Test.YtdbeiialamganaaVmFacts
import Derived.Test.YtdbeiialamganaaDefs
import Derived.Test.YtdbeiialamganaaVMSets
import Derived.Test.YtdbeiialamganaaW5
import Derived.Test.YtdbeiialamganaaW15
set_option linter.unusedVariables false
set_option linter.unusedSimpArgs false
set_option maxHeartbeats 4000000
set_option maxRecDepth 100000
set_option linter.defProp false
namespace Go.Proofs.Ytdbeiialamganaa
open Go.VM
theorem ref13_escape_w {N : Nat} {a0 : (List UInt8)} {a1 : Int} {r : (List UInt8) × Int × Int} (h : ref13_escape N a0 a1 = some r) {n : Nat} {m : List (Nat × List AVal)} :
    ACall vE 66 [.str a0, .int .i64 a1] ⟨m, n⟩ fun r' st => r' = .tuple [.str r.1, .int .i64 r.2.1, .int .i64 r.2.2] ∧ st.m = m := by
  rw [ref13_escape] at h
  refine acall_k Try.func66 rfl ?_
  intro R hR
  refine AWp.congr (by simp only [Try.ntmps66, liE, seval]; rfl) ?_
  refine awp_seq_k ?_
  intro K1 hK1
  refine awp_region' [] ?_
  intro K2 hK2
  simp (disch := omega) only [vmE, liE, eE, seval, deE, fxE, retOf, maskA, setVals, getVals, putA, stripAt, AVal.strip, stripL, rd]
  refine hK2 _ _ (kPost_normal (hK1 _ _ ?_))
  refine awp_seq_k ?_
  intro K3 hK3
  replace h := joinK_some h
  rcases h with ⟨k5, hk5, h⟩
  refine awp_join [4, 5, 6, 7, 15, 16, 17, 18, 19, 20, 21, 22, 23, 24, 25, 26, 27, 28, 29, 30, 31, 32, 33, 34, 35, 36] [] (fun vs st' => ∃ j4 : Unit, vs = [] ∧ st'.m = m ∧ k5 j4 = some r) hK3 ?_ ?_
  · clear h
    rintro _ ⟨m6, n7⟩ ⟨j4, rfl, hm, h⟩
    simp only [] at hm
    replace hm := hm.symm
    subst hm
    replace h := hk5 _ _ h
    clear hk5 k5
    refine AWp.congr (by simp (disch := omega) only [vmE, liE, eE, seval, deE, fxE, retOf, maskA, setVals, getVals, putA, stripAt, AVal.strip, stripL, rd]; rfl) ?_
    refine awp_seq_k ?_
    intro K36 hK36
    replace h := bind_some h
    rcases h with ⟨y38, hy39, h⟩
    refine awp_region' [] ?_
    intro K37 hK37
    simp (disch := omega) only [vmE, liE, eE, seval, deE, fxE, retOf, maskA, setVals, getVals, putA, stripAt, AVal.strip, stripL, rd]
    refine ACall.of (ref13_unit_w hy39) ?_ ?_
    · first | (simp (disch := omega) only [vmE, liE, eE, seval, deE, fxE, retOf, maskA, setVals, getVals, putA, stripAt, AVal.strip, stripL, rd]) | rfl
    rintro _ ⟨m41, n40⟩ hn40 ⟨rfl, hm⟩
    simp (disch := omega) only [vmE, liE, eE, seval] at hn40 hm
    replace hm := hm.symm
    subst hm
    simp (disch := omega) only [vmE, liE, eE, seval, deE, fxE, retOf, maskA, setVals, getVals, putA, stripAt, AVal.strip, stripL, rd]
    refine hK37 _ _ (kPost_normal (hK36 _ _ ?_))
    refine awp_seq_k ?_
    intro K42 hK42
    refine awp_seq_k ?_
    intro K43 hK43
    refine awp_region' [] ?_
    intro K44 hK44
    simp (disch := omega) only [vmE, liE, eE, seval, deE, fxE, retOf, maskA, setVals, getVals, putA, stripAt, AVal.strip, stripL, rd]
    refine hK44 _ _ (kPost_normal (hK43 _ _ ?_))
    replace h := ite_some h
    rcases h with ⟨hc45, h⟩ | ⟨hc45, h⟩
    · refine awp_cond_f rfl (by simp only [liE, hc45]) ?_
      refine awp_skip ?_
      refine kPost_normal (hK42 _ _ ?_)
      refine awp_seq_k ?_
      intro K46 hK46
      refine awp_seq_k ?_
      intro K47 hK47
      replace h := joinK_some h
      rcases h with ⟨k49, hk49, h⟩
      refine awp_join [45, 46, 47, 48, 49] [50] (fun vs st' => ∃ j48 : Bool, vs = [.bool j48] ∧ st'.m = m ∧ k49 j48 = some r) hK47 ?_ ?_
      · clear h
        rintro _ ⟨m50, n51⟩ ⟨j48, rfl, hm, h⟩
        simp only [] at hm
        replace hm := hm.symm
        subst hm
        replace h := hk49 _ _ h
        clear hk49 k49
        refine AWp.congr (by simp (disch := omega) only [vmE, liE, eE, seval, deE, fxE, retOf, maskA, setVals, getVals, putA, stripAt, AVal.strip, stripL, rd]; rfl) ?_
        replace h := ite_some h
        rcases h with ⟨hc54, h⟩ | ⟨hc54, h⟩
        · refine awp_cond_t rfl hc54 ?_
          refine awp_seq_k ?_
          intro K55 hK55
          replace h := bind_some h
          rcases h with ⟨y57, hy58, h⟩
          refine awp_region' [] ?_
          intro K56 hK56
          simp (disch := omega) only [vmE, liE, eE, seval, deE, fxE, retOf, maskA, setVals, getVals, putA, stripAt, AVal.strip, stripL, rd, hc45, hc54]
          refine ACall.of (ref02_Encode_w hy58) ?_ ?_
          · first | (simp (disch := omega) only [vmE, liE, eE, seval, deE, fxE, retOf, maskA, setVals, getVals, putA, stripAt, AVal.strip, stripL, rd, hc45, hc54]) | rfl
          rintro _ ⟨m60, n59⟩ hn59 ⟨rfl, hm⟩
          simp (disch := omega) only [vmE, liE, eE, seval] at hn59 hm
          replace hm := hm.symm
          subst hm
          simp (disch := omega) only [vmE, liE, eE, seval, deE, fxE, retOf, maskA, setVals, getVals, putA, stripAt, AVal.strip, stripL, rd, hc45, hc54]
          refine hK56 _ _ (kPost_normal (hK55 _ _ ?_))
          refine awp_seq_k ?_
          intro K61 hK61
          refine awp_region' [] ?_
          intro K62 hK62
          simp (disch := omega) only [vmE, liE, eE, seval, deE, fxE, retOf, maskA, setVals, getVals, putA, stripAt, AVal.strip, stripL, rd, hc45, hc54]
          refine hK62 _ _ (kPost_normal (hK61 _ _ ?_))
          refine awp_ret ?_
          refine kPost_ret (hR _ _ _ (retPost_r (by simp (disch := omega) only [Try.results66, vmE, liE, eE, seval, deE, fxE, retOf, maskA, setVals, getVals, putA, stripAt, AVal.strip, stripL, rd, hc45, hc54]; rfl) (List.Sublist.refl _) ?_))
          cases h
          refine ⟨?_, ?_⟩
          · simp (disch := omega) only [vmE, liE, eE, seval, deE, fxE, retOf, maskA, setVals, getVals, putA, stripAt, AVal.strip, stripL, rd, hc45, hc54]
          · rfl
        · refine awp_cond_f rfl hc54 ?_
          refine awp_skip ?_
          refine kPost_normal (hK46 _ _ ?_)
          refine awp_seq_k ?_
          intro K63 hK63
          replace h := bind_some h
          rcases h with ⟨y65, hy66, h⟩
          refine awp_region' [] ?_
          intro K64 hK64
          simp (disch := omega) only [vmE, liE, eE, seval, deE, fxE, retOf, maskA, setVals, getVals, putA, stripAt, AVal.strip, stripL, rd, hc45, hc54]
          refine ACall.of (ref13_unit_w hy66) ?_ ?_
          · first | (simp (disch := omega) only [vmE, liE, eE, seval, deE, fxE, retOf, maskA, setVals, getVals, putA, stripAt, AVal.strip, stripL, rd, hc45, hc54]) | rfl
          rintro _ ⟨m68, n67⟩ hn67 ⟨rfl, hm⟩
          simp (disch := omega) only [vmE, liE, eE, seval] at hn67 hm
          replace hm := hm.symm
          subst hm
          simp (disch := omega) only [vmE, liE, eE, seval, deE, fxE, retOf, maskA, setVals, getVals, putA, stripAt, AVal.strip, stripL, rd, hc45, hc54]
          refine hK64 _ _ (kPost_normal (hK63 _ _ ?_))
          refine awp_seq_k ?_
          intro K69 hK69
          refine awp_seq_k ?_
          intro K70 hK70
          replace h := joinK_some h
          rcases h with ⟨k72, hk72, h⟩
          refine awp_join [66, 67, 68, 69, 70, 71, 72, 73, 74, 75, 76, 77, 78] [79] (fun vs st' => ∃ j71 : Bool, vs = [.bool j71] ∧ st'.m = m ∧ k72 j71 = some r) hK70 ?_ ?_
          · clear h
            rintro _ ⟨m73, n74⟩ ⟨j71, rfl, hm, h⟩
            simp only [] at hm
            replace hm := hm.symm
            subst hm
            replace h := hk72 _ _ h
            clear hk72 k72
            refine AWp.congr (by simp (disch := omega) only [vmE, liE, eE, seval, deE, fxE, retOf, maskA, setVals, getVals, putA, stripAt, AVal.strip, stripL, rd]; rfl) ?_
            replace h := ite_some h
            rcases h with ⟨hc79, h⟩ | ⟨hc79, h⟩
            · refine awp_cond_t rfl hc79 ?_
              refine awp_seq_k ?_
              intro K80 hK80
              refine awp_region' [] ?_
              intro K81 hK81
              simp (disch := omega) only [vmE, liE, eE, seval, deE, fxE, retOf, maskA, setVals, getVals, putA, stripAt, AVal.strip, stripL, rd, hc45, hc54, hc79]
              refine hK81 _ _ (kPost_normal (hK80 _ _ ?_))
              refine awp_ret ?_
              refine kPost_ret (hR _ _ _ (retPost_r (by simp (disch := omega) only [Try.results66, vmE, liE, eE, seval, deE, fxE, retOf, maskA, setVals, getVals, putA, stripAt, AVal.strip, stripL, rd, hc45, hc54, hc79]; rfl) (List.Sublist.refl _) ?_))
              cases h
              refine ⟨?_, ?_⟩
              · simp (disch := omega) only [vmE, liE, eE, seval, deE, fxE, retOf, maskA, setVals, getVals, putA, stripAt, AVal.strip, stripL, rd, hc45, hc54, hc79]
              · rfl
            · refine awp_cond_f rfl hc79 ?_
              refine awp_skip ?_
              refine kPost_normal (hK69 _ _ ?_)
              refine awp_seq_k ?_
              intro K82 hK82
              replace h := bind_some h
              rcases h with ⟨y84, hy85, h⟩
              refine awp_region' [] ?_
              intro K83 hK83
              simp (disch := omega) only [vmE, liE, eE, seval, deE, fxE, retOf, maskA, setVals, getVals, putA, stripAt, AVal.strip, stripL, rd, hc45, hc54, hc79]
              refine ACall.of (ref02_Encode_w hy85) ?_ ?_
              · first | (simp (disch := omega) only [vmE, liE, eE, seval, deE, fxE, retOf, maskA, setVals, getVals, putA, stripAt, AVal.strip, stripL, rd, hc45, hc54, hc79]) | rfl
              rintro _ ⟨m87, n86⟩ hn86 ⟨rfl, hm⟩
              simp (disch := omega) only [vmE, liE, eE, seval] at hn86 hm
              replace hm := hm.symm
              subst hm
              simp (disch := omega) only [vmE, liE, eE, seval, deE, fxE, retOf, maskA, setVals, getVals, putA, stripAt, AVal.strip, stripL, rd, hc45, hc54, hc79]
              refine hK83 _ _ (kPost_normal (hK82 _ _ ?_))
              refine awp_seq_k ?_
              intro K88 hK88
              refine awp_region' [] ?_
              intro K89 hK89
              simp (disch := omega) only [vmE, liE, eE, seval, deE, fxE, retOf, maskA, setVals, getVals, putA, stripAt, AVal.strip, stripL, rd, hc45, hc54, hc79]
              refine hK89 _ _ (kPost_normal (hK88 _ _ ?_))
              refine awp_ret ?_
              refine hR _ _ _ (retPost_r (by simp (disch := omega) only [Try.results66, vmE, liE, eE, seval, deE, fxE, retOf, maskA, setVals, getVals, putA, stripAt, AVal.strip, stripL, rd, hc45, hc54, hc79]; rfl) (List.Sublist.refl _) ?_)
              cases h
              refine ⟨?_, ?_⟩
              · simp (disch := omega) only [vmE, liE, eE, seval, deE, fxE, retOf, maskA, setVals, getVals, putA, stripAt, AVal.strip, stripL, rd, hc45, hc54, hc79]
              · rfl
          · intro J90 hJ90
            replace h := ite_some h
            rcases h with ⟨hc76, h⟩ | ⟨hc76, h⟩
            · refine awp_region' [] ?_
              intro K75 hK75
              simp (disch := omega) only [vmE, liE, eE, seval, deE, fxE, retOf, maskA, setVals, getVals, putA, stripAt, AVal.strip, stripL, rd, hc45, hc54, hc76]
              refine hK75 _ _ (kPost_normal (hJ90 _ _ _ (List.Sublist.refl _) ?_ ⟨true, ?_, ?_, h⟩)) <;> simp (disch := omega) only [vmE, liE, eE, seval, deE, fxE, retOf, maskA, setVals, getVals, putA, stripAt, AVal.strip, stripL, rd, hc45, hc54, hc76]
            · replace h := ite_some h
              rcases h with ⟨hc77, h⟩ | ⟨hc77, h⟩
              · replace h := ite_some h
                rcases h with ⟨hc78, h⟩ | ⟨hc78, h⟩
                · refine awp_region' [] ?_
                  intro K75 hK75
                  simp (disch := omega) only [vmE, liE, eE, seval, deE, fxE, retOf, maskA, setVals, getVals, putA, stripAt, AVal.strip, stripL, rd, hc45, hc54, hc76, hc77, hc78]
                  refine hK75 _ _ (kPost_normal (hJ90 _ _ _ (List.Sublist.refl _) ?_ ⟨true, ?_, ?_, h⟩)) <;> simp (disch := omega) only [vmE, liE, eE, seval, deE, fxE, retOf, maskA, setVals, getVals, putA, stripAt, AVal.strip, stripL, rd, hc45, hc54, hc76, hc77, hc78]
                · refine awp_region' [] ?_
                  intro K75 hK75
                  simp (disch := omega) only [vmE, liE, eE, seval, deE, fxE, retOf, maskA, setVals, getVals, putA, stripAt, AVal.strip, stripL, rd, hc45, hc54, hc76, hc77, hc78]
                  refine hK75 _ _ (kPost_normal (hJ90 _ _ _ (List.Sublist.refl _) ?_ ⟨(decide (y65.1 > 57343)), ?_, ?_, h⟩)) <;> simp (disch := omega) only [vmE, liE, eE, seval, deE, fxE, retOf, maskA, setVals, getVals, putA, stripAt, AVal.strip, stripL, rd, hc45, hc54, hc76, hc77, hc78]
              · refine awp_region' [] ?_
                intro K75 hK75
                simp (disch := omega) only [vmE, liE, eE, seval, deE, fxE, retOf, maskA, setVals, getVals, putA, stripAt, AVal.strip, stripL, rd, hc45, hc54, hc76, hc77]
                refine hK75 _ _ (kPost_normal (hJ90 _ _ _ (List.Sublist.refl _) ?_ ⟨true, ?_, ?_, h⟩)) <;> simp (disch := omega) only [vmE, liE, eE, seval, deE, fxE, retOf, maskA, setVals, getVals, putA, stripAt, AVal.strip, stripL, rd, hc45, hc54, hc76, hc77]
      · intro J91 hJ91
        replace h := ite_some h
        rcases h with ⟨hc53, h⟩ | ⟨hc53, h⟩
        · refine awp_region' [] ?_
          intro K52 hK52
          simp (disch := omega) only [vmE, liE, eE, seval, deE, fxE, retOf, maskA, setVals, getVals, putA, stripAt, AVal.strip, stripL, rd, hc45, hc53]
          refine hK52 _ _ (kPost_normal (hJ91 _ _ _ (List.Sublist.refl _) ?_ ⟨true, ?_, ?_, h⟩)) <;> simp (disch := omega) only [vmE, liE, eE, seval, deE, fxE, retOf, maskA, setVals, getVals, putA, stripAt, AVal.strip, stripL, rd, hc45, hc53]
        · refine awp_region' [] ?_
          intro K52 hK52
          simp (disch := omega) only [vmE, liE, eE, seval, deE, fxE, retOf, maskA, setVals, getVals, putA, stripAt, AVal.strip, stripL, rd, hc45, hc53]
          refine hK52 _ _ (kPost_normal (hJ91 _ _ _ (List.Sublist.refl _) ?_ ⟨(decide (y38.1 > 57343)), ?_, ?_, h⟩)) <;> simp (disch := omega) only [vmE, liE, eE, seval, deE, fxE, retOf, maskA, setVals, getVals, putA, stripAt, AVal.strip, stripL, rd, hc45, hc53]
    · refine awp_cond_t rfl (by simp only [liE, hc45]) ?_
      refine awp_seq_k ?_
      intro K92 hK92
      refine awp_region' [] ?_
      intro K93 hK93
      simp (disch := omega) only [vmE, liE, eE, seval, deE, fxE, retOf, maskA, setVals, getVals, putA, stripAt, AVal.strip, stripL, rd, hc45]
      refine hK93 _ _ (kPost_normal (hK92 _ _ ?_))
      refine awp_ret ?_
      refine kPost_ret (hR _ _ _ (retPost_r (by simp (disch := omega) only [Try.results66, vmE, liE, eE, seval, deE, fxE, retOf, maskA, setVals, getVals, putA, stripAt, AVal.strip, stripL, rd, hc45]; rfl) (List.Sublist.refl _) ?_))
      cases h
      refine ⟨?_, ?_⟩
      · simp (disch := omega) only [vmE, liE, eE, seval, deE, fxE, retOf, maskA, setVals, getVals, putA, stripAt, AVal.strip, stripL, rd, hc45]
      · rfl
  · intro J94 hJ94
    refine awp_seq_k ?_
    intro K8 hK8
    refine awp_region' [] ?_
    intro K9 hK9
    simp (disch := omega) only [vmE, liE, eE, seval, deE, fxE, retOf, maskA, setVals, getVals, putA, stripAt, AVal.strip, stripL, rd]
    refine hK9 _ _ (kPost_normal (hK8 _ _ ?_))
    replace h := ite_some h
    rcases h with ⟨hc10, h⟩ | ⟨hc10, h⟩
    · refine awp_cond_t rfl hc10 ?_
      refine awp_seq_k ?_
      intro K11 hK11
      refine awp_region' [] ?_
      intro K12 hK12
      simp (disch := omega) only [vmE, liE, eE, seval, deE, fxE, retOf, maskA, setVals, getVals, putA, stripAt, AVal.strip, stripL, rd, hc10]
      refine hK12 _ _ (kPost_normal (hK11 _ _ ?_))
      refine awp_block_k ?_
      intro K13 hK13
      refine awp_loop_v [4, 5, 6, 7, 21, 22, 23, 24, 25, 26, 27, 28, 29, 30, 31, 32, 33, 34, 35, 36] [20] (fun k vs st' => ∃ (s20 : Nat), vs = [.iter ([34, 92, 47, 98, 102, 110, 114, 116] : List UInt8) s20] ∧ st'.m = m ∧ ref13_escape_L1 N a0 a1 k5 k s20 = some r) N ⟨0, ?_, ?_, h⟩ ?_
      · simp (disch := omega) only [vmE, liE, eE, seval, deE, fxE, retOf, maskA, setVals, getVals, putA, stripAt, AVal.strip, stripL, rd, hc10]
      · simp (disch := omega) only [vmE, liE, eE, seval, deE, fxE, retOf, maskA, setVals, getVals, putA, stripAt, AVal.strip, stripL, rd, hc10]
      · clear h
        rintro k14 _ ⟨m35, nL0_1⟩ ⟨s20, rfl, hm, h⟩ J34 hJ34
        simp only [] at hm
        replace hm := hm.symm
        subst hm
        rcases k14 with _ | k14
        · simp only [ref13_escape_L1, reduceCtorEq] at h
        rw [ref13_escape_L1] at h
        refine AWp.congr (by simp (disch := omega) only [vmE, liE, eE, seval, deE, fxE, retOf, maskA, setVals, getVals, putA, stripAt, AVal.strip, stripL, rd]; rfl) ?_
        refine awp_seq_k ?_
        intro K15 hK15
        replace h := ite_some h
        rcases h with ⟨hc17, h⟩ | ⟨hc17, h⟩
        · refine awp_region' [] ?_
          intro K16 hK16
          simp (disch := omega) only [vmE, liE, eE, seval, deE, fxE, retOf, maskA, setVals, getVals, putA, stripAt, AVal.strip, stripL, rd, hc10, hc17]
          refine hK16 _ _ (kPost_normal (hK15 _ _ ?_))
          refine awp_seq_k ?_
          intro K18 hK18
          refine awp_cond_t rfl rfl ?_
          refine awp_skip ?_
          refine kPost_normal (hK18 _ _ ?_)
          refine awp_block_k ?_
          intro K19 hK19
          refine awp_seq_k ?_
          intro K20 hK20
          refine awp_region' [] ?_
          intro K21 hK21
          simp (disch := omega) only [vmE, liE, eE, seval, deE, fxE, retOf, maskA, setVals, getVals, putA, stripAt, AVal.strip, stripL, rd, hc10, hc17]
          refine hK21 _ _ (kPost_normal (hK20 _ _ ?_))
          refine awp_seq_k ?_
          intro K22 hK22
          replace h := bind_some h
          rcases h with ⟨x24, hx25, h⟩
          replace h := bind_some h
          rcases h with ⟨x26, hx27, h⟩
          refine awp_draw' [] (.take 0 (.take 1 (.take 2 (.take 3 (.take 4 (.take 5 (.take 6 (.done)))))))) vE_mixed (by kernel_rfl) ?_
          intro K23 hK23
          simp (disch := omega) only [vmE, liE, eE, seval, deE, fxE, retOf, maskA, setVals, getVals, putA, stripAt, AVal.strip, stripL, rd, hc10, hc17, hx25, hx27]
          refine hK23 _ _ (kPost_normal (hK22 _ _ ?_))
          replace h := ite_some h
          rcases h with ⟨hc28, h⟩ | ⟨hc28, h⟩
          · refine awp_cond_t rfl hc28 ?_
            refine awp_seq_k ?_
            intro K29 hK29
            replace h := bind_some h
            rcases h with ⟨x31, hx32, h⟩
            refine awp_region' [] ?_
            intro K30 hK30
            simp (disch := omega) only [vmE, liE, eE, seval, deE, fxE, retOf, maskA, setVals, getVals, putA, stripAt, AVal.strip, stripL, rd, hc10, hc17, hx25, hx27, hc28, hx32]
            refine hK30 _ _ (kPost_normal (hK29 _ _ ?_))
            refine awp_ret ?_
            refine bPost_ret (kPost_ret (bPost_ret (kPost_ret (hR _ _ _ (retPost_r (by simp (disch := omega) only [Try.results66, vmE, liE, eE, seval, deE, fxE, retOf, maskA, setVals, getVals, putA, stripAt, AVal.strip, stripL, rd, hc10, hc17, hx25, hx27, hc28, hx32]; rfl) (List.Sublist.refl _) ?_)))))
            cases h
            refine ⟨?_, ?_⟩
            · simp (disch := omega) only [vmE, liE, eE, seval, deE, fxE, retOf, maskA, setVals, getVals, putA, stripAt, AVal.strip, stripL, rd, hc10, hc17, hx25, hx27, hc28, hx32]
            · rfl
          · refine awp_cond_f rfl hc28 ?_
            refine awp_skip ?_
            refine bPost_normal (hK19 _ _ (kPost_normal (hJ34 k14 _ _ _ (Nat.lt_succ_self _) (List.Sublist.refl _) ?_ ⟨(s20 + (decodeAt ([34, 92, 47, 98, 102, 110, 114, 116] : List UInt8) s20).2), ?_, ?_, h⟩))) <;> simp (disch := omega) only [vmE, liE, eE, seval, deE, fxE, retOf, maskA, setVals, getVals, putA, stripAt, AVal.strip, stripL, rd, hc10, hc17, hx25, hx27, hc28]
        · refine awp_region' [] ?_
          intro K16 hK16
          simp (disch := omega) only [vmE, liE, eE, seval, deE, fxE, retOf, maskA, setVals, getVals, putA, stripAt, AVal.strip, stripL, rd, hc10, hc17]
          refine hK16 _ _ (kPost_normal (hK15 _ _ ?_))
          refine awp_seq_k ?_
          intro K33 hK33
          refine awp_cond_f rfl rfl ?_
          refine awp_exit ?_
          refine kPost_exit (kPost_exit (bPost_here (hK13 _ _ (kPost_normal (hJ94 _ _ _ (List.Sublist.refl _) ?_ ⟨(), ?_, ?_, h⟩))))) <;> simp (disch := omega) only [vmE, liE, eE, seval, deE, fxE, retOf, maskA, setVals, getVals, putA, stripAt, AVal.strip, stripL, rd, hc10, hc17]
    · refine awp_cond_f rfl hc10 ?_
      refine awp_skip ?_
      refine kPost_normal (hJ94 _ _ _ (List.Sublist.refl _) ?_ ⟨(), ?_, ?_, h⟩) <;> simp (disch := omega) only [vmE, liE, eE, seval, deE, fxE, retOf, maskA, setVals, getVals, putA, stripAt, AVal.strip, stripL, rd, hc10]
end Go.Proofs.Ytdbeiialamganaa
