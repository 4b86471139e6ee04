/- That the code computes these functions; written by decomp.py. -/
import Derived.Test.YtdbeiialamganaaVmFacts
import Derived.Test.YtdbeiialamganaaDefs
import Derived.Test.YtdbeiialamganaaVMSets
import Derived.Test.YtdbeiialamganaaW1
import Derived.Test.YtdbeiialamganaaW2
import Derived.Test.YtdbeiialamganaaW3
import Derived.Test.YtdbeiialamganaaW7
import Derived.Test.YtdbeiialamganaaW11
import Derived.Test.YtdbeiialamganaaW12
import Derived.Test.YtdbeiialamganaaW22
set_option linter.unusedVariables false
set_option linter.unusedSimpArgs false
set_option maxHeartbeats 4000000
set_option maxRecDepth 100000
set_option linter.defProp false
namespace Go.Proofs.Ytdbeiialamganaa
open Go.VM
theorem law16_JrdEncodes_w {N : Nat} {a0 : ApiJRD} {a1 : (List UInt8)} {r : Bool} (h : law16_JrdEncodes N a0 a1 = some r) {n : Nat} {m : List (Nat × List AVal)} :
    ACall vE 6 [.agg [.str a0.subject, .slice 1 (List.map AVal.str a0.aliases) false, .slice 3 (List.map encApiProperty a0.properties) false, .slice 6 (List.map encApiLink a0.links) false], .str a1] ⟨m, n⟩ fun r' st => r' = .bool r ∧ st.m = m := by
  rw [law16_JrdEncodes] at h
  refine acall_k Try.func6 rfl ?_
  intro R hR
  refine AWp.congr (by simp only [Try.ntmps6, liE, seval]; rfl) ?_
  refine awp_seq_k ?_
  intro K1 hK1
  refine awp_region' [] ?_
  intro K2 hK2
  simp (disch := omega) only [vmE, liE, eE, seval, deE, fxE, retOf, maskA, setVals, getVals, putA, stripAt, AVal.strip, stripL, rd]
  refine hK2 _ _ (kPost_normal (hK1 _ _ ?_))
  refine awp_seq_k ?_
  intro K3 hK3
  refine awp_seq_k ?_
  intro K4 hK4
  replace h := bind_some h
  rcases h with ⟨y6, hy7, h⟩
  refine awp_region' [] ?_
  intro K5 hK5
  simp (disch := omega) only [vmE, liE, eE, seval, deE, fxE, retOf, maskA, setVals, getVals, putA, stripAt, AVal.strip, stripL, rd]
  refine ACall.of (law16_sane_w hy7) ?_ ?_
  · first | (simp (disch := omega) only [vmE, liE, eE, seval, deE, fxE, retOf, maskA, setVals, getVals, putA, stripAt, AVal.strip, stripL, rd]) | rfl
  rintro _ ⟨m9, n8⟩ hn8 ⟨rfl, hm⟩
  simp (disch := omega) only [vmE, liE, eE, seval] at hn8 hm
  replace hm := hm.symm
  subst hm
  simp (disch := omega) only [vmE, liE, eE, seval, deE, fxE, retOf, maskA, setVals, getVals, putA, stripAt, AVal.strip, stripL, rd]
  refine hK5 _ _ (kPost_normal (hK4 _ _ ?_))
  replace h := ite_some h
  rcases h with ⟨hc10, h⟩ | ⟨hc10, h⟩
  · refine awp_cond_f rfl (by simp only [liE, hc10]) ?_
    refine awp_skip ?_
    refine kPost_normal (hK3 _ _ ?_)
    refine awp_seq_k ?_
    intro K11 hK11
    refine awp_seq_k ?_
    intro K12 hK12
    replace h := bind_some h
    rcases h with ⟨y14, hy15, h⟩
    refine awp_region' [] ?_
    intro K13 hK13
    simp (disch := omega) only [vmE, liE, eE, seval, deE, fxE, retOf, maskA, setVals, getVals, putA, stripAt, AVal.strip, stripL, rd, hc10]
    refine ACall.of (keep_JRD_w hy15) ?_ ?_
    · first | (simp (disch := omega) only [vmE, liE, eE, seval, deE, fxE, retOf, maskA, setVals, getVals, putA, stripAt, AVal.strip, stripL, rd, hc10]) | rfl
    rintro _ ⟨m17, n16⟩ hn16 ⟨rfl, hm⟩
    simp (disch := omega) only [vmE, liE, eE, seval] at hn16 hm
    replace hm := hm.symm
    subst hm
    simp (disch := omega) only [vmE, liE, eE, seval, deE, fxE, retOf, maskA, setVals, getVals, putA, stripAt, AVal.strip, stripL, rd, hc10]
    refine hK13 _ _ (kPost_normal (hK12 _ _ ?_))
    replace h := ite_some h
    rcases h with ⟨hc18, h⟩ | ⟨hc18, h⟩
    · refine awp_cond_f rfl (by simp only [liE, hc10, hc18]) ?_
      refine awp_skip ?_
      refine kPost_normal (hK11 _ _ ?_)
      refine awp_seq_k ?_
      intro K19 hK19
      replace h := bind_some h
      rcases h with ⟨y21, hy22, h⟩
      replace h := bind_some h
      rcases h with ⟨y25, hy26, h⟩
      refine awp_draw' [] (.take 0 (.take 1 (.take 3 (.take 4 (.alt 2 [4, 3] (.alt 5 [1, 0] (.alt 6 [4, 3] (.alt 7 [] (.done) (.stop)) (.stop)) (.stop)) (.stop)))))) vE_mixed (by kernel_rfl) ?_
      intro K20 hK20
      simp (disch := omega) only [vmE, liE, eE, seval, deE, fxE, retOf, maskA, setVals, getVals, putA, stripAt, AVal.strip, stripL, rd, hc10, hc18]
      refine ACall.of (jrd_Find_w hy22) ?_ ?_
      · first | (simp (disch := omega) only [vmE, liE, eE, seval, deE, fxE, retOf, maskA, setVals, getVals, putA, stripAt, AVal.strip, stripL, rd, hc10, hc18]) | rfl
      rintro _ ⟨m24, n23⟩ hn23 ⟨rfl, hm⟩
      simp (disch := omega) only [vmE, liE, eE, seval] at hn23 hm
      replace hm := hm.symm
      subst hm
      simp (disch := omega) only [vmE, liE, eE, seval, deE, fxE, retOf, maskA, setVals, getVals, putA, stripAt, AVal.strip, stripL, rd, hc10, hc18]
      refine ACall.of (ref16_Find_w hy26) ?_ ?_
      · first | (simp (disch := omega) only [vmE, liE, eE, seval, deE, fxE, retOf, maskA, setVals, getVals, putA, stripAt, AVal.strip, stripL, rd, hc10, hc18]) | rfl
      rintro _ ⟨m28, n27⟩ hn27 ⟨rfl, hm⟩
      simp (disch := omega) only [vmE, liE, eE, seval] at hn27 hm
      replace hm := hm.symm
      subst hm
      simp (disch := omega) only [vmE, liE, eE, seval, deE, fxE, retOf, maskA, setVals, getVals, putA, stripAt, AVal.strip, stripL, rd, hc10, hc18]
      refine hK20 _ _ (kPost_normal (hK19 _ _ ?_))
      refine awp_seq_k ?_
      intro K29 hK29
      refine awp_seq_k ?_
      intro K30 hK30
      replace h := joinK_some h
      rcases h with ⟨k32, hk32, h⟩
      refine awp_join [19, 20, 21, 22, 23, 24, 25, 26, 27, 28, 29, 30] [31] (fun vs st' => ∃ j31 : Bool, vs = [.bool j31] ∧ st'.m = (n, [.str a0.subject, .slice 1 (List.map AVal.str a0.aliases) false, .slice 3 (List.map encApiProperty a0.properties) false, .slice 6 (List.map encApiLink a0.links) false]) :: m ∧ k32 j31 = some r) hK30 ?_ ?_
      · clear h
        rintro _ ⟨m33, n34⟩ ⟨j31, rfl, hm, h⟩
        simp only [] at hm
        replace hm := hm.symm
        subst hm
        replace h := hk32 _ _ h
        clear hk32 k32
        refine AWp.known fun _ hkl => ?_
        simp only [] at hkl
        obtain ⟨_, hkl⟩ := keysLt_cons hkl
        clear hkl
        refine AWp.congr (by simp (disch := omega) only [vmE, liE, eE, seval, deE, fxE, retOf, maskA, setVals, getVals, putA, stripAt, AVal.strip, stripL, rd]; rfl) ?_
        replace h := ite_some h
        rcases h with ⟨hc49, h⟩ | ⟨hc49, h⟩
        · refine awp_cond_t rfl hc49 ?_
          refine awp_seq_k ?_
          intro K50 hK50
          refine awp_region' [] ?_
          intro K51 hK51
          simp (disch := omega) only [vmE, liE, eE, seval, deE, fxE, retOf, maskA, setVals, getVals, putA, stripAt, AVal.strip, stripL, rd, hc10, hc18, hc49]
          refine hK51 _ _ (kPost_normal (hK50 _ _ ?_))
          refine awp_ret ?_
          refine kPost_ret (hR _ _ _ (retPost_r (by simp (disch := omega) only [Try.results6, vmE, liE, eE, seval, deE, fxE, retOf, maskA, setVals, getVals, putA, stripAt, AVal.strip, stripL, rd, hc10, hc18, hc49]; rfl) (.cons _ (List.Sublist.refl _)) ?_))
          cases h
          refine ⟨?_, ?_⟩
          · simp (disch := omega) only [vmE, liE, eE, seval, deE, fxE, retOf, maskA, setVals, getVals, putA, stripAt, AVal.strip, stripL, rd, hc10, hc18, hc49]
          · rfl
        · refine awp_cond_f rfl hc49 ?_
          refine awp_skip ?_
          refine kPost_normal (hK29 _ _ ?_)
          refine awp_seq_k ?_
          intro K52 hK52
          replace h := joinK_some h
          rcases h with ⟨k54, hk54, h⟩
          refine awp_join [4, 7, 32, 33, 34, 35, 36, 37, 38, 39, 40, 41, 42, 43, 44, 45, 46, 47] [] (fun vs st' => ∃ j53 : Unit, vs = [] ∧ st'.m = (n, [.str a0.subject, .slice 1 (List.map AVal.str a0.aliases) false, .slice 3 (List.map encApiProperty a0.properties) false, .slice 6 (List.map encApiLink a0.links) false]) :: m ∧ k54 j53 = some r) hK52 ?_ ?_
          · clear h
            rintro _ ⟨m55, n56⟩ ⟨j53, rfl, hm, h⟩
            simp only [] at hm
            replace hm := hm.symm
            subst hm
            replace h := hk54 _ _ h
            clear hk54 k54
            refine AWp.known fun _ hkl => ?_
            simp only [] at hkl
            obtain ⟨_, hkl⟩ := keysLt_cons hkl
            clear hkl
            refine AWp.congr (by simp (disch := omega) only [vmE, liE, eE, seval, deE, fxE, retOf, maskA, setVals, getVals, putA, stripAt, AVal.strip, stripL, rd]; rfl) ?_
            refine awp_seq_k ?_
            intro K85 hK85
            refine awp_region' [] ?_
            intro K86 hK86
            simp (disch := omega) only [vmE, liE, eE, seval, deE, fxE, retOf, maskA, setVals, getVals, putA, stripAt, AVal.strip, stripL, rd, hc10, hc18, hc49]
            refine hK86 _ _ (kPost_normal (hK85 _ _ ?_))
            refine awp_ret ?_
            refine hR _ _ _ (retPost_r (by simp (disch := omega) only [Try.results6, vmE, liE, eE, seval, deE, fxE, retOf, maskA, setVals, getVals, putA, stripAt, AVal.strip, stripL, rd, hc10, hc18, hc49]; rfl) (.cons _ (List.Sublist.refl _)) ?_)
            cases h
            refine ⟨?_, ?_⟩
            · simp (disch := omega) only [vmE, liE, eE, seval, deE, fxE, retOf, maskA, setVals, getVals, putA, stripAt, AVal.strip, stripL, rd, hc10, hc18, hc49]
            · rfl
          · intro J87 hJ87
            refine awp_seq_k ?_
            intro K57 hK57
            refine awp_region' [] ?_
            intro K58 hK58
            simp (disch := omega) only [vmE, liE, eE, seval, deE, fxE, retOf, maskA, setVals, getVals, putA, stripAt, AVal.strip, stripL, rd, hc10, hc18, hc49]
            refine hK58 _ _ (kPost_normal (hK57 _ _ ?_))
            refine awp_block_k ?_
            intro K59 hK59
            refine awp_loop_v [4, 7, 35, 36, 37, 38, 39, 40, 41, 42, 43, 44, 45, 46, 47] [34] (fun k vs st' => ∃ (s34 : Int), vs = [.int .i64 s34] ∧ st'.m = (n, [.str a0.subject, .slice 1 (List.map AVal.str a0.aliases) false, .slice 3 (List.map encApiProperty a0.properties) false, .slice 6 (List.map encApiLink a0.links) false]) :: m ∧ law16_JrdEncodes_L1 N y21 y25 k54 k s34 = some r) N ⟨0, ?_, ?_, h⟩ ?_
            · simp (disch := omega) only [vmE, liE, eE, seval, deE, fxE, retOf, maskA, setVals, getVals, putA, stripAt, AVal.strip, stripL, rd, hc10, hc18, hc49]
            · simp (disch := omega) only [vmE, liE, eE, seval, deE, fxE, retOf, maskA, setVals, getVals, putA, stripAt, AVal.strip, stripL, rd, hc10, hc18, hc49]
            · clear h
              rintro k60 _ ⟨m84, nL0_1⟩ ⟨s34, rfl, hm, h⟩ J83 hJ83
              simp only [] at hm
              replace hm := hm.symm
              subst hm
              rcases k60 with _ | k60
              · simp only [law16_JrdEncodes_L1, reduceCtorEq] at h
              rw [law16_JrdEncodes_L1] at h
              refine AWp.known fun _ hkl => ?_
              simp only [] at hkl
              obtain ⟨_, hkl⟩ := keysLt_cons hkl
              clear hkl
              refine AWp.congr (by simp (disch := omega) only [vmE, liE, eE, seval, deE, fxE, retOf, maskA, setVals, getVals, putA, stripAt, AVal.strip, stripL, rd]; rfl) ?_
              refine awp_seq_k ?_
              intro K61 hK61
              refine awp_region' [] ?_
              intro K62 hK62
              simp (disch := omega) only [vmE, liE, eE, seval, deE, fxE, retOf, maskA, setVals, getVals, putA, stripAt, AVal.strip, stripL, rd, hc10, hc18, hc49]
              refine hK62 _ _ (kPost_normal (hK61 _ _ ?_))
              refine awp_seq_k ?_
              intro K63 hK63
              replace h := ite_some h
              rcases h with ⟨hc64, h⟩ | ⟨hc64, h⟩
              · refine awp_cond_t rfl hc64 ?_
                refine awp_skip ?_
                refine kPost_normal (hK63 _ _ ?_)
                refine awp_seq_k ?_
                intro K65 hK65
                refine awp_block_k ?_
                intro K66 hK66
                refine awp_seq_k ?_
                intro K67 hK67
                refine awp_region' [] ?_
                intro K68 hK68
                simp (disch := omega) only [vmE, liE, eE, seval, deE, fxE, retOf, maskA, setVals, getVals, putA, stripAt, AVal.strip, stripL, rd, hc10, hc18, hc49, hc64]
                refine hK68 _ _ (kPost_normal (hK67 _ _ ?_))
                refine awp_seq_k ?_
                intro K69 hK69
                replace h := bind_some h
                rcases h with ⟨x71, hx72, h⟩
                replace h := bind_some h
                rcases h with ⟨x73, hx74, h⟩
                replace h := bind_some h
                rcases h with ⟨y75, hy76, h⟩
                refine awp_draw' [] (.take 0 (.take 1 (.take 2 (.take 3 (.take 4 (.take 5 (.take 6 (.take 7 (.alt 8 [6, 5, 4, 2, 1, 0] (.take 9 (.done)) (.stop)))))))))) vE_mixed (by kernel_rfl) ?_
                intro K70 hK70
                simp (disch := omega) only [vmE, liE, eE, seval, deE, fxE, retOf, maskA, setVals, getVals, putA, stripAt, AVal.strip, stripL, rd, hc10, hc18, hc49, hc64, hx72, hx74, hx72, hx74]
                refine ACall.of (ref16_SameLink_w hy76) ?_ ?_
                · first | (simp (disch := omega) only [vmE, liE, eE, seval, deE, fxE, retOf, maskA, setVals, getVals, putA, stripAt, AVal.strip, stripL, rd, hc10, hc18, hc49, hc64, hx72, hx74, hx72, hx74]) | rfl
                rintro _ ⟨m78, n77⟩ hn77 ⟨rfl, hm⟩
                simp (disch := omega) only [vmE, liE, eE, seval] at hn77 hm
                replace hm := hm.symm
                subst hm
                simp (disch := omega) only [vmE, liE, eE, seval, deE, fxE, retOf, maskA, setVals, getVals, putA, stripAt, AVal.strip, stripL, rd, hc10, hc18, hc49, hc64, hx72, hx74]
                refine hK70 _ _ (kPost_normal (hK69 _ _ ?_))
                replace h := ite_some h
                rcases h with ⟨hc79, h⟩ | ⟨hc79, h⟩
                · refine awp_cond_f rfl (by simp only [liE, hc10, hc18, hc49, hc64, hx72, hx74, hc79]) ?_
                  refine awp_skip ?_
                  refine bPost_normal (hK66 _ _ (kPost_normal (hK65 _ _ ?_)))
                  refine awp_region' [] ?_
                  intro K80 hK80
                  simp (disch := omega) only [vmE, liE, eE, seval, deE, fxE, retOf, maskA, setVals, getVals, putA, stripAt, AVal.strip, stripL, rd, hc10, hc18, hc49, hc64, hx72, hx74, hc79]
                  refine hK80 _ _ (kPost_normal (hJ83 k60 _ _ _ (Nat.lt_succ_self _) (List.Sublist.refl _) ?_ ⟨(wr .i64 (s34 + 1)), ?_, ?_, h⟩)) <;> simp (disch := omega) only [vmE, liE, eE, seval, deE, fxE, retOf, maskA, setVals, getVals, putA, stripAt, AVal.strip, stripL, rd, hc10, hc18, hc49, hc64, hx72, hx74, hc79]
                · refine awp_cond_t rfl (by simp only [liE, hc10, hc18, hc49, hc64, hx72, hx74, hc79]) ?_
                  refine awp_seq_k ?_
                  intro K81 hK81
                  refine awp_region' [] ?_
                  intro K82 hK82
                  simp (disch := omega) only [vmE, liE, eE, seval, deE, fxE, retOf, maskA, setVals, getVals, putA, stripAt, AVal.strip, stripL, rd, hc10, hc18, hc49, hc64, hx72, hx74, hc79]
                  refine hK82 _ _ (kPost_normal (hK81 _ _ ?_))
                  refine awp_ret ?_
                  refine bPost_ret (kPost_ret (kPost_ret (bPost_ret (kPost_ret (hR _ _ _ (retPost_r (by simp (disch := omega) only [Try.results6, vmE, liE, eE, seval, deE, fxE, retOf, maskA, setVals, getVals, putA, stripAt, AVal.strip, stripL, rd, hc10, hc18, hc49, hc64, hx72, hx74, hc79]; rfl) (.cons _ (List.Sublist.refl _)) ?_))))))
                  cases h
                  refine ⟨?_, ?_⟩
                  · simp (disch := omega) only [vmE, liE, eE, seval, deE, fxE, retOf, maskA, setVals, getVals, putA, stripAt, AVal.strip, stripL, rd, hc10, hc18, hc49, hc64, hx72, hx74, hc79]
                  · rfl
              · refine awp_cond_f rfl hc64 ?_
                refine awp_exit ?_
                refine kPost_exit (kPost_exit (bPost_here (hK59 _ _ (kPost_normal (hJ87 _ _ _ (List.Sublist.refl _) ?_ ⟨(), ?_, ?_, h⟩))))) <;> simp (disch := omega) only [vmE, liE, eE, seval, deE, fxE, retOf, maskA, setVals, getVals, putA, stripAt, AVal.strip, stripL, rd, hc10, hc18, hc49, hc64]
      · intro J88 hJ88
        replace h := ite_some h
        rcases h with ⟨hc36, h⟩ | ⟨hc36, h⟩
        · refine awp_draw' [] (.take 0 (.take 1 (.take 2 (.take 3 (.take 4 (.take 5 (.take 6 (.take 8 (.alt 7 [8, 4, 3, 2, 1, 0] (.alt 9 [6, 4, 3, 2, 1, 0] (.alt 10 [8, 6, 4, 3, 2, 1, 0] (.take 11 (.take 12 (.done))) (.stop)) (.stop)) (.stop)))))))))) vE_mixed (by kernel_rfl) ?_
          intro K35 hK35
          simp (disch := omega) only [vmE, liE, eE, seval, deE, fxE, retOf, maskA, setVals, getVals, putA, stripAt, AVal.strip, stripL, rd, hc10, hc18, hc36]
          refine hK35 _ _ (kPost_normal (hJ88 _ _ _ (List.Sublist.refl _) ?_ ⟨true, ?_, ?_, h⟩)) <;> simp (disch := omega) only [vmE, liE, eE, seval, deE, fxE, retOf, maskA, setVals, getVals, putA, stripAt, AVal.strip, stripL, rd, hc10, hc18, hc36]
        · replace h := bind_some h
          rcases h with ⟨y37, hy38, h⟩
          replace h := bind_some h
          rcases h with ⟨y41, hy42, h⟩
          replace h := bind_some h
          rcases h with ⟨y45, hy46, h⟩
          refine awp_draw' [] (.take 0 (.take 1 (.take 2 (.take 3 (.take 4 (.take 5 (.take 6 (.take 8 (.alt 7 [8, 4, 3, 2, 1, 0] (.alt 9 [6, 4, 3, 2, 1, 0] (.alt 10 [8, 6, 4, 3, 2, 1, 0] (.take 11 (.take 12 (.done))) (.stop)) (.stop)) (.stop)))))))))) vE_mixed (by kernel_rfl) ?_
          intro K35 hK35
          simp (disch := omega) only [vmE, liE, eE, seval, deE, fxE, retOf, maskA, setVals, getVals, putA, stripAt, AVal.strip, stripL, rd, hc10, hc18, hc36, hc36]
          refine ACall.of (jrd_Encode_w hy38) ?_ ?_
          · first | (simp (disch := omega) only [vmE, liE, eE, seval, deE, fxE, retOf, maskA, setVals, getVals, putA, stripAt, AVal.strip, stripL, rd, hc10, hc18, hc36, hc36]) | rfl
          rintro _ ⟨m40, n39⟩ hn39 ⟨rfl, hm⟩
          simp (disch := omega) only [vmE, liE, eE, seval] at hn39 hm
          replace hm := hm.symm
          subst hm
          simp (disch := omega) only [vmE, liE, eE, seval, deE, fxE, retOf, maskA, setVals, getVals, putA, stripAt, AVal.strip, stripL, rd, hc10, hc18, hc36, hc36]
          refine ACall.of (ref16_Encode_w hy42) ?_ ?_
          · first | (simp (disch := omega) only [vmE, liE, eE, seval, deE, fxE, retOf, maskA, setVals, getVals, putA, stripAt, AVal.strip, stripL, rd, hc10, hc18, hc36, hc36]) | rfl
          rintro _ ⟨m44, n43⟩ hn43 ⟨rfl, hm⟩
          simp (disch := omega) only [vmE, liE, eE, seval] at hn43 hm
          replace hm := hm.symm
          subst hm
          simp (disch := omega) only [vmE, liE, eE, seval, deE, fxE, retOf, maskA, setVals, getVals, putA, stripAt, AVal.strip, stripL, rd, hc10, hc18, hc36, hc36]
          refine ACall.of (ref14_Same_w hy46) ?_ ?_
          · first | (simp (disch := omega) only [vmE, liE, eE, seval, deE, fxE, retOf, maskA, setVals, getVals, putA, stripAt, AVal.strip, stripL, rd, hc10, hc18, hc36, hc36]) | rfl
          rintro _ ⟨m48, n47⟩ hn47 ⟨rfl, hm⟩
          simp (disch := omega) only [vmE, liE, eE, seval] at hn47 hm
          replace hm := hm.symm
          subst hm
          simp (disch := omega) only [vmE, liE, eE, seval, deE, fxE, retOf, maskA, setVals, getVals, putA, stripAt, AVal.strip, stripL, rd, hc10, hc18, hc36]
          refine hK35 _ _ (kPost_normal (hJ88 _ _ _ (List.Sublist.refl _) ?_ ⟨(!y45), ?_, ?_, h⟩)) <;> simp (disch := omega) only [vmE, liE, eE, seval, deE, fxE, retOf, maskA, setVals, getVals, putA, stripAt, AVal.strip, stripL, rd, hc10, hc18, hc36]
    · refine awp_cond_t rfl (by simp only [liE, hc10, hc18]) ?_
      refine awp_seq_k ?_
      intro K89 hK89
      refine awp_region' [] ?_
      intro K90 hK90
      simp (disch := omega) only [vmE, liE, eE, seval, deE, fxE, retOf, maskA, setVals, getVals, putA, stripAt, AVal.strip, stripL, rd, hc10, hc18]
      refine hK90 _ _ (kPost_normal (hK89 _ _ ?_))
      refine awp_ret ?_
      refine kPost_ret (hR _ _ _ (retPost_r (by simp (disch := omega) only [Try.results6, vmE, liE, eE, seval, deE, fxE, retOf, maskA, setVals, getVals, putA, stripAt, AVal.strip, stripL, rd, hc10, hc18]; rfl) (.cons _ (List.Sublist.refl _)) ?_))
      cases h
      refine ⟨?_, ?_⟩
      · simp (disch := omega) only [vmE, liE, eE, seval, deE, fxE, retOf, maskA, setVals, getVals, putA, stripAt, AVal.strip, stripL, rd, hc10, hc18]
      · rfl
  · refine awp_cond_t rfl (by simp only [liE, hc10]) ?_
    refine awp_seq_k ?_
    intro K91 hK91
    refine awp_region' [] ?_
    intro K92 hK92
    simp (disch := omega) only [vmE, liE, eE, seval, deE, fxE, retOf, maskA, setVals, getVals, putA, stripAt, AVal.strip, stripL, rd, hc10]
    refine hK92 _ _ (kPost_normal (hK91 _ _ ?_))
    refine awp_ret ?_
    refine kPost_ret (hR _ _ _ (retPost_r (by simp (disch := omega) only [Try.results6, vmE, liE, eE, seval, deE, fxE, retOf, maskA, setVals, getVals, putA, stripAt, AVal.strip, stripL, rd, hc10]; rfl) (.cons _ (List.Sublist.refl _)) ?_))
    cases h
    refine ⟨?_, ?_⟩
    · simp (disch := omega) only [vmE, liE, eE, seval, deE, fxE, retOf, maskA, setVals, getVals, putA, stripAt, AVal.strip, stripL, rd, hc10]
    · rfl
end Go.Proofs.Ytdbeiialamganaa
