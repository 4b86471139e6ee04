/- That the code computes these functions; written by decomp.py. -/
import Derived.Test.YtdbeiialamganaaVmFacts
import Derived.Test.YtdbeiialamganaaDefs
import Derived.Test.YtdbeiialamganaaVMSets
import Derived.Test.YtdbeiialamganaaW0
import Derived.Test.YtdbeiialamganaaW4
import Derived.Test.YtdbeiialamganaaW8
import Derived.Test.YtdbeiialamganaaW17
set_option linter.unusedVariables false
set_option linter.unusedSimpArgs false
set_option maxHeartbeats 4000000
set_option maxRecDepth 100000
set_option linter.defProp false
namespace Go.Proofs.Ytdbeiialamganaa
open Go.VM
theorem ref13_Next_w {N : Nat} {a0 : (List UInt8)} {a1 : Int} {r : ApiToken × Int × Int} (h : ref13_Next N a0 a1 = some r) {n : Nat} {m : List (Nat × List AVal)} :
    ACall vE 50 [.str a0, .int .i64 a1] ⟨m, n⟩ fun r' st => r' = .tuple [.agg [.int .i64 r.1.kind, .str r.1.text, .int .i64 r.1.at_], .int .i64 r.2.1, .int .i64 r.2.2] ∧ st.m = m := by
  rw [ref13_Next] at h
  refine acall_k Try.func50 rfl ?_
  intro R hR
  refine AWp.congr (by simp only [Try.ntmps50, liE, seval]; rfl) ?_
  refine awp_seq_k ?_
  intro K1 hK1
  refine awp_region' [] ?_
  intro K2 hK2
  simp (disch := omega) only [vmE, liE, eE, seval, deE, fxE, retOf, maskA, setVals, getVals, putA, stripAt, AVal.strip, stripL, rd]
  refine hK2 _ _ (kPost_normal (hK1 _ _ ?_))
  refine awp_seq_k ?_
  intro K3 hK3
  refine awp_seq_k ?_
  intro K4 hK4
  replace h := joinK_some h
  rcases h with ⟨k6, hk6, h⟩
  refine awp_join [14, 15, 16, 17, 18, 19, 20] [21] (fun vs st' => ∃ j5 : Bool, vs = [.bool j5] ∧ st'.m = (n, [.int .i64 0, .str [], .int .i64 0]) :: m ∧ k6 j5 = some r) hK4 ?_ ?_
  · clear h
    rintro _ ⟨m7, n8⟩ ⟨j5, rfl, hm, h⟩
    simp only [] at hm
    replace hm := hm.symm
    subst hm
    replace h := hk6 _ _ h
    clear hk6 k6
    refine AWp.known fun _ hkl => ?_
    simp only [] at hkl
    obtain ⟨_, hkl⟩ := keysLt_cons hkl
    clear hkl
    refine AWp.congr (by simp (disch := omega) only [vmE, liE, eE, seval, deE, fxE, retOf, maskA, setVals, getVals, putA, stripAt, AVal.strip, stripL, rd]; rfl) ?_
    replace h := ite_some h
    rcases h with ⟨hc11, h⟩ | ⟨hc11, h⟩
    · refine awp_cond_t rfl hc11 ?_
      refine awp_seq_k ?_
      intro K12 hK12
      refine awp_region' [] ?_
      intro K13 hK13
      simp (disch := omega) only [vmE, liE, eE, seval, deE, fxE, retOf, maskA, setVals, getVals, putA, stripAt, AVal.strip, stripL, rd, hc11]
      refine hK13 _ _ (kPost_normal (hK12 _ _ ?_))
      refine awp_ret ?_
      refine kPost_ret (hR _ _ _ (retPost_r (by simp (disch := omega) only [Try.results50, vmE, liE, eE, seval, deE, fxE, retOf, maskA, setVals, getVals, putA, stripAt, AVal.strip, stripL, rd, hc11]; rfl) (.cons _ (List.Sublist.refl _)) ?_))
      cases h
      refine ⟨?_, ?_⟩
      · simp (disch := omega) only [vmE, liE, eE, seval, deE, fxE, retOf, maskA, setVals, getVals, putA, stripAt, AVal.strip, stripL, rd, hc11]
      · rfl
    · refine awp_cond_f rfl hc11 ?_
      refine awp_skip ?_
      refine kPost_normal (hK3 _ _ ?_)
      refine awp_seq_k ?_
      intro K14 hK14
      replace h := joinK_some h
      rcases h with ⟨k16, hk16, h⟩
      refine awp_join [23, 24, 25, 26, 27, 28, 29, 30, 31, 32, 33, 34] [1] (fun vs st' => ∃ j15 : Int, vs = [.int .i64 j15] ∧ st'.m = (n, [.int .i64 0, .str [], .int .i64 0]) :: m ∧ k16 j15 = some r) hK14 ?_ ?_
      · clear h
        rintro _ ⟨m17, n18⟩ ⟨j15, rfl, hm, h⟩
        simp only [] at hm
        replace hm := hm.symm
        subst hm
        replace h := hk16 _ _ h
        clear hk16 k16
        refine AWp.known fun _ hkl => ?_
        simp only [] at hkl
        obtain ⟨_, hkl⟩ := keysLt_cons hkl
        clear hkl
        refine AWp.congr (by simp (disch := omega) only [vmE, liE, eE, seval, deE, fxE, retOf, maskA, setVals, getVals, putA, stripAt, AVal.strip, stripL, rd]; rfl) ?_
        refine awp_seq_k ?_
        intro K41 hK41
        refine awp_seq_k ?_
        intro K42 hK42
        refine awp_region' [] ?_
        intro K43 hK43
        simp (disch := omega) only [vmE, liE, eE, seval, deE, fxE, retOf, maskA, setVals, getVals, putA, stripAt, AVal.strip, stripL, rd, hc11]
        refine hK43 _ _ (kPost_normal (hK42 _ _ ?_))
        replace h := ite_some h
        rcases h with ⟨hc44, h⟩ | ⟨hc44, h⟩
        · refine awp_cond_t rfl hc44 ?_
          refine awp_seq_k ?_
          intro K45 hK45
          refine awp_region' [] ?_
          intro K46 hK46
          simp (disch := omega) only [vmE, liE, eE, seval, deE, fxE, retOf, maskA, setVals, getVals, putA, stripAt, AVal.strip, stripL, rd, hc11, hc44]
          refine hK46 _ _ (kPost_normal (hK45 _ _ ?_))
          refine awp_ret ?_
          refine kPost_ret (hR _ _ _ (retPost_r (by simp (disch := omega) only [Try.results50, vmE, liE, eE, seval, deE, fxE, retOf, maskA, setVals, getVals, putA, stripAt, AVal.strip, stripL, rd, hc11, hc44]; rfl) (.cons _ (List.Sublist.refl _)) ?_))
          cases h
          refine ⟨?_, ?_⟩
          · simp (disch := omega) only [vmE, liE, eE, seval, deE, fxE, retOf, maskA, setVals, getVals, putA, stripAt, AVal.strip, stripL, rd, hc11, hc44]
          · rfl
        · refine awp_cond_f rfl hc44 ?_
          refine awp_skip ?_
          refine kPost_normal (hK41 _ _ ?_)
          refine awp_seq_k ?_
          intro K47 hK47
          refine awp_seq_k ?_
          intro K48 hK48
          replace h := bind_some h
          rcases h with ⟨x50, hx51, h⟩
          refine awp_region' [] ?_
          intro K49 hK49
          simp (disch := omega) only [vmE, liE, eE, seval, deE, fxE, retOf, maskA, setVals, getVals, putA, stripAt, AVal.strip, stripL, rd, hc11, hc44, hx51]
          refine hK49 _ _ (kPost_normal (hK48 _ _ ?_))
          refine awp_block_k ?_
          intro K52 hK52
          refine awp_seq_k ?_
          intro K53 hK53
          replace h := bind_some h
          rcases h with ⟨y55, hy56, h⟩
          refine awp_region' [] ?_
          intro K54 hK54
          simp (disch := omega) only [vmE, liE, eE, seval, deE, fxE, retOf, maskA, setVals, getVals, putA, stripAt, AVal.strip, stripL, rd, hc11, hc44, hx51]
          refine ACall.of (ref01_In_w hy56) ?_ ?_
          · first | (simp (disch := omega) only [vmE, liE, eE, seval, deE, fxE, retOf, maskA, setVals, getVals, putA, stripAt, AVal.strip, stripL, rd, hc11, hc44, hx51]) | rfl
          rintro _ ⟨m58, n57⟩ hn57 ⟨rfl, hm⟩
          simp (disch := omega) only [vmE, liE, eE, seval] at hn57 hm
          replace hm := hm.symm
          subst hm
          simp (disch := omega) only [vmE, liE, eE, seval, deE, fxE, retOf, maskA, setVals, getVals, putA, stripAt, AVal.strip, stripL, rd, hc11, hc44, hx51]
          refine hK54 _ _ (kPost_normal (hK53 _ _ ?_))
          replace h := ite_some h
          rcases h with ⟨hc59, h⟩ | ⟨hc59, h⟩
          · refine awp_cond_t rfl hc59 ?_
            refine awp_seq_k ?_
            intro K60 hK60
            replace h := bind_some h
            rcases h with ⟨x62, hx63, h⟩
            refine awp_region' [] ?_
            intro K61 hK61
            simp (disch := omega) only [vmE, liE, eE, seval, deE, fxE, retOf, maskA, setVals, getVals, putA, stripAt, AVal.strip, stripL, rd, hc11, hc44, hx51, hc59, hx63]
            refine hK61 _ _ (kPost_normal (hK60 _ _ ?_))
            refine awp_ret ?_
            refine bPost_ret (kPost_ret (hR _ _ _ (retPost_r (by simp (disch := omega) only [Try.results50, vmE, liE, eE, seval, deE, fxE, retOf, maskA, setVals, getVals, putA, stripAt, AVal.strip, stripL, rd, hc11, hc44, hx51, hc59, hx63]; rfl) (.cons _ (List.Sublist.refl _)) ?_)))
            cases h
            refine ⟨?_, ?_⟩
            · simp (disch := omega) only [vmE, liE, eE, seval, deE, fxE, retOf, maskA, setVals, getVals, putA, stripAt, AVal.strip, stripL, rd, hc11, hc44, hx51, hc59, hx63]
            · rfl
          · refine awp_cond_f rfl hc59 ?_
            refine awp_seq_k ?_
            intro K64 hK64
            refine awp_region' [] ?_
            intro K65 hK65
            simp (disch := omega) only [vmE, liE, eE, seval, deE, fxE, retOf, maskA, setVals, getVals, putA, stripAt, AVal.strip, stripL, rd, hc11, hc44, hx51, hc59]
            refine hK65 _ _ (kPost_normal (hK64 _ _ ?_))
            replace h := ite_some h
            rcases h with ⟨hc66, h⟩ | ⟨hc66, h⟩
            · refine awp_cond_t rfl hc66 ?_
              refine awp_seq_k ?_
              intro K67 hK67
              replace h := bind_some h
              rcases h with ⟨y69, hy70, h⟩
              refine awp_region' [] ?_
              intro K68 hK68
              simp (disch := omega) only [vmE, liE, eE, seval, deE, fxE, retOf, maskA, setVals, getVals, putA, stripAt, AVal.strip, stripL, rd, hc11, hc44, hx51, hc59, hc66]
              refine ACall.of (ref13_text_w hy70) ?_ ?_
              · first | (simp (disch := omega) only [vmE, liE, eE, seval, deE, fxE, retOf, maskA, setVals, getVals, putA, stripAt, AVal.strip, stripL, rd, hc11, hc44, hx51, hc59, hc66]) | rfl
              rintro _ ⟨m72, n71⟩ hn71 ⟨rfl, hm⟩
              simp (disch := omega) only [vmE, liE, eE, seval] at hn71 hm
              replace hm := hm.symm
              subst hm
              simp (disch := omega) only [vmE, liE, eE, seval, deE, fxE, retOf, maskA, setVals, getVals, putA, stripAt, AVal.strip, stripL, rd, hc11, hc44, hx51, hc59, hc66]
              refine hK68 _ _ (kPost_normal (hK67 _ _ ?_))
              refine awp_seq_k ?_
              intro K73 hK73
              refine awp_seq_k ?_
              intro K74 hK74
              refine awp_region' [] ?_
              intro K75 hK75
              simp (disch := omega) only [vmE, liE, eE, seval, deE, fxE, retOf, maskA, setVals, getVals, putA, stripAt, AVal.strip, stripL, rd, hc11, hc44, hx51, hc59, hc66]
              refine hK75 _ _ (kPost_normal (hK74 _ _ ?_))
              replace h := ite_some h
              rcases h with ⟨hc76, h⟩ | ⟨hc76, h⟩
              · refine awp_cond_t rfl hc76 ?_
                refine awp_seq_k ?_
                intro K77 hK77
                refine awp_region' [] ?_
                intro K78 hK78
                simp (disch := omega) only [vmE, liE, eE, seval, deE, fxE, retOf, maskA, setVals, getVals, putA, stripAt, AVal.strip, stripL, rd, hc11, hc44, hx51, hc59, hc66, hc76]
                refine hK78 _ _ (kPost_normal (hK77 _ _ ?_))
                refine awp_ret ?_
                refine kPost_ret (bPost_ret (kPost_ret (hR _ _ _ (retPost_r (by simp (disch := omega) only [Try.results50, vmE, liE, eE, seval, deE, fxE, retOf, maskA, setVals, getVals, putA, stripAt, AVal.strip, stripL, rd, hc11, hc44, hx51, hc59, hc66, hc76]; rfl) (.cons _ (List.Sublist.refl _)) ?_))))
                cases h
                refine ⟨?_, ?_⟩
                · simp (disch := omega) only [vmE, liE, eE, seval, deE, fxE, retOf, maskA, setVals, getVals, putA, stripAt, AVal.strip, stripL, rd, hc11, hc44, hx51, hc59, hc66, hc76]
                · rfl
              · refine awp_cond_f rfl hc76 ?_
                refine awp_skip ?_
                refine kPost_normal (hK73 _ _ ?_)
                refine awp_seq_k ?_
                intro K79 hK79
                refine awp_region' [] ?_
                intro K80 hK80
                simp (disch := omega) only [vmE, liE, eE, seval, deE, fxE, retOf, maskA, setVals, getVals, putA, stripAt, AVal.strip, stripL, rd, hc11, hc44, hx51, hc59, hc66, hc76]
                refine hK80 _ _ (kPost_normal (hK79 _ _ ?_))
                refine awp_ret ?_
                refine bPost_ret (kPost_ret (hR _ _ _ (retPost_r (by simp (disch := omega) only [Try.results50, vmE, liE, eE, seval, deE, fxE, retOf, maskA, setVals, getVals, putA, stripAt, AVal.strip, stripL, rd, hc11, hc44, hx51, hc59, hc66, hc76]; rfl) (.cons _ (List.Sublist.refl _)) ?_)))
                cases h
                refine ⟨?_, ?_⟩
                · simp (disch := omega) only [vmE, liE, eE, seval, deE, fxE, retOf, maskA, setVals, getVals, putA, stripAt, AVal.strip, stripL, rd, hc11, hc44, hx51, hc59, hc66, hc76]
                · rfl
            · refine awp_cond_f rfl hc66 ?_
              refine awp_seq_k ?_
              intro K81 hK81
              replace h := joinK_some h
              rcases h with ⟨k83, hk83, h⟩
              refine awp_join [76, 77, 78, 79, 80, 81] [75] (fun vs st' => ∃ j82 : Bool, vs = [.bool j82] ∧ st'.m = (n, [.int .i64 0, .str [], .int .i64 0]) :: m ∧ k83 j82 = some r) hK81 ?_ ?_
              · clear h
                rintro _ ⟨m84, n85⟩ ⟨j82, rfl, hm, h⟩
                simp only [] at hm
                replace hm := hm.symm
                subst hm
                replace h := hk83 _ _ h
                clear hk83 k83
                refine AWp.known fun _ hkl => ?_
                simp only [] at hkl
                obtain ⟨_, hkl⟩ := keysLt_cons hkl
                clear hkl
                refine AWp.congr (by simp (disch := omega) only [vmE, liE, eE, seval, deE, fxE, retOf, maskA, setVals, getVals, putA, stripAt, AVal.strip, stripL, rd]; rfl) ?_
                replace h := ite_some h
                rcases h with ⟨hc92, h⟩ | ⟨hc92, h⟩
                · refine awp_cond_t rfl hc92 ?_
                  refine awp_seq_k ?_
                  intro K93 hK93
                  replace h := bind_some h
                  rcases h with ⟨x95, hx96, h⟩
                  replace h := bind_some h
                  rcases h with ⟨y97, hy98, h⟩
                  refine awp_region' [] ?_
                  intro K94 hK94
                  simp (disch := omega) only [vmE, liE, eE, seval, deE, fxE, retOf, maskA, setVals, getVals, putA, stripAt, AVal.strip, stripL, rd, hc11, hc44, hx51, hc59, hc66, hc92, hx96, hx96]
                  refine ACall.of (ref13_numeral_w hy98) ?_ ?_
                  · first | (simp (disch := omega) only [vmE, liE, eE, seval, deE, fxE, retOf, maskA, setVals, getVals, putA, stripAt, AVal.strip, stripL, rd, hc11, hc44, hx51, hc59, hc66, hc92, hx96, hx96]) | rfl
                  rintro _ ⟨m100, n99⟩ hn99 ⟨rfl, hm⟩
                  simp (disch := omega) only [vmE, liE, eE, seval] at hn99 hm
                  replace hm := hm.symm
                  subst hm
                  simp (disch := omega) only [vmE, liE, eE, seval, deE, fxE, retOf, maskA, setVals, getVals, putA, stripAt, AVal.strip, stripL, rd, hc11, hc44, hx51, hc59, hc66, hc92, hx96]
                  refine hK94 _ _ (kPost_normal (hK93 _ _ ?_))
                  refine awp_seq_k ?_
                  intro K101 hK101
                  refine awp_seq_k ?_
                  intro K102 hK102
                  refine awp_region' [] ?_
                  intro K103 hK103
                  simp (disch := omega) only [vmE, liE, eE, seval, deE, fxE, retOf, maskA, setVals, getVals, putA, stripAt, AVal.strip, stripL, rd, hc11, hc44, hx51, hc59, hc66, hc92, hx96]
                  refine hK103 _ _ (kPost_normal (hK102 _ _ ?_))
                  replace h := ite_some h
                  rcases h with ⟨hc104, h⟩ | ⟨hc104, h⟩
                  · refine awp_cond_t rfl hc104 ?_
                    refine awp_seq_k ?_
                    intro K105 hK105
                    refine awp_region' [] ?_
                    intro K106 hK106
                    simp (disch := omega) only [vmE, liE, eE, seval, deE, fxE, retOf, maskA, setVals, getVals, putA, stripAt, AVal.strip, stripL, rd, hc11, hc44, hx51, hc59, hc66, hc92, hx96, hc104]
                    refine hK106 _ _ (kPost_normal (hK105 _ _ ?_))
                    refine awp_ret ?_
                    refine kPost_ret (bPost_ret (kPost_ret (hR _ _ _ (retPost_r (by simp (disch := omega) only [Try.results50, vmE, liE, eE, seval, deE, fxE, retOf, maskA, setVals, getVals, putA, stripAt, AVal.strip, stripL, rd, hc11, hc44, hx51, hc59, hc66, hc92, hx96, hc104]; rfl) (.cons _ (List.Sublist.refl _)) ?_))))
                    cases h
                    refine ⟨?_, ?_⟩
                    · simp (disch := omega) only [vmE, liE, eE, seval, deE, fxE, retOf, maskA, setVals, getVals, putA, stripAt, AVal.strip, stripL, rd, hc11, hc44, hx51, hc59, hc66, hc92, hx96, hc104]
                    · rfl
                  · refine awp_cond_f rfl hc104 ?_
                    refine awp_skip ?_
                    refine kPost_normal (hK101 _ _ ?_)
                    refine awp_seq_k ?_
                    intro K107 hK107
                    replace h := bind_some h
                    rcases h with ⟨x109, hx110, h⟩
                    refine awp_region' [] ?_
                    intro K108 hK108
                    simp (disch := omega) only [vmE, liE, eE, seval, deE, fxE, retOf, maskA, setVals, getVals, putA, stripAt, AVal.strip, stripL, rd, hc11, hc44, hx51, hc59, hc66, hc92, hx96, hc104, hx110]
                    refine hK108 _ _ (kPost_normal (hK107 _ _ ?_))
                    refine awp_ret ?_
                    refine bPost_ret (kPost_ret (hR _ _ _ (retPost_r (by simp (disch := omega) only [Try.results50, vmE, liE, eE, seval, deE, fxE, retOf, maskA, setVals, getVals, putA, stripAt, AVal.strip, stripL, rd, hc11, hc44, hx51, hc59, hc66, hc92, hx96, hc104, hx110]; rfl) (.cons _ (List.Sublist.refl _)) ?_)))
                    cases h
                    refine ⟨?_, ?_⟩
                    · simp (disch := omega) only [vmE, liE, eE, seval, deE, fxE, retOf, maskA, setVals, getVals, putA, stripAt, AVal.strip, stripL, rd, hc11, hc44, hx51, hc59, hc66, hc92, hx96, hc104, hx110]
                    · rfl
                · refine awp_cond_f rfl hc92 ?_
                  refine awp_skip ?_
                  refine bPost_normal (hK52 _ _ (kPost_normal (hK47 _ _ ?_)))
                  refine awp_seq_k ?_
                  intro K111 hK111
                  refine awp_region' [] ?_
                  intro K112 hK112
                  simp (disch := omega) only [vmE, liE, eE, seval, deE, fxE, retOf, maskA, setVals, getVals, putA, stripAt, AVal.strip, stripL, rd, hc11, hc44, hx51, hc59, hc66, hc92]
                  refine hK112 _ _ (kPost_normal (hK111 _ _ ?_))
                  refine awp_seq_k ?_
                  intro K113 hK113
                  replace h := joinK_some h
                  rcases h with ⟨k115, hk115, h⟩
                  refine awp_join [100, 101, 102, 103, 104, 105, 106, 107, 108, 109, 110, 111, 112, 113, 114, 115] [12] (fun vs st' => ∃ j114 : Int, vs = [.int .i64 j114] ∧ st'.m = (n, [.int .i64 0, .str [], .int .i64 0]) :: m ∧ k115 j114 = some r) hK113 ?_ ?_
                  · clear h
                    rintro _ ⟨m116, n117⟩ ⟨j114, rfl, hm, h⟩
                    simp only [] at hm
                    replace hm := hm.symm
                    subst hm
                    replace h := hk115 _ _ h
                    clear hk115 k115
                    refine AWp.known fun _ hkl => ?_
                    simp only [] at hkl
                    obtain ⟨_, hkl⟩ := keysLt_cons hkl
                    clear hkl
                    refine AWp.congr (by simp (disch := omega) only [vmE, liE, eE, seval, deE, fxE, retOf, maskA, setVals, getVals, putA, stripAt, AVal.strip, stripL, rd]; rfl) ?_
                    refine awp_seq_k ?_
                    intro K140 hK140
                    refine awp_seq_k ?_
                    intro K141 hK141
                    replace h := bind_some h
                    rcases h with ⟨x143, hx144, h⟩
                    refine awp_region' [] ?_
                    intro K142 hK142
                    simp (disch := omega) only [vmE, liE, eE, seval, deE, fxE, retOf, maskA, setVals, getVals, putA, stripAt, AVal.strip, stripL, rd, hc11, hc44, hx51, hc59, hc66, hc92, hx144]
                    refine hK142 _ _ (kPost_normal (hK141 _ _ ?_))
                    refine awp_seq_k ?_
                    intro K145 hK145
                    replace h := joinK_some h
                    rcases h with ⟨k147, hk147, h⟩
                    refine awp_join [122, 123, 124, 125, 126, 127, 128, 129, 130] [131] (fun vs st' => ∃ j146 : Bool, vs = [.bool j146] ∧ st'.m = (n, [.int .i64 0, .str [], .int .i64 0]) :: m ∧ k147 j146 = some r) hK145 ?_ ?_
                    · clear h
                      rintro _ ⟨m148, n149⟩ ⟨j146, rfl, hm, h⟩
                      simp only [] at hm
                      replace hm := hm.symm
                      subst hm
                      replace h := hk147 _ _ h
                      clear hk147 k147
                      refine AWp.known fun _ hkl => ?_
                      simp only [] at hkl
                      obtain ⟨_, hkl⟩ := keysLt_cons hkl
                      clear hkl
                      refine AWp.congr (by simp (disch := omega) only [vmE, liE, eE, seval, deE, fxE, retOf, maskA, setVals, getVals, putA, stripAt, AVal.strip, stripL, rd]; rfl) ?_
                      replace h := ite_some h
                      rcases h with ⟨hc153, h⟩ | ⟨hc153, h⟩
                      · refine awp_cond_t rfl hc153 ?_
                        refine awp_seq_k ?_
                        intro K154 hK154
                        refine awp_region' [] ?_
                        intro K155 hK155
                        simp (disch := omega) only [vmE, liE, eE, seval, deE, fxE, retOf, maskA, setVals, getVals, putA, stripAt, AVal.strip, stripL, rd, hc11, hc44, hx51, hc59, hc66, hc92, hx144, hc153]
                        refine hK155 _ _ (kPost_normal (hK154 _ _ ?_))
                        refine awp_ret ?_
                        refine kPost_ret (hR _ _ _ (retPost_r (by simp (disch := omega) only [Try.results50, vmE, liE, eE, seval, deE, fxE, retOf, maskA, setVals, getVals, putA, stripAt, AVal.strip, stripL, rd, hc11, hc44, hx51, hc59, hc66, hc92, hx144, hc153]; rfl) (.cons _ (List.Sublist.refl _)) ?_))
                        cases h
                        refine ⟨?_, ?_⟩
                        · simp (disch := omega) only [vmE, liE, eE, seval, deE, fxE, retOf, maskA, setVals, getVals, putA, stripAt, AVal.strip, stripL, rd, hc11, hc44, hx51, hc59, hc66, hc92, hx144, hc153]
                        · rfl
                      · refine awp_cond_f rfl hc153 ?_
                        refine awp_skip ?_
                        refine kPost_normal (hK140 _ _ ?_)
                        refine awp_seq_k ?_
                        intro K156 hK156
                        refine awp_region' [] ?_
                        intro K157 hK157
                        simp (disch := omega) only [vmE, liE, eE, seval, deE, fxE, retOf, maskA, setVals, getVals, putA, stripAt, AVal.strip, stripL, rd, hc11, hc44, hx51, hc59, hc66, hc92, hx144, hc153]
                        refine hK157 _ _ (kPost_normal (hK156 _ _ ?_))
                        refine awp_ret ?_
                        refine hR _ _ _ (retPost_r (by simp (disch := omega) only [Try.results50, vmE, liE, eE, seval, deE, fxE, retOf, maskA, setVals, getVals, putA, stripAt, AVal.strip, stripL, rd, hc11, hc44, hx51, hc59, hc66, hc92, hx144, hc153]; rfl) (.cons _ (List.Sublist.refl _)) ?_)
                        cases h
                        refine ⟨?_, ?_⟩
                        · simp (disch := omega) only [vmE, liE, eE, seval, deE, fxE, retOf, maskA, setVals, getVals, putA, stripAt, AVal.strip, stripL, rd, hc11, hc44, hx51, hc59, hc66, hc92, hx144, hc153]
                        · rfl
                    · intro J158 hJ158
                      replace h := ite_some h
                      rcases h with ⟨hc151, h⟩ | ⟨hc151, h⟩
                      · refine awp_region' [] ?_
                        intro K150 hK150
                        simp (disch := omega) only [vmE, liE, eE, seval, deE, fxE, retOf, maskA, setVals, getVals, putA, stripAt, AVal.strip, stripL, rd, hc11, hc44, hx51, hc59, hc66, hc92, hx144, hc151]
                        refine hK150 _ _ (kPost_normal (hJ158 _ _ _ (List.Sublist.refl _) ?_ ⟨true, ?_, ?_, h⟩)) <;> simp (disch := omega) only [vmE, liE, eE, seval, deE, fxE, retOf, maskA, setVals, getVals, putA, stripAt, AVal.strip, stripL, rd, hc11, hc44, hx51, hc59, hc66, hc92, hx144, hc151]
                      · replace h := ite_some h
                        rcases h with ⟨hc152, h⟩ | ⟨hc152, h⟩
                        · refine awp_region' [] ?_
                          intro K150 hK150
                          simp (disch := omega) only [vmE, liE, eE, seval, deE, fxE, retOf, maskA, setVals, getVals, putA, stripAt, AVal.strip, stripL, rd, hc11, hc44, hx51, hc59, hc66, hc92, hx144, hc151, hc152]
                          refine hK150 _ _ (kPost_normal (hJ158 _ _ _ (List.Sublist.refl _) ?_ ⟨true, ?_, ?_, h⟩)) <;> simp (disch := omega) only [vmE, liE, eE, seval, deE, fxE, retOf, maskA, setVals, getVals, putA, stripAt, AVal.strip, stripL, rd, hc11, hc44, hx51, hc59, hc66, hc92, hx144, hc151, hc152]
                        · refine awp_region' [] ?_
                          intro K150 hK150
                          simp (disch := omega) only [vmE, liE, eE, seval, deE, fxE, retOf, maskA, setVals, getVals, putA, stripAt, AVal.strip, stripL, rd, hc11, hc44, hx51, hc59, hc66, hc92, hx144, hc151, hc152]
                          refine hK150 _ _ (kPost_normal (hJ158 _ _ _ (List.Sublist.refl _) ?_ ⟨(x143 == ([110, 117, 108, 108] : List UInt8)), ?_, ?_, h⟩)) <;> simp (disch := omega) only [vmE, liE, eE, seval, deE, fxE, retOf, maskA, setVals, getVals, putA, stripAt, AVal.strip, stripL, rd, hc11, hc44, hx51, hc59, hc66, hc92, hx144, hc151, hc152]
                  · intro J159 hJ159
                    refine awp_block_k ?_
                    intro K118 hK118
                    refine awp_loop_v [100, 101, 102, 103, 104, 105, 106, 107, 108, 109, 110, 111, 112, 113, 114, 115] [12] (fun k vs st' => ∃ (s12 : Int), vs = [.int .i64 s12] ∧ st'.m = (n, [.int .i64 0, .str [], .int .i64 0]) :: m ∧ ref13_Next_L2 N a0 j15 k115 k s12 = some r) N ⟨0, ?_, ?_, h⟩ ?_
                    · simp (disch := omega) only [vmE, liE, eE, seval, deE, fxE, retOf, maskA, setVals, getVals, putA, stripAt, AVal.strip, stripL, rd, hc11, hc44, hx51, hc59, hc66, hc92]
                    · simp (disch := omega) only [vmE, liE, eE, seval, deE, fxE, retOf, maskA, setVals, getVals, putA, stripAt, AVal.strip, stripL, rd, hc11, hc44, hx51, hc59, hc66, hc92]
                    · clear h
                      rintro k119 _ ⟨m139, nL1_1⟩ ⟨s12, rfl, hm, h⟩ J138 hJ138
                      simp only [] at hm
                      replace hm := hm.symm
                      subst hm
                      rcases k119 with _ | k119
                      · simp only [ref13_Next_L2, reduceCtorEq] at h
                      rw [ref13_Next_L2] at h
                      refine AWp.known fun _ hkl => ?_
                      simp only [] at hkl
                      obtain ⟨_, hkl⟩ := keysLt_cons hkl
                      clear hkl
                      refine AWp.congr (by simp (disch := omega) only [vmE, liE, eE, seval, deE, fxE, retOf, maskA, setVals, getVals, putA, stripAt, AVal.strip, stripL, rd]; rfl) ?_
                      refine awp_seq_k ?_
                      intro K120 hK120
                      refine awp_seq_k ?_
                      intro K121 hK121
                      replace h := joinK_some h
                      rcases h with ⟨k123, hk123, h⟩
                      refine awp_join [100, 101, 102, 103, 104, 105, 106, 107, 108, 109, 110, 111, 112] [113] (fun vs st' => ∃ j122 : Bool, vs = [.bool j122] ∧ st'.m = (n, [.int .i64 0, .str [], .int .i64 0]) :: m ∧ k123 j122 = some r) hK121 ?_ ?_
                      · clear h
                        rintro _ ⟨m124, n125⟩ ⟨j122, rfl, hm, h⟩
                        simp only [] at hm
                        replace hm := hm.symm
                        subst hm
                        replace h := hk123 _ _ h
                        clear hk123 k123
                        refine AWp.known fun _ hkl => ?_
                        simp only [] at hkl
                        obtain ⟨_, hkl⟩ := keysLt_cons hkl
                        clear hkl
                        refine AWp.congr (by simp (disch := omega) only [vmE, liE, eE, seval, deE, fxE, retOf, maskA, setVals, getVals, putA, stripAt, AVal.strip, stripL, rd]; rfl) ?_
                        replace h := ite_some h
                        rcases h with ⟨hc134, h⟩ | ⟨hc134, h⟩
                        · refine awp_cond_t rfl hc134 ?_
                          refine awp_skip ?_
                          refine kPost_normal (hK120 _ _ ?_)
                          refine awp_block_k ?_
                          intro K135 hK135
                          refine awp_region' [] ?_
                          intro K136 hK136
                          simp (disch := omega) only [vmE, liE, eE, seval, deE, fxE, retOf, maskA, setVals, getVals, putA, stripAt, AVal.strip, stripL, rd, hc11, hc44, hx51, hc59, hc66, hc92, hc134]
                          refine hK136 _ _ (bPost_normal (hK135 _ _ (kPost_normal (hJ138 k119 _ _ _ (Nat.lt_succ_self _) (List.Sublist.refl _) ?_ ⟨(wr .i64 (s12 + 1)), ?_, ?_, h⟩)))) <;> simp (disch := omega) only [vmE, liE, eE, seval, deE, fxE, retOf, maskA, setVals, getVals, putA, stripAt, AVal.strip, stripL, rd, hc11, hc44, hx51, hc59, hc66, hc92, hc134]
                        · refine awp_cond_f rfl hc134 ?_
                          refine awp_exit ?_
                          refine kPost_exit (kPost_exit (bPost_here (hK118 _ _ (kPost_normal (hJ159 _ _ _ (List.Sublist.refl _) ?_ ⟨s12, ?_, ?_, h⟩))))) <;> simp (disch := omega) only [vmE, liE, eE, seval, deE, fxE, retOf, maskA, setVals, getVals, putA, stripAt, AVal.strip, stripL, rd, hc11, hc44, hx51, hc59, hc66, hc92, hc134]
                      · intro J137 hJ137
                        replace h := ite_some h
                        rcases h with ⟨hc127, h⟩ | ⟨hc127, h⟩
                        · replace h := bind_some h
                          rcases h with ⟨x128, hx129, h⟩
                          replace h := bind_some h
                          rcases h with ⟨y130, hy131, h⟩
                          refine awp_region' [] ?_
                          intro K126 hK126
                          simp (disch := omega) only [vmE, liE, eE, seval, deE, fxE, retOf, maskA, setVals, getVals, putA, stripAt, AVal.strip, stripL, rd, hc11, hc44, hx51, hc59, hc66, hc92, hc127, hx129, hc127, hx129]
                          refine ACall.of (ref01_IsAlpha_w hy131) ?_ ?_
                          · first | (simp (disch := omega) only [vmE, liE, eE, seval, deE, fxE, retOf, maskA, setVals, getVals, putA, stripAt, AVal.strip, stripL, rd, hc11, hc44, hx51, hc59, hc66, hc92, hc127, hx129, hc127, hx129]) | rfl
                          rintro _ ⟨m133, n132⟩ hn132 ⟨rfl, hm⟩
                          simp (disch := omega) only [vmE, liE, eE, seval] at hn132 hm
                          replace hm := hm.symm
                          subst hm
                          simp (disch := omega) only [vmE, liE, eE, seval, deE, fxE, retOf, maskA, setVals, getVals, putA, stripAt, AVal.strip, stripL, rd, hc11, hc44, hx51, hc59, hc66, hc92, hc127, hx129]
                          refine hK126 _ _ (kPost_normal (hJ137 _ _ _ (List.Sublist.refl _) ?_ ⟨y130, ?_, ?_, h⟩)) <;> simp (disch := omega) only [vmE, liE, eE, seval, deE, fxE, retOf, maskA, setVals, getVals, putA, stripAt, AVal.strip, stripL, rd, hc11, hc44, hx51, hc59, hc66, hc92, hc127, hx129]
                        · refine awp_region' [] ?_
                          intro K126 hK126
                          simp (disch := omega) only [vmE, liE, eE, seval, deE, fxE, retOf, maskA, setVals, getVals, putA, stripAt, AVal.strip, stripL, rd, hc11, hc44, hx51, hc59, hc66, hc92, hc127]
                          refine hK126 _ _ (kPost_normal (hJ137 _ _ _ (List.Sublist.refl _) ?_ ⟨false, ?_, ?_, h⟩)) <;> simp (disch := omega) only [vmE, liE, eE, seval, deE, fxE, retOf, maskA, setVals, getVals, putA, stripAt, AVal.strip, stripL, rd, hc11, hc44, hx51, hc59, hc66, hc92, hc127]
              · intro J160 hJ160
                replace h := ite_some h
                rcases h with ⟨hc87, h⟩ | ⟨hc87, h⟩
                · refine awp_region' [] ?_
                  intro K86 hK86
                  simp (disch := omega) only [vmE, liE, eE, seval, deE, fxE, retOf, maskA, setVals, getVals, putA, stripAt, AVal.strip, stripL, rd, hc11, hc44, hx51, hc59, hc66, hc87]
                  refine hK86 _ _ (kPost_normal (hJ160 _ _ _ (List.Sublist.refl _) ?_ ⟨true, ?_, ?_, h⟩)) <;> simp (disch := omega) only [vmE, liE, eE, seval, deE, fxE, retOf, maskA, setVals, getVals, putA, stripAt, AVal.strip, stripL, rd, hc11, hc44, hx51, hc59, hc66, hc87]
                · replace h := bind_some h
                  rcases h with ⟨y88, hy89, h⟩
                  refine awp_region' [] ?_
                  intro K86 hK86
                  simp (disch := omega) only [vmE, liE, eE, seval, deE, fxE, retOf, maskA, setVals, getVals, putA, stripAt, AVal.strip, stripL, rd, hc11, hc44, hx51, hc59, hc66, hc87, hc87]
                  refine ACall.of (ref01_IsDigit_w hy89) ?_ ?_
                  · first | (simp (disch := omega) only [vmE, liE, eE, seval, deE, fxE, retOf, maskA, setVals, getVals, putA, stripAt, AVal.strip, stripL, rd, hc11, hc44, hx51, hc59, hc66, hc87, hc87]) | rfl
                  rintro _ ⟨m91, n90⟩ hn90 ⟨rfl, hm⟩
                  simp (disch := omega) only [vmE, liE, eE, seval] at hn90 hm
                  replace hm := hm.symm
                  subst hm
                  simp (disch := omega) only [vmE, liE, eE, seval, deE, fxE, retOf, maskA, setVals, getVals, putA, stripAt, AVal.strip, stripL, rd, hc11, hc44, hx51, hc59, hc66, hc87]
                  refine hK86 _ _ (kPost_normal (hJ160 _ _ _ (List.Sublist.refl _) ?_ ⟨y88, ?_, ?_, h⟩)) <;> simp (disch := omega) only [vmE, liE, eE, seval, deE, fxE, retOf, maskA, setVals, getVals, putA, stripAt, AVal.strip, stripL, rd, hc11, hc44, hx51, hc59, hc66, hc87]
      · intro J161 hJ161
        refine awp_block_k ?_
        intro K19 hK19
        refine awp_loop_v [23, 24, 25, 26, 27, 28, 29, 30, 31, 32, 33, 34] [1] (fun k vs st' => ∃ (s1 : Int), vs = [.int .i64 s1] ∧ st'.m = (n, [.int .i64 0, .str [], .int .i64 0]) :: m ∧ ref13_Next_L1 N a0 k16 k s1 = some r) N ⟨a1, ?_, ?_, h⟩ ?_
        · simp (disch := omega) only [vmE, liE, eE, seval, deE, fxE, retOf, maskA, setVals, getVals, putA, stripAt, AVal.strip, stripL, rd, hc11]
        · simp (disch := omega) only [vmE, liE, eE, seval, deE, fxE, retOf, maskA, setVals, getVals, putA, stripAt, AVal.strip, stripL, rd, hc11]
        · clear h
          rintro k20 _ ⟨m40, nL0_1⟩ ⟨s1, rfl, hm, h⟩ J39 hJ39
          simp only [] at hm
          replace hm := hm.symm
          subst hm
          rcases k20 with _ | k20
          · simp only [ref13_Next_L1, reduceCtorEq] at h
          rw [ref13_Next_L1] at h
          refine AWp.known fun _ hkl => ?_
          simp only [] at hkl
          obtain ⟨_, hkl⟩ := keysLt_cons hkl
          clear hkl
          refine AWp.congr (by simp (disch := omega) only [vmE, liE, eE, seval, deE, fxE, retOf, maskA, setVals, getVals, putA, stripAt, AVal.strip, stripL, rd]; rfl) ?_
          refine awp_seq_k ?_
          intro K21 hK21
          refine awp_seq_k ?_
          intro K22 hK22
          replace h := joinK_some h
          rcases h with ⟨k24, hk24, h⟩
          refine awp_join [23, 24, 25, 26, 27, 28, 29, 30, 31] [32] (fun vs st' => ∃ j23 : Bool, vs = [.bool j23] ∧ st'.m = (n, [.int .i64 0, .str [], .int .i64 0]) :: m ∧ k24 j23 = some r) hK22 ?_ ?_
          · clear h
            rintro _ ⟨m25, n26⟩ ⟨j23, rfl, hm, h⟩
            simp only [] at hm
            replace hm := hm.symm
            subst hm
            replace h := hk24 _ _ h
            clear hk24 k24
            refine AWp.known fun _ hkl => ?_
            simp only [] at hkl
            obtain ⟨_, hkl⟩ := keysLt_cons hkl
            clear hkl
            refine AWp.congr (by simp (disch := omega) only [vmE, liE, eE, seval, deE, fxE, retOf, maskA, setVals, getVals, putA, stripAt, AVal.strip, stripL, rd]; rfl) ?_
            replace h := ite_some h
            rcases h with ⟨hc35, h⟩ | ⟨hc35, h⟩
            · refine awp_cond_t rfl hc35 ?_
              refine awp_skip ?_
              refine kPost_normal (hK21 _ _ ?_)
              refine awp_block_k ?_
              intro K36 hK36
              refine awp_region' [] ?_
              intro K37 hK37
              simp (disch := omega) only [vmE, liE, eE, seval, deE, fxE, retOf, maskA, setVals, getVals, putA, stripAt, AVal.strip, stripL, rd, hc11, hc35]
              refine hK37 _ _ (bPost_normal (hK36 _ _ (kPost_normal (hJ39 k20 _ _ _ (Nat.lt_succ_self _) (List.Sublist.refl _) ?_ ⟨(wr .i64 (s1 + 1)), ?_, ?_, h⟩)))) <;> simp (disch := omega) only [vmE, liE, eE, seval, deE, fxE, retOf, maskA, setVals, getVals, putA, stripAt, AVal.strip, stripL, rd, hc11, hc35]
            · refine awp_cond_f rfl hc35 ?_
              refine awp_exit ?_
              refine kPost_exit (kPost_exit (bPost_here (hK19 _ _ (kPost_normal (hJ161 _ _ _ (List.Sublist.refl _) ?_ ⟨s1, ?_, ?_, h⟩))))) <;> simp (disch := omega) only [vmE, liE, eE, seval, deE, fxE, retOf, maskA, setVals, getVals, putA, stripAt, AVal.strip, stripL, rd, hc11, hc35]
          · intro J38 hJ38
            replace h := ite_some h
            rcases h with ⟨hc28, h⟩ | ⟨hc28, h⟩
            · replace h := bind_some h
              rcases h with ⟨x29, hx30, h⟩
              replace h := bind_some h
              rcases h with ⟨y31, hy32, h⟩
              refine awp_region' [] ?_
              intro K27 hK27
              simp (disch := omega) only [vmE, liE, eE, seval, deE, fxE, retOf, maskA, setVals, getVals, putA, stripAt, AVal.strip, stripL, rd, hc11, hc28, hx30, hc28, hx30]
              refine ACall.of (ref13_white_w hy32) ?_ ?_
              · first | (simp (disch := omega) only [vmE, liE, eE, seval, deE, fxE, retOf, maskA, setVals, getVals, putA, stripAt, AVal.strip, stripL, rd, hc11, hc28, hx30, hc28, hx30]) | rfl
              rintro _ ⟨m34, n33⟩ hn33 ⟨rfl, hm⟩
              simp (disch := omega) only [vmE, liE, eE, seval] at hn33 hm
              replace hm := hm.symm
              subst hm
              simp (disch := omega) only [vmE, liE, eE, seval, deE, fxE, retOf, maskA, setVals, getVals, putA, stripAt, AVal.strip, stripL, rd, hc11, hc28, hx30]
              refine hK27 _ _ (kPost_normal (hJ38 _ _ _ (List.Sublist.refl _) ?_ ⟨y31, ?_, ?_, h⟩)) <;> simp (disch := omega) only [vmE, liE, eE, seval, deE, fxE, retOf, maskA, setVals, getVals, putA, stripAt, AVal.strip, stripL, rd, hc11, hc28, hx30]
            · refine awp_region' [] ?_
              intro K27 hK27
              simp (disch := omega) only [vmE, liE, eE, seval, deE, fxE, retOf, maskA, setVals, getVals, putA, stripAt, AVal.strip, stripL, rd, hc11, hc28]
              refine hK27 _ _ (kPost_normal (hJ38 _ _ _ (List.Sublist.refl _) ?_ ⟨false, ?_, ?_, h⟩)) <;> simp (disch := omega) only [vmE, liE, eE, seval, deE, fxE, retOf, maskA, setVals, getVals, putA, stripAt, AVal.strip, stripL, rd, hc11, hc28]
  · intro J162 hJ162
    replace h := ite_some h
    rcases h with ⟨hc10, h⟩ | ⟨hc10, h⟩
    · refine awp_region' [] ?_
      intro K9 hK9
      simp (disch := omega) only [vmE, liE, eE, seval, deE, fxE, retOf, maskA, setVals, getVals, putA, stripAt, AVal.strip, stripL, rd, hc10]
      refine hK9 _ _ (kPost_normal (hJ162 _ _ _ (List.Sublist.refl _) ?_ ⟨true, ?_, ?_, h⟩)) <;> simp (disch := omega) only [vmE, liE, eE, seval, deE, fxE, retOf, maskA, setVals, getVals, putA, stripAt, AVal.strip, stripL, rd, hc10]
    · refine awp_region' [] ?_
      intro K9 hK9
      simp (disch := omega) only [vmE, liE, eE, seval, deE, fxE, retOf, maskA, setVals, getVals, putA, stripAt, AVal.strip, stripL, rd, hc10]
      refine hK9 _ _ (kPost_normal (hJ162 _ _ _ (List.Sublist.refl _) ?_ ⟨(decide (a1 > (a0.length : Int))), ?_, ?_, h⟩)) <;> simp (disch := omega) only [vmE, liE, eE, seval, deE, fxE, retOf, maskA, setVals, getVals, putA, stripAt, AVal.strip, stripL, rd, hc10]
end Go.Proofs.Ytdbeiialamganaa
