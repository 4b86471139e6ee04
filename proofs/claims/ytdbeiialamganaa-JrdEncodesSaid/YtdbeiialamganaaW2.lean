/- That the code computes these functions; written by decomp.py. -/
import Derived.Test.YtdbeiialamganaaVmFacts
import Derived.Test.YtdbeiialamganaaDefs
import Derived.Test.YtdbeiialamganaaVMSets
set_option linter.unusedVariables false
set_option linter.unusedSimpArgs false
set_option maxHeartbeats 4000000
set_option maxRecDepth 100000
set_option linter.defProp false
namespace Go.Proofs.Ytdbeiialamganaa
open Go.VM
theorem keep_JRD_w {N : Nat} {a0 : ApiJRD} {r : Bool} (h : keep_JRD N a0 = some r) {n : Nat} {m : List (Nat × List AVal)} :
    ACall vE 14 [.agg [.str a0.subject, .slice 1 (List.map AVal.str a0.aliases) false, .slice 3 (List.map encApiProperty a0.properties) false, .slice 6 (List.map encApiLink a0.links) false]] ⟨m, n⟩ fun r' st => r' = .bool r ∧ st.m = m := by
  rw [keep_JRD] at h
  refine acall_k Try.func14 rfl ?_
  intro R hR
  refine AWp.congr (by simp only [Try.ntmps14, liE, seval]; rfl) ?_
  refine awp_seq_k ?_
  intro K1 hK1
  refine awp_region' [] ?_
  intro K2 hK2
  simp (disch := omega) only [vmE, liE, eE, seval, deE, fxE, retOf, maskA, setVals, getVals, putA, stripAt, AVal.strip, stripL, rd]
  refine hK2 _ _ (kPost_normal (hK1 _ _ ?_))
  refine awp_seq_k ?_
  intro K3 hK3
  refine awp_seq_k ?_
  intro K4 hK4
  replace h := joinK_some h
  rcases h with ⟨k6, hk6, h⟩
  refine awp_join [7, 8, 9, 10, 11, 12, 13, 14, 15, 16, 17, 18, 19, 20, 21, 22, 23, 24, 25, 26, 27] [28] (fun vs st' => ∃ j5 : Bool, vs = [.bool j5] ∧ st'.m = (n, [.str a0.subject, .slice 1 (List.map AVal.str a0.aliases) false, .slice 3 (List.map encApiProperty a0.properties) false, .slice 6 (List.map encApiLink a0.links) false]) :: m ∧ k6 j5 = some r) hK4 ?_ ?_
  · clear h
    rintro _ ⟨m7, n8⟩ ⟨j5, rfl, hm, h⟩
    simp only [] at hm
    replace hm := hm.symm
    subst hm
    replace h := hk6 _ _ h
    clear hk6 k6
    refine AWp.known fun _ hkl => ?_
    simp only [] at hkl
    obtain ⟨_, hkl⟩ := keysLt_cons hkl
    clear hkl
    refine AWp.congr (by simp (disch := omega) only [vmE, liE, eE, seval, deE, fxE, retOf, maskA, setVals, getVals, putA, stripAt, AVal.strip, stripL, rd]; rfl) ?_
    replace h := ite_some h
    rcases h with ⟨hc13, h⟩ | ⟨hc13, h⟩
    · refine awp_cond_t rfl hc13 ?_
      refine awp_seq_k ?_
      intro K14 hK14
      refine awp_region' [] ?_
      intro K15 hK15
      simp (disch := omega) only [vmE, liE, eE, seval, deE, fxE, retOf, maskA, setVals, getVals, putA, stripAt, AVal.strip, stripL, rd, hc13]
      refine hK15 _ _ (kPost_normal (hK14 _ _ ?_))
      refine awp_ret ?_
      refine kPost_ret (hR _ _ _ (retPost_r (by simp (disch := omega) only [Try.results14, vmE, liE, eE, seval, deE, fxE, retOf, maskA, setVals, getVals, putA, stripAt, AVal.strip, stripL, rd, hc13]; rfl) (.cons _ (List.Sublist.refl _)) ?_))
      cases h
      refine ⟨?_, ?_⟩
      · simp (disch := omega) only [vmE, liE, eE, seval, deE, fxE, retOf, maskA, setVals, getVals, putA, stripAt, AVal.strip, stripL, rd, hc13]
      · rfl
    · refine awp_cond_f rfl hc13 ?_
      refine awp_skip ?_
      refine kPost_normal (hK3 _ _ ?_)
      refine awp_seq_k ?_
      intro K16 hK16
      replace h := joinK_some h
      rcases h with ⟨k18, hk18, h⟩
      refine awp_join [2, 4, 29, 30, 31, 32, 33, 34, 35, 36, 37, 38, 39] [] (fun vs st' => ∃ j17 : Unit, vs = [] ∧ st'.m = (n, [.str a0.subject, .slice 1 (List.map AVal.str a0.aliases) false, .slice 3 (List.map encApiProperty a0.properties) false, .slice 6 (List.map encApiLink a0.links) false]) :: m ∧ k18 j17 = some r) hK16 ?_ ?_
      · clear h
        rintro _ ⟨m19, n20⟩ ⟨j17, rfl, hm, h⟩
        simp only [] at hm
        replace hm := hm.symm
        subst hm
        replace h := hk18 _ _ h
        clear hk18 k18
        refine AWp.known fun _ hkl => ?_
        simp only [] at hkl
        obtain ⟨_, hkl⟩ := keysLt_cons hkl
        clear hkl
        refine AWp.congr (by simp (disch := omega) only [vmE, liE, eE, seval, deE, fxE, retOf, maskA, setVals, getVals, putA, stripAt, AVal.strip, stripL, rd]; rfl) ?_
        refine awp_seq_k ?_
        intro K43 hK43
        replace h := joinK_some h
        rcases h with ⟨k45, hk45, h⟩
        refine awp_join [2, 6, 40, 41, 42, 43, 44, 45, 46, 47, 48, 49, 50, 51, 52, 53, 54, 55, 56, 57, 58, 59, 60, 61, 62, 63, 64, 65, 66, 67, 68, 69, 70, 71, 72, 73, 74, 75] [] (fun vs st' => ∃ j44 : Unit, vs = [] ∧ st'.m = (n, [.str a0.subject, .slice 1 (List.map AVal.str a0.aliases) false, .slice 3 (List.map encApiProperty a0.properties) false, .slice 6 (List.map encApiLink a0.links) false]) :: m ∧ k45 j44 = some r) hK43 ?_ ?_
        · clear h
          rintro _ ⟨m46, n47⟩ ⟨j44, rfl, hm, h⟩
          simp only [] at hm
          replace hm := hm.symm
          subst hm
          replace h := hk45 _ _ h
          clear hk45 k45
          refine AWp.known fun _ hkl => ?_
          simp only [] at hkl
          obtain ⟨_, hkl⟩ := keysLt_cons hkl
          clear hkl
          refine AWp.congr (by simp (disch := omega) only [vmE, liE, eE, seval, deE, fxE, retOf, maskA, setVals, getVals, putA, stripAt, AVal.strip, stripL, rd]; rfl) ?_
          refine awp_seq_k ?_
          intro K77 hK77
          refine awp_region' [] ?_
          intro K78 hK78
          simp (disch := omega) only [vmE, liE, eE, seval, deE, fxE, retOf, maskA, setVals, getVals, putA, stripAt, AVal.strip, stripL, rd, hc13]
          refine hK78 _ _ (kPost_normal (hK77 _ _ ?_))
          refine awp_ret ?_
          refine hR _ _ _ (retPost_r (by simp (disch := omega) only [Try.results14, vmE, liE, eE, seval, deE, fxE, retOf, maskA, setVals, getVals, putA, stripAt, AVal.strip, stripL, rd, hc13]; rfl) (.cons _ (List.Sublist.refl _)) ?_)
          cases h
          refine ⟨?_, ?_⟩
          · simp (disch := omega) only [vmE, liE, eE, seval, deE, fxE, retOf, maskA, setVals, getVals, putA, stripAt, AVal.strip, stripL, rd, hc13]
          · rfl
        · intro J79 hJ79
          refine awp_seq_k ?_
          intro K48 hK48
          refine awp_region' [] ?_
          intro K49 hK49
          simp (disch := omega) only [vmE, liE, eE, seval, deE, fxE, retOf, maskA, setVals, getVals, putA, stripAt, AVal.strip, stripL, rd, hc13]
          refine hK49 _ _ (kPost_normal (hK48 _ _ ?_))
          refine awp_block_k ?_
          intro K50 hK50
          refine awp_loop_v [2, 6, 44, 45, 46, 47, 48, 49, 50, 51, 52, 53, 54, 55, 56, 57, 58, 59, 60, 61, 62, 63, 64, 65, 66, 67, 68, 69, 70, 71, 72, 73, 74, 75] [43] (fun k vs st' => ∃ (s43 : Int), vs = [.int .i64 s43] ∧ st'.m = (n, [.str a0.subject, .slice 1 (List.map AVal.str a0.aliases) false, .slice 3 (List.map encApiProperty a0.properties) false, .slice 6 (List.map encApiLink a0.links) false]) :: m ∧ keep_JRD_L2 N a0 k45 k s43 = some r) N ⟨0, ?_, ?_, h⟩ ?_
          · simp (disch := omega) only [vmE, liE, eE, seval, deE, fxE, retOf, maskA, setVals, getVals, putA, stripAt, AVal.strip, stripL, rd, hc13]
          · simp (disch := omega) only [vmE, liE, eE, seval, deE, fxE, retOf, maskA, setVals, getVals, putA, stripAt, AVal.strip, stripL, rd, hc13]
          · clear h
            rintro k51 _ ⟨m76, nL1_1⟩ ⟨s43, rfl, hm, h⟩ J75 hJ75
            simp only [] at hm
            replace hm := hm.symm
            subst hm
            rcases k51 with _ | k51
            · simp only [keep_JRD_L2, reduceCtorEq] at h
            rw [keep_JRD_L2] at h
            refine AWp.known fun _ hkl => ?_
            simp only [] at hkl
            obtain ⟨_, hkl⟩ := keysLt_cons hkl
            clear hkl
            refine AWp.congr (by simp (disch := omega) only [vmE, liE, eE, seval, deE, fxE, retOf, maskA, setVals, getVals, putA, stripAt, AVal.strip, stripL, rd]; rfl) ?_
            refine awp_seq_k ?_
            intro K52 hK52
            refine awp_region' [] ?_
            intro K53 hK53
            simp (disch := omega) only [vmE, liE, eE, seval, deE, fxE, retOf, maskA, setVals, getVals, putA, stripAt, AVal.strip, stripL, rd, hc13]
            refine hK53 _ _ (kPost_normal (hK52 _ _ ?_))
            refine awp_seq_k ?_
            intro K54 hK54
            replace h := ite_some h
            rcases h with ⟨hc55, h⟩ | ⟨hc55, h⟩
            · refine awp_cond_t rfl hc55 ?_
              refine awp_skip ?_
              refine kPost_normal (hK54 _ _ ?_)
              refine awp_seq_k ?_
              intro K56 hK56
              refine awp_block_k ?_
              intro K57 hK57
              refine awp_seq_k ?_
              intro K58 hK58
              replace h := bind_some h
              rcases h with ⟨x60, hx61, h⟩
              refine awp_region' [] ?_
              intro K59 hK59
              simp (disch := omega) only [vmE, liE, eE, seval, deE, fxE, retOf, maskA, setVals, getVals, putA, stripAt, AVal.strip, stripL, rd, hc13, hc55, hx61]
              refine hK59 _ _ (kPost_normal (hK58 _ _ ?_))
              refine awp_seq_k ?_
              intro K62 hK62
              replace h := joinK_some h
              rcases h with ⟨k64, hk64, h⟩
              refine awp_join [47, 48, 49, 50, 51, 52, 53, 54, 55, 56, 57, 58, 59, 60, 61, 62, 63, 64, 65, 66, 67, 68, 69, 70, 71, 72, 73] [74] (fun vs st' => ∃ j63 : Bool, vs = [.bool j63] ∧ st'.m = (nL1_1, [.str x60.rel, .str x60.type_, .str x60.href, .str x60.template, .slice 3 (List.map encApiProperty x60.titles) false, .slice 3 (List.map encApiProperty x60.properties) false]) :: (n, [.str a0.subject, .slice 1 (List.map AVal.str a0.aliases) false, .slice 3 (List.map encApiProperty a0.properties) false, .slice 6 (List.map encApiLink a0.links) false]) :: m ∧ k64 j63 = some r) hK62 ?_ ?_
              · clear h
                rintro _ ⟨m65, n66⟩ ⟨j63, rfl, hm, h⟩
                simp only [] at hm
                replace hm := hm.symm
                subst hm
                replace h := hk64 _ _ h
                clear hk64 k64
                refine AWp.known fun _ hkl => ?_
                simp only [] at hkl
                obtain ⟨_, hkl⟩ := keysLt_cons hkl
                obtain ⟨_, hkl⟩ := keysLt_cons hkl
                clear hkl
                refine AWp.congr (by simp (disch := omega) only [vmE, liE, eE, seval, deE, fxE, retOf, maskA, setVals, getVals, putA, stripAt, AVal.strip, stripL, rd]; rfl) ?_
                replace h := ite_some h
                rcases h with ⟨hc70, h⟩ | ⟨hc70, h⟩
                · refine awp_cond_t rfl hc70 ?_
                  refine awp_seq_k ?_
                  intro K71 hK71
                  refine awp_region' [] ?_
                  intro K72 hK72
                  simp (disch := omega) only [vmE, liE, eE, seval, deE, fxE, retOf, maskA, setVals, getVals, putA, stripAt, AVal.strip, stripL, rd, hc13, hc55, hx61, hc70]
                  refine hK72 _ _ (kPost_normal (hK71 _ _ ?_))
                  refine awp_ret ?_
                  refine bPost_ret (kPost_ret (kPost_ret (bPost_ret (kPost_ret (hR _ _ _ (retPost_r (by simp (disch := omega) only [Try.results14, vmE, liE, eE, seval, deE, fxE, retOf, maskA, setVals, getVals, putA, stripAt, AVal.strip, stripL, rd, hc13, hc55, hx61, hc70]; rfl) (.cons _ (.cons _ (List.Sublist.refl _))) ?_))))))
                  cases h
                  refine ⟨?_, ?_⟩
                  · simp (disch := omega) only [vmE, liE, eE, seval, deE, fxE, retOf, maskA, setVals, getVals, putA, stripAt, AVal.strip, stripL, rd, hc13, hc55, hx61, hc70]
                  · rfl
                · refine awp_cond_f rfl hc70 ?_
                  refine awp_skip ?_
                  refine bPost_normal (hK57 _ _ (kPost_normal (hK56 _ _ ?_)))
                  refine awp_region' [] ?_
                  intro K73 hK73
                  simp (disch := omega) only [vmE, liE, eE, seval, deE, fxE, retOf, maskA, setVals, getVals, putA, stripAt, AVal.strip, stripL, rd, hc13, hc55, hx61, hc70]
                  refine hK73 _ _ (kPost_normal (hJ75 k51 _ _ _ (Nat.lt_succ_self _) (.cons _ (List.Sublist.refl _)) ?_ ⟨(wr .i64 (s43 + 1)), ?_, ?_, h⟩)) <;> simp (disch := omega) only [vmE, liE, eE, seval, deE, fxE, retOf, maskA, setVals, getVals, putA, stripAt, AVal.strip, stripL, rd, hc13, hc55, hx61, hc70]
              · intro J74 hJ74
                replace h := ite_some h
                rcases h with ⟨hc68, h⟩ | ⟨hc68, h⟩
                · refine awp_region' [] ?_
                  intro K67 hK67
                  simp (disch := omega) only [vmE, liE, eE, seval, deE, fxE, retOf, maskA, setVals, getVals, putA, stripAt, AVal.strip, stripL, rd, hc13, hc55, hx61, hc68]
                  refine hK67 _ _ (kPost_normal (hJ74 _ _ _ (List.Sublist.refl _) ?_ ⟨true, ?_, ?_, h⟩)) <;> simp (disch := omega) only [vmE, liE, eE, seval, deE, fxE, retOf, maskA, setVals, getVals, putA, stripAt, AVal.strip, stripL, rd, hc13, hc55, hx61, hc68]
                · replace h := ite_some h
                  rcases h with ⟨hc69, h⟩ | ⟨hc69, h⟩
                  · refine awp_region' [] ?_
                    intro K67 hK67
                    simp (disch := omega) only [vmE, liE, eE, seval, deE, fxE, retOf, maskA, setVals, getVals, putA, stripAt, AVal.strip, stripL, rd, hc13, hc55, hx61, hc68, hc69]
                    refine hK67 _ _ (kPost_normal (hJ74 _ _ _ (List.Sublist.refl _) ?_ ⟨true, ?_, ?_, h⟩)) <;> simp (disch := omega) only [vmE, liE, eE, seval, deE, fxE, retOf, maskA, setVals, getVals, putA, stripAt, AVal.strip, stripL, rd, hc13, hc55, hx61, hc68, hc69]
                  · refine awp_region' [] ?_
                    intro K67 hK67
                    simp (disch := omega) only [vmE, liE, eE, seval, deE, fxE, retOf, maskA, setVals, getVals, putA, stripAt, AVal.strip, stripL, rd, hc13, hc55, hx61, hc68, hc69]
                    refine hK67 _ _ (kPost_normal (hJ74 _ _ _ (List.Sublist.refl _) ?_ ⟨(decide ((x60.properties.length : Int) > 70)), ?_, ?_, h⟩)) <;> simp (disch := omega) only [vmE, liE, eE, seval, deE, fxE, retOf, maskA, setVals, getVals, putA, stripAt, AVal.strip, stripL, rd, hc13, hc55, hx61, hc68, hc69]
            · refine awp_cond_f rfl hc55 ?_
              refine awp_exit ?_
              refine kPost_exit (kPost_exit (bPost_here (hK50 _ _ (kPost_normal (hJ79 _ _ _ (List.Sublist.refl _) ?_ ⟨(), ?_, ?_, h⟩))))) <;> simp (disch := omega) only [vmE, liE, eE, seval, deE, fxE, retOf, maskA, setVals, getVals, putA, stripAt, AVal.strip, stripL, rd, hc13, hc55]
      · intro J80 hJ80
        refine awp_seq_k ?_
        intro K21 hK21
        refine awp_region' [] ?_
        intro K22 hK22
        simp (disch := omega) only [vmE, liE, eE, seval, deE, fxE, retOf, maskA, setVals, getVals, putA, stripAt, AVal.strip, stripL, rd, hc13]
        refine hK22 _ _ (kPost_normal (hK21 _ _ ?_))
        refine awp_block_k ?_
        intro K23 hK23
        refine awp_loop_v [2, 4, 33, 34, 35, 36, 37, 38, 39] [32] (fun k vs st' => ∃ (s32 : Int), vs = [.int .i64 s32] ∧ st'.m = (n, [.str a0.subject, .slice 1 (List.map AVal.str a0.aliases) false, .slice 3 (List.map encApiProperty a0.properties) false, .slice 6 (List.map encApiLink a0.links) false]) :: m ∧ keep_JRD_L1 N a0 k18 k s32 = some r) N ⟨0, ?_, ?_, h⟩ ?_
        · simp (disch := omega) only [vmE, liE, eE, seval, deE, fxE, retOf, maskA, setVals, getVals, putA, stripAt, AVal.strip, stripL, rd, hc13]
        · simp (disch := omega) only [vmE, liE, eE, seval, deE, fxE, retOf, maskA, setVals, getVals, putA, stripAt, AVal.strip, stripL, rd, hc13]
        · clear h
          rintro k24 _ ⟨m42, nL0_1⟩ ⟨s32, rfl, hm, h⟩ J41 hJ41
          simp only [] at hm
          replace hm := hm.symm
          subst hm
          rcases k24 with _ | k24
          · simp only [keep_JRD_L1, reduceCtorEq] at h
          rw [keep_JRD_L1] at h
          refine AWp.known fun _ hkl => ?_
          simp only [] at hkl
          obtain ⟨_, hkl⟩ := keysLt_cons hkl
          clear hkl
          refine AWp.congr (by simp (disch := omega) only [vmE, liE, eE, seval, deE, fxE, retOf, maskA, setVals, getVals, putA, stripAt, AVal.strip, stripL, rd]; rfl) ?_
          refine awp_seq_k ?_
          intro K25 hK25
          refine awp_region' [] ?_
          intro K26 hK26
          simp (disch := omega) only [vmE, liE, eE, seval, deE, fxE, retOf, maskA, setVals, getVals, putA, stripAt, AVal.strip, stripL, rd, hc13]
          refine hK26 _ _ (kPost_normal (hK25 _ _ ?_))
          refine awp_seq_k ?_
          intro K27 hK27
          replace h := ite_some h
          rcases h with ⟨hc28, h⟩ | ⟨hc28, h⟩
          · refine awp_cond_t rfl hc28 ?_
            refine awp_skip ?_
            refine kPost_normal (hK27 _ _ ?_)
            refine awp_seq_k ?_
            intro K29 hK29
            refine awp_block_k ?_
            intro K30 hK30
            refine awp_seq_k ?_
            intro K31 hK31
            replace h := bind_some h
            rcases h with ⟨x33, hx34, h⟩
            refine awp_region' [] ?_
            intro K32 hK32
            simp (disch := omega) only [vmE, liE, eE, seval, deE, fxE, retOf, maskA, setVals, getVals, putA, stripAt, AVal.strip, stripL, rd, hc13, hc28, hx34]
            refine hK32 _ _ (kPost_normal (hK31 _ _ ?_))
            refine awp_seq_k ?_
            intro K35 hK35
            refine awp_region' [] ?_
            intro K36 hK36
            simp (disch := omega) only [vmE, liE, eE, seval, deE, fxE, retOf, maskA, setVals, getVals, putA, stripAt, AVal.strip, stripL, rd, hc13, hc28, hx34]
            refine hK36 _ _ (kPost_normal (hK35 _ _ ?_))
            replace h := ite_some h
            rcases h with ⟨hc37, h⟩ | ⟨hc37, h⟩
            · refine awp_cond_t rfl hc37 ?_
              refine awp_seq_k ?_
              intro K38 hK38
              refine awp_region' [] ?_
              intro K39 hK39
              simp (disch := omega) only [vmE, liE, eE, seval, deE, fxE, retOf, maskA, setVals, getVals, putA, stripAt, AVal.strip, stripL, rd, hc13, hc28, hx34, hc37]
              refine hK39 _ _ (kPost_normal (hK38 _ _ ?_))
              refine awp_ret ?_
              refine bPost_ret (kPost_ret (kPost_ret (bPost_ret (kPost_ret (hR _ _ _ (retPost_r (by simp (disch := omega) only [Try.results14, vmE, liE, eE, seval, deE, fxE, retOf, maskA, setVals, getVals, putA, stripAt, AVal.strip, stripL, rd, hc13, hc28, hx34, hc37]; rfl) (.cons _ (List.Sublist.refl _)) ?_))))))
              cases h
              refine ⟨?_, ?_⟩
              · simp (disch := omega) only [vmE, liE, eE, seval, deE, fxE, retOf, maskA, setVals, getVals, putA, stripAt, AVal.strip, stripL, rd, hc13, hc28, hx34, hc37]
              · rfl
            · refine awp_cond_f rfl hc37 ?_
              refine awp_skip ?_
              refine bPost_normal (hK30 _ _ (kPost_normal (hK29 _ _ ?_)))
              refine awp_region' [] ?_
              intro K40 hK40
              simp (disch := omega) only [vmE, liE, eE, seval, deE, fxE, retOf, maskA, setVals, getVals, putA, stripAt, AVal.strip, stripL, rd, hc13, hc28, hx34, hc37]
              refine hK40 _ _ (kPost_normal (hJ41 k24 _ _ _ (Nat.lt_succ_self _) (List.Sublist.refl _) ?_ ⟨(wr .i64 (s32 + 1)), ?_, ?_, h⟩)) <;> simp (disch := omega) only [vmE, liE, eE, seval, deE, fxE, retOf, maskA, setVals, getVals, putA, stripAt, AVal.strip, stripL, rd, hc13, hc28, hx34, hc37]
          · refine awp_cond_f rfl hc28 ?_
            refine awp_exit ?_
            refine kPost_exit (kPost_exit (bPost_here (hK23 _ _ (kPost_normal (hJ80 _ _ _ (List.Sublist.refl _) ?_ ⟨(), ?_, ?_, h⟩))))) <;> simp (disch := omega) only [vmE, liE, eE, seval, deE, fxE, retOf, maskA, setVals, getVals, putA, stripAt, AVal.strip, stripL, rd, hc13, hc28]
  · intro J81 hJ81
    replace h := ite_some h
    rcases h with ⟨hc10, h⟩ | ⟨hc10, h⟩
    · refine awp_region' [] ?_
      intro K9 hK9
      simp (disch := omega) only [vmE, liE, eE, seval, deE, fxE, retOf, maskA, setVals, getVals, putA, stripAt, AVal.strip, stripL, rd, hc10]
      refine hK9 _ _ (kPost_normal (hJ81 _ _ _ (List.Sublist.refl _) ?_ ⟨true, ?_, ?_, h⟩)) <;> simp (disch := omega) only [vmE, liE, eE, seval, deE, fxE, retOf, maskA, setVals, getVals, putA, stripAt, AVal.strip, stripL, rd, hc10]
    · replace h := ite_some h
      rcases h with ⟨hc11, h⟩ | ⟨hc11, h⟩
      · refine awp_region' [] ?_
        intro K9 hK9
        simp (disch := omega) only [vmE, liE, eE, seval, deE, fxE, retOf, maskA, setVals, getVals, putA, stripAt, AVal.strip, stripL, rd, hc10, hc11]
        refine hK9 _ _ (kPost_normal (hJ81 _ _ _ (List.Sublist.refl _) ?_ ⟨true, ?_, ?_, h⟩)) <;> simp (disch := omega) only [vmE, liE, eE, seval, deE, fxE, retOf, maskA, setVals, getVals, putA, stripAt, AVal.strip, stripL, rd, hc10, hc11]
      · replace h := ite_some h
        rcases h with ⟨hc12, h⟩ | ⟨hc12, h⟩
        · refine awp_region' [] ?_
          intro K9 hK9
          simp (disch := omega) only [vmE, liE, eE, seval, deE, fxE, retOf, maskA, setVals, getVals, putA, stripAt, AVal.strip, stripL, rd, hc10, hc11, hc12]
          refine hK9 _ _ (kPost_normal (hJ81 _ _ _ (List.Sublist.refl _) ?_ ⟨true, ?_, ?_, h⟩)) <;> simp (disch := omega) only [vmE, liE, eE, seval, deE, fxE, retOf, maskA, setVals, getVals, putA, stripAt, AVal.strip, stripL, rd, hc10, hc11, hc12]
        · refine awp_region' [] ?_
          intro K9 hK9
          simp (disch := omega) only [vmE, liE, eE, seval, deE, fxE, retOf, maskA, setVals, getVals, putA, stripAt, AVal.strip, stripL, rd, hc10, hc11, hc12]
          refine hK9 _ _ (kPost_normal (hJ81 _ _ _ (List.Sublist.refl _) ?_ ⟨(decide ((a0.properties.length : Int) > 70)), ?_, ?_, h⟩)) <;> simp (disch := omega) only [vmE, liE, eE, seval, deE, fxE, retOf, maskA, setVals, getVals, putA, stripAt, AVal.strip, stripL, rd, hc10, hc11, hc12]
theorem ref16_Text_w {N : Nat} {a0 : (List UInt8)} {r : ApiValue} (h : ref16_Text N a0 = some r) {n : Nat} {m : List (Nat × List AVal)} :
    ACall vE 16 [.str a0] ⟨m, n⟩ fun r' st => r' = .agg [.int .i64 r.kind, .str r.text, .slice 1 (List.map AVal.str r.keys) true, .slice 4 (List.map encApiValue r.items) true] ∧ st.m = m := by
  rw [ref16_Text] at h
  refine acall_k Try.func16 rfl ?_
  intro R hR
  refine AWp.congr (by simp only [Try.ntmps16, liE, seval]; rfl) ?_
  refine awp_seq_k ?_
  intro K1 hK1
  refine awp_region' [] ?_
  intro K2 hK2
  simp (disch := omega) only [vmE, liE, eE, seval, deE, fxE, retOf, maskA, setVals, getVals, putA, stripAt, AVal.strip, stripL, rd]
  refine hK2 _ _ (kPost_normal (hK1 _ _ ?_))
  refine awp_seq_k ?_
  intro K3 hK3
  refine awp_region' [] ?_
  intro K4 hK4
  simp (disch := omega) only [vmE, liE, eE, seval, deE, fxE, retOf, maskA, setVals, getVals, putA, stripAt, AVal.strip, stripL, rd]
  refine hK4 _ _ (kPost_normal (hK3 _ _ ?_))
  refine awp_ret ?_
  refine hR _ _ _ (retPost_r (by simp (disch := omega) only [Try.results16, vmE, liE, eE, seval, deE, fxE, retOf, maskA, setVals, getVals, putA, stripAt, AVal.strip, stripL, rd]; rfl) (.cons _ (List.Sublist.refl _)) ?_)
  cases h
  refine ⟨?_, ?_⟩
  · simp (disch := omega) only [vmE, liE, eE, seval, deE, fxE, retOf, maskA, setVals, getVals, putA, stripAt, AVal.strip, stripL, rd]
  · rfl
theorem ref16_with_w {N : Nat} {a0 : ApiValue} {a1 : (List UInt8)} {a2 : ApiValue} {r : ApiValue} (h : ref16_with N a0 a1 a2 = some r) {n : Nat} {m : List (Nat × List AVal)} :
    ACall vE 38 [.agg [.int .i64 a0.kind, .str a0.text, .slice 1 (List.map AVal.str a0.keys) false, .slice 4 (List.map encApiValue a0.items) false], .str a1, .agg [.int .i64 a2.kind, .str a2.text, .slice 1 (List.map AVal.str a2.keys) false, .slice 4 (List.map encApiValue a2.items) false]] ⟨m, n⟩ fun r' st => r' = .agg [.int .i64 r.kind, .str r.text, .slice 1 (List.map AVal.str r.keys) false, .slice 4 (List.map encApiValue r.items) false] ∧ st.m = m := by
  rw [ref16_with] at h
  refine acall_k Try.func38 rfl ?_
  intro R hR
  refine AWp.congr (by simp only [Try.ntmps38, liE, seval]; rfl) ?_
  refine awp_seq_k ?_
  intro K1 hK1
  refine awp_region' [] ?_
  intro K2 hK2
  simp (disch := omega) only [vmE, liE, eE, seval, deE, fxE, retOf, maskA, setVals, getVals, putA, stripAt, AVal.strip, stripL, rd]
  refine hK2 _ _ (kPost_normal (hK1 _ _ ?_))
  refine awp_seq_k ?_
  intro K3 hK3
  replace h := bind_some h
  rcases h with ⟨x5, hx6, h⟩
  replace h := grd_some h
  rcases h with ⟨hg7, h⟩
  try simp only [liE, seval] at hg7
  replace h := bind_some h
  rcases h with ⟨x8, hx9, h⟩
  replace h := grd_some h
  rcases h with ⟨hg10, h⟩
  try simp only [liE, seval] at hg10
  refine awp_draw' [] (.take 0 (.take 1 (.take 2 (.take 3 (.take 4 (.take 5 (.take 6 (.take 7 (.take 8 (.take 9 (.take 10 (.take 12 (.take 13 (.take 14 (.take 15 (.take 16 (.take 17 (.take 18 (.take 19 (.take 20 (.take 21 (.take 22 (.alt 11 [22, 21, 20, 19, 18, 17, 16, 15, 14, 13, 12, 9, 7, 6, 5, 4, 3, 2, 1, 0] (.take 24 (.alt 23 [24, 21, 19, 18, 17, 16, 15, 14, 13, 12, 10, 9, 8, 7, 6, 5, 4, 3, 2, 1, 0] (.alt 25 [22, 21, 20, 19, 16] (.take 26 (.alt 27 [] (.done) (.stop))) (.stop)) (.stop))) (.stop)))))))))))))))))))))))) vE_mixed (by kernel_rfl) ?_
  intro K4 hK4
  simp (disch := omega) only [vmE, liE, eE, seval, deE, fxE, retOf, maskA, setVals, getVals, putA, stripAt, AVal.strip, stripL, rd, hx6, hg7, hx9, hg10]
  refine hK4 _ _ (kPost_normal (hK3 _ _ ?_))
  refine awp_seq_k ?_
  intro K11 hK11
  refine awp_region' [] ?_
  intro K12 hK12
  simp (disch := omega) only [vmE, liE, eE, seval, deE, fxE, retOf, maskA, setVals, getVals, putA, stripAt, AVal.strip, stripL, rd, hx6, hg7, hx9, hg10]
  refine hK12 _ _ (kPost_normal (hK11 _ _ ?_))
  refine awp_ret ?_
  refine hR _ _ _ (retPost_r (by simp (disch := omega) only [Try.results38, vmE, liE, eE, seval, deE, fxE, retOf, maskA, setVals, getVals, putA, stripAt, AVal.strip, stripL, rd, hx6, hg7, hx9, hg10]; rfl) (.cons _ (.cons _ (.cons _ (List.Sublist.refl _)))) ?_)
  cases h
  refine ⟨?_, ?_⟩
  · simp (disch := omega) only [vmE, liE, eE, seval, deE, fxE, retOf, maskA, setVals, getVals, putA, stripAt, AVal.strip, stripL, rd, hx6, hg7, hx9, hg10]
  · rfl
theorem ref16_Find_w {N : Nat} {a0 : ApiJRD} {a1 : (List UInt8)} {r : (List ApiLink)} (h : ref16_Find N a0 a1 = some r) {n : Nat} {m : List (Nat × List AVal)} :
    ACall vE 18 [.agg [.str a0.subject, .slice 1 (List.map AVal.str a0.aliases) false, .slice 3 (List.map encApiProperty a0.properties) false, .slice 6 (List.map encApiLink a0.links) false], .str a1] ⟨m, n⟩ fun r' st => r' = .slice 6 (List.map encApiLink r) false ∧ st.m = m := by
  rw [ref16_Find] at h
  refine acall_k Try.func18 rfl ?_
  intro R hR
  refine AWp.congr (by simp only [Try.ntmps18, liE, seval]; rfl) ?_
  refine awp_seq_k ?_
  intro K1 hK1
  refine awp_region' [] ?_
  intro K2 hK2
  simp (disch := omega) only [vmE, liE, eE, seval, deE, fxE, retOf, maskA, setVals, getVals, putA, stripAt, AVal.strip, stripL, rd]
  refine hK2 _ _ (kPost_normal (hK1 _ _ ?_))
  refine awp_seq_k ?_
  intro K3 hK3
  refine awp_region' [] ?_
  intro K4 hK4
  simp (disch := omega) only [vmE, liE, eE, seval, deE, fxE, retOf, maskA, setVals, getVals, putA, stripAt, AVal.strip, stripL, rd]
  refine hK4 _ _ (kPost_normal (hK3 _ _ ?_))
  refine awp_seq_k ?_
  intro K5 hK5
  replace h := joinK_some h
  rcases h with ⟨k7, hk7, h⟩
  refine awp_join [7, 8, 9, 10, 11, 12, 13, 14, 15, 16, 17, 18, 19, 20, 21, 22, 23] [5] (fun vs st' => ∃ j6 : (List ApiLink), vs = [.slice 6 (List.map encApiLink j6) true] ∧ st'.m = (n, [.str a0.subject, .slice 1 (List.map AVal.str a0.aliases) false, .slice 3 (List.map encApiProperty a0.properties) false, .slice 6 (List.map encApiLink a0.links) false]) :: m ∧ k7 j6 = some r) hK5 ?_ ?_
  · clear h
    rintro _ ⟨m8, n9⟩ ⟨j6, rfl, hm, h⟩
    simp only [] at hm
    replace hm := hm.symm
    subst hm
    replace h := hk7 _ _ h
    clear hk7 k7
    refine AWp.known fun _ hkl => ?_
    simp only [] at hkl
    obtain ⟨_, hkl⟩ := keysLt_cons hkl
    clear hkl
    refine AWp.congr (by simp (disch := omega) only [vmE, liE, eE, seval, deE, fxE, retOf, maskA, setVals, getVals, putA, stripAt, AVal.strip, stripL, rd]; rfl) ?_
    refine awp_seq_k ?_
    intro K37 hK37
    refine awp_region' [] ?_
    intro K38 hK38
    simp (disch := omega) only [vmE, liE, eE, seval, deE, fxE, retOf, maskA, setVals, getVals, putA, stripAt, AVal.strip, stripL, rd]
    refine hK38 _ _ (kPost_normal (hK37 _ _ ?_))
    refine awp_ret ?_
    refine hR _ _ _ (retPost_r (by simp (disch := omega) only [Try.results18, vmE, liE, eE, seval, deE, fxE, retOf, maskA, setVals, getVals, putA, stripAt, AVal.strip, stripL, rd]; rfl) (.cons _ (List.Sublist.refl _)) ?_)
    cases h
    refine ⟨?_, ?_⟩
    · simp (disch := omega) only [vmE, liE, eE, seval, deE, fxE, retOf, maskA, setVals, getVals, putA, stripAt, AVal.strip, stripL, rd]
    · rfl
  · intro J39 hJ39
    refine awp_seq_k ?_
    intro K10 hK10
    refine awp_region' [] ?_
    intro K11 hK11
    simp (disch := omega) only [vmE, liE, eE, seval, deE, fxE, retOf, maskA, setVals, getVals, putA, stripAt, AVal.strip, stripL, rd]
    refine hK11 _ _ (kPost_normal (hK10 _ _ ?_))
    refine awp_block_k ?_
    intro K12 hK12
    refine awp_loop_v [7, 12, 13, 14, 15, 16, 17, 18, 19, 20, 21, 22, 23] [5, 11] (fun k vs st' => ∃ (s5 : (List ApiLink)) (s11 : Int), vs = [.slice 6 (List.map encApiLink s5) true, .int .i64 s11] ∧ st'.m = (n, [.str a0.subject, .slice 1 (List.map AVal.str a0.aliases) false, .slice 3 (List.map encApiProperty a0.properties) false, .slice 6 (List.map encApiLink a0.links) false]) :: m ∧ ref16_Find_L1 N a0 a1 k7 k s5 s11 = some r) N ⟨[], 0, ?_, ?_, h⟩ ?_
    · simp (disch := omega) only [vmE, liE, eE, seval, deE, fxE, retOf, maskA, setVals, getVals, putA, stripAt, AVal.strip, stripL, rd]
    · simp (disch := omega) only [vmE, liE, eE, seval, deE, fxE, retOf, maskA, setVals, getVals, putA, stripAt, AVal.strip, stripL, rd]
    · clear h
      rintro k13 _ ⟨m36, nL0_1⟩ ⟨s5, s11, rfl, hm, h⟩ J35 hJ35
      simp only [] at hm
      replace hm := hm.symm
      subst hm
      rcases k13 with _ | k13
      · simp only [ref16_Find_L1, reduceCtorEq] at h
      rw [ref16_Find_L1] at h
      refine AWp.known fun _ hkl => ?_
      simp only [] at hkl
      obtain ⟨_, hkl⟩ := keysLt_cons hkl
      clear hkl
      refine AWp.congr (by simp (disch := omega) only [vmE, liE, eE, seval, deE, fxE, retOf, maskA, setVals, getVals, putA, stripAt, AVal.strip, stripL, rd]; rfl) ?_
      refine awp_seq_k ?_
      intro K14 hK14
      refine awp_region' [] ?_
      intro K15 hK15
      simp (disch := omega) only [vmE, liE, eE, seval, deE, fxE, retOf, maskA, setVals, getVals, putA, stripAt, AVal.strip, stripL, rd]
      refine hK15 _ _ (kPost_normal (hK14 _ _ ?_))
      refine awp_seq_k ?_
      intro K16 hK16
      replace h := ite_some h
      rcases h with ⟨hc17, h⟩ | ⟨hc17, h⟩
      · refine awp_cond_t rfl hc17 ?_
        refine awp_skip ?_
        refine kPost_normal (hK16 _ _ ?_)
        refine awp_seq_k ?_
        intro K18 hK18
        replace h := joinK_some h
        rcases h with ⟨k20, hk20, h⟩
        refine awp_join [7, 13, 14, 15, 16, 17, 18, 19, 20, 21, 22] [5] (fun vs st' => ∃ j19 : (List ApiLink), vs = [.slice 6 (List.map encApiLink j19) true] ∧ st'.m = (n, [.str a0.subject, .slice 1 (List.map AVal.str a0.aliases) false, .slice 3 (List.map encApiProperty a0.properties) false, .slice 6 (List.map encApiLink a0.links) false]) :: m ∧ k20 j19 = some r) hK18 ?_ ?_
        · clear h
          rintro _ ⟨m21, n22⟩ ⟨j19, rfl, hm, h⟩
          simp only [] at hm
          replace hm := hm.symm
          subst hm
          replace h := hk20 _ _ h
          clear hk20 k20
          refine AWp.known fun _ hkl => ?_
          simp only [] at hkl
          obtain ⟨_, hkl⟩ := keysLt_cons hkl
          clear hkl
          refine AWp.congr (by simp (disch := omega) only [vmE, liE, eE, seval, deE, fxE, retOf, maskA, setVals, getVals, putA, stripAt, AVal.strip, stripL, rd]; rfl) ?_
          refine awp_region' [] ?_
          intro K33 hK33
          simp (disch := omega) only [vmE, liE, eE, seval, deE, fxE, retOf, maskA, setVals, getVals, putA, stripAt, AVal.strip, stripL, rd, hc17]
          refine hK33 _ _ (kPost_normal (hJ35 k13 _ _ _ (Nat.lt_succ_self _) (List.Sublist.refl _) ?_ ⟨j19, (wr .i64 (s11 + 1)), ?_, ?_, h⟩)) <;> simp (disch := omega) only [vmE, liE, eE, seval, deE, fxE, retOf, maskA, setVals, getVals, putA, stripAt, AVal.strip, stripL, rd, hc17]
        · intro J34 hJ34
          refine awp_block_k ?_
          intro K23 hK23
          refine awp_seq_k ?_
          intro K24 hK24
          replace h := bind_some h
          rcases h with ⟨x26, hx27, h⟩
          refine awp_region' [] ?_
          intro K25 hK25
          simp (disch := omega) only [vmE, liE, eE, seval, deE, fxE, retOf, maskA, setVals, getVals, putA, stripAt, AVal.strip, stripL, rd, hc17, hx27]
          refine hK25 _ _ (kPost_normal (hK24 _ _ ?_))
          refine awp_seq_k ?_
          intro K28 hK28
          refine awp_region' [] ?_
          intro K29 hK29
          simp (disch := omega) only [vmE, liE, eE, seval, deE, fxE, retOf, maskA, setVals, getVals, putA, stripAt, AVal.strip, stripL, rd, hc17, hx27]
          refine hK29 _ _ (kPost_normal (hK28 _ _ ?_))
          replace h := ite_some h
          rcases h with ⟨hc30, h⟩ | ⟨hc30, h⟩
          · refine awp_cond_t rfl hc30 ?_
            replace h := grd_some h
            rcases h with ⟨hg32, h⟩
            try simp only [liE, seval] at hg32
            refine awp_region' [19] ?_
            intro K31 hK31
            simp (disch := omega) only [vmE, liE, eE, seval, deE, fxE, retOf, maskA, setVals, getVals, putA, stripAt, AVal.strip, stripL, rd, hc17, hx27, hc30, hg32]
            refine hK31 _ _ (bPost_normal (hK23 _ _ (kPost_normal (hJ34 _ _ _ (.cons _ (List.Sublist.refl _)) ?_ ⟨(s5 ++ [x26]), ?_, ?_, h⟩)))) <;> simp (disch := omega) only [vmE, liE, eE, seval, deE, fxE, retOf, maskA, setVals, getVals, putA, stripAt, AVal.strip, stripL, rd, hc17, hx27, hc30, hg32]
          · refine awp_cond_f rfl hc30 ?_
            refine awp_skip ?_
            refine bPost_normal (hK23 _ _ (kPost_normal (hJ34 _ _ _ (.cons _ (List.Sublist.refl _)) ?_ ⟨s5, ?_, ?_, h⟩))) <;> simp (disch := omega) only [vmE, liE, eE, seval, deE, fxE, retOf, maskA, setVals, getVals, putA, stripAt, AVal.strip, stripL, rd, hc17, hx27, hc30]
      · refine awp_cond_f rfl hc17 ?_
        refine awp_exit ?_
        refine kPost_exit (kPost_exit (bPost_here (hK12 _ _ (kPost_normal (hJ39 _ _ _ (List.Sublist.refl _) ?_ ⟨s5, ?_, ?_, h⟩))))) <;> simp (disch := omega) only [vmE, liE, eE, seval, deE, fxE, retOf, maskA, setVals, getVals, putA, stripAt, AVal.strip, stripL, rd, hc17]
end Go.Proofs.Ytdbeiialamganaa
