/- That the code computes these functions; written by decomp.py. -/
import Derived.Test.YtdbeiialamganaaVmFacts
import Derived.Test.YtdbeiialamganaaDefs
import Derived.Test.YtdbeiialamganaaVMSets
set_option linter.unusedVariables false
set_option linter.unusedSimpArgs false
set_option maxHeartbeats 4000000
set_option maxRecDepth 100000
set_option linter.defProp false
namespace Go.Proofs.Ytdbeiialamganaa
open Go.VM
theorem ref14_Same_rec (N : Nat) : ∀ D : Nat, (∀ {a0 : ApiValue} {a1 : ApiValue} {r : Bool} (h : ref14_Same N D a0 a1 = some r) {n : Nat} {m : List (Nat × List AVal)}, ACall vE 19 [.agg [.int .i64 a0.kind, .str a0.text, .slice 1 (List.map AVal.str a0.keys) false, .slice 4 (List.map encApiValue a0.items) false], .agg [.int .i64 a1.kind, .str a1.text, .slice 1 (List.map AVal.str a1.keys) false, .slice 4 (List.map encApiValue a1.items) false]] ⟨m, n⟩ fun r' st => r' = .bool r ∧ st.m = m) := by
  intro D
  induction D with
  | zero =>
    intro a0 a1 r h
    simp only [ref14_Same, reduceCtorEq] at h
  | succ D ih_ref14_Same =>
    intro a0 a1 r h n m
    rw [ref14_Same] at h
    refine ACall.strip ?_
    refine acall_k Try.func19 rfl ?_
    intro R hR
    refine AWp.congr (by simp only [Try.ntmps19, liE, seval]; rfl) ?_
    refine awp_seq_k ?_
    intro K1 hK1
    refine awp_region' [] ?_
    intro K2 hK2
    simp (disch := omega) only [vmE, liE, eE, seval, deE, fxE, retOf, maskA, setVals, getVals, putA, stripAt, AVal.strip, stripL, rd]
    refine hK2 _ _ (kPost_normal (hK1 _ _ ?_))
    refine awp_seq_k ?_
    intro K3 hK3
    refine awp_seq_k ?_
    intro K4 hK4
    replace h := joinK_some h
    rcases h with ⟨k6, hk6, h⟩
    refine awp_join [7, 8, 9, 10, 11, 12, 13, 14, 15, 16, 17, 18, 19, 20, 21, 22, 23, 24, 25, 26, 27, 28, 29, 30, 31, 32, 33, 34, 35] [36] (fun vs st' => ∃ j5 : Bool, vs = [.bool j5] ∧ st'.m = ((n + 1), [.int .i64 a1.kind, .str a1.text, .slice 1 (List.map AVal.str a1.keys) false, .slice 4 (List.map encApiValue a1.items) false]) :: (n, [.int .i64 a0.kind, .str a0.text, .slice 1 (List.map AVal.str a0.keys) false, .slice 4 (List.map encApiValue a0.items) false]) :: m ∧ k6 j5 = some r) hK4 ?_ ?_
    · clear h
      rintro _ ⟨m7, n8⟩ ⟨j5, rfl, hm, h⟩
      simp only [] at hm
      replace hm := hm.symm
      subst hm
      replace h := hk6 _ _ h
      clear hk6 k6
      refine AWp.known fun _ hkl => ?_
      simp only [] at hkl
      obtain ⟨_, hkl⟩ := keysLt_cons hkl
      obtain ⟨_, hkl⟩ := keysLt_cons hkl
      clear hkl
      refine AWp.congr (by simp (disch := omega) only [vmE, liE, eE, seval, deE, fxE, retOf, maskA, setVals, getVals, putA, stripAt, AVal.strip, stripL, rd]; rfl) ?_
      replace h := ite_some h
      rcases h with ⟨hc13, h⟩ | ⟨hc13, h⟩
      · refine awp_cond_t rfl hc13 ?_
        refine awp_seq_k ?_
        intro K14 hK14
        refine awp_region' [] ?_
        intro K15 hK15
        simp (disch := omega) only [vmE, liE, eE, seval, deE, fxE, retOf, maskA, setVals, getVals, putA, stripAt, AVal.strip, stripL, rd, hc13]
        refine hK15 _ _ (kPost_normal (hK14 _ _ ?_))
        refine awp_ret ?_
        refine kPost_ret (hR _ _ _ (retPost_r (by simp (disch := omega) only [Try.results19, vmE, liE, eE, seval, deE, fxE, retOf, maskA, setVals, getVals, putA, stripAt, AVal.strip, stripL, rd, hc13]; rfl) (.cons _ (.cons _ (List.Sublist.refl _))) ?_))
        cases h
        refine ⟨?_, ?_⟩
        · simp (disch := omega) only [vmE, liE, eE, seval, deE, fxE, retOf, maskA, setVals, getVals, putA, stripAt, AVal.strip, stripL, rd, hc13]
        · rfl
      · refine awp_cond_f rfl hc13 ?_
        refine awp_skip ?_
        refine kPost_normal (hK3 _ _ ?_)
        refine awp_seq_k ?_
        intro K16 hK16
        replace h := joinK_some h
        rcases h with ⟨k18, hk18, h⟩
        refine awp_join [4, 5, 37, 38, 39, 40, 41, 42, 43, 44, 45, 46, 47, 48, 49, 50, 51, 52, 53, 54, 55] [] (fun vs st' => ∃ j17 : Unit, vs = [] ∧ st'.m = ((n + 1), [.int .i64 a1.kind, .str a1.text, .slice 1 (List.map AVal.str a1.keys) false, .slice 4 (List.map encApiValue a1.items) false]) :: (n, [.int .i64 a0.kind, .str a0.text, .slice 1 (List.map AVal.str a0.keys) false, .slice 4 (List.map encApiValue a0.items) false]) :: m ∧ k18 j17 = some r) hK16 ?_ ?_
        · clear h
          rintro _ ⟨m19, n20⟩ ⟨j17, rfl, hm, h⟩
          simp only [] at hm
          replace hm := hm.symm
          subst hm
          replace h := hk18 _ _ h
          clear hk18 k18
          refine AWp.known fun _ hkl => ?_
          simp only [] at hkl
          obtain ⟨_, hkl⟩ := keysLt_cons hkl
          obtain ⟨_, hkl⟩ := keysLt_cons hkl
          clear hkl
          refine AWp.congr (by simp (disch := omega) only [vmE, liE, eE, seval, deE, fxE, retOf, maskA, setVals, getVals, putA, stripAt, AVal.strip, stripL, rd]; rfl) ?_
          refine awp_seq_k ?_
          intro K49 hK49
          replace h := joinK_some h
          rcases h with ⟨k51, hk51, h⟩
          refine awp_join [4, 6, 56, 57, 58, 59, 60, 61, 62, 63, 64, 65, 66, 67, 68, 69, 70, 71, 72, 73] [] (fun vs st' => ∃ j50 : Unit, vs = [] ∧ st'.m = ((n + 1), [.int .i64 a1.kind, .str a1.text, .slice 1 (List.map AVal.str a1.keys) false, .slice 4 (List.map encApiValue a1.items) false]) :: (n, [.int .i64 a0.kind, .str a0.text, .slice 1 (List.map AVal.str a0.keys) false, .slice 4 (List.map encApiValue a0.items) false]) :: m ∧ k51 j50 = some r) hK49 ?_ ?_
          · clear h
            rintro _ ⟨m52, n53⟩ ⟨j50, rfl, hm, h⟩
            simp only [] at hm
            replace hm := hm.symm
            subst hm
            replace h := hk51 _ _ h
            clear hk51 k51
            refine AWp.known fun _ hkl => ?_
            simp only [] at hkl
            obtain ⟨_, hkl⟩ := keysLt_cons hkl
            obtain ⟨_, hkl⟩ := keysLt_cons hkl
            clear hkl
            refine AWp.congr (by simp (disch := omega) only [vmE, liE, eE, seval, deE, fxE, retOf, maskA, setVals, getVals, putA, stripAt, AVal.strip, stripL, rd]; rfl) ?_
            refine awp_seq_k ?_
            intro K78 hK78
            refine awp_region' [] ?_
            intro K79 hK79
            simp (disch := omega) only [vmE, liE, eE, seval, deE, fxE, retOf, maskA, setVals, getVals, putA, stripAt, AVal.strip, stripL, rd, hc13]
            refine hK79 _ _ (kPost_normal (hK78 _ _ ?_))
            refine awp_ret ?_
            refine hR _ _ _ (retPost_r (by simp (disch := omega) only [Try.results19, vmE, liE, eE, seval, deE, fxE, retOf, maskA, setVals, getVals, putA, stripAt, AVal.strip, stripL, rd, hc13]; rfl) (.cons _ (.cons _ (List.Sublist.refl _))) ?_)
            cases h
            refine ⟨?_, ?_⟩
            · simp (disch := omega) only [vmE, liE, eE, seval, deE, fxE, retOf, maskA, setVals, getVals, putA, stripAt, AVal.strip, stripL, rd, hc13]
            · rfl
          · intro J80 hJ80
            refine awp_seq_k ?_
            intro K54 hK54
            refine awp_region' [] ?_
            intro K55 hK55
            simp (disch := omega) only [vmE, liE, eE, seval, deE, fxE, retOf, maskA, setVals, getVals, putA, stripAt, AVal.strip, stripL, rd, hc13]
            refine hK55 _ _ (kPost_normal (hK54 _ _ ?_))
            refine awp_block_k ?_
            intro K56 hK56
            refine awp_loop_v [4, 6, 60, 61, 62, 63, 64, 65, 66, 67, 68, 69, 70, 71, 72, 73] [59] (fun k vs st' => ∃ (s59 : Int), vs = [.int .i64 s59] ∧ st'.m = ((n + 1), [.int .i64 a1.kind, .str a1.text, .slice 1 (List.map AVal.str a1.keys) false, .slice 4 (List.map encApiValue a1.items) false]) :: (n, [.int .i64 a0.kind, .str a0.text, .slice 1 (List.map AVal.str a0.keys) false, .slice 4 (List.map encApiValue a0.items) false]) :: m ∧ ref14_Same_L2 N a0 a1 k51 k s59 = some r) N ⟨0, ?_, ?_, h⟩ ?_
            · simp (disch := omega) only [vmE, liE, eE, seval, deE, fxE, retOf, maskA, setVals, getVals, putA, stripAt, AVal.strip, stripL, rd, hc13]
            · simp (disch := omega) only [vmE, liE, eE, seval, deE, fxE, retOf, maskA, setVals, getVals, putA, stripAt, AVal.strip, stripL, rd, hc13]
            · clear h
              rintro k57 _ ⟨m77, nL1_1⟩ ⟨s59, rfl, hm, h⟩ J76 hJ76
              simp only [] at hm
              replace hm := hm.symm
              subst hm
              rcases k57 with _ | k57
              · simp only [ref14_Same_L2, reduceCtorEq] at h
              rw [ref14_Same_L2] at h
              refine AWp.known fun _ hkl => ?_
              simp only [] at hkl
              obtain ⟨_, hkl⟩ := keysLt_cons hkl
              obtain ⟨_, hkl⟩ := keysLt_cons hkl
              clear hkl
              refine AWp.congr (by simp (disch := omega) only [vmE, liE, eE, seval, deE, fxE, retOf, maskA, setVals, getVals, putA, stripAt, AVal.strip, stripL, rd]; rfl) ?_
              refine awp_seq_k ?_
              intro K58 hK58
              refine awp_region' [] ?_
              intro K59 hK59
              simp (disch := omega) only [vmE, liE, eE, seval, deE, fxE, retOf, maskA, setVals, getVals, putA, stripAt, AVal.strip, stripL, rd, hc13]
              refine hK59 _ _ (kPost_normal (hK58 _ _ ?_))
              refine awp_seq_k ?_
              intro K60 hK60
              replace h := ite_some h
              rcases h with ⟨hc61, h⟩ | ⟨hc61, h⟩
              · refine awp_cond_t rfl hc61 ?_
                refine awp_skip ?_
                refine kPost_normal (hK60 _ _ ?_)
                refine awp_seq_k ?_
                intro K62 hK62
                refine awp_block_k ?_
                intro K63 hK63
                refine awp_seq_k ?_
                intro K64 hK64
                refine awp_region' [] ?_
                intro K65 hK65
                simp (disch := omega) only [vmE, liE, eE, seval, deE, fxE, retOf, maskA, setVals, getVals, putA, stripAt, AVal.strip, stripL, rd, hc13, hc61]
                refine hK65 _ _ (kPost_normal (hK64 _ _ ?_))
                refine awp_seq_k ?_
                intro K66 hK66
                replace h := bind_some h
                rcases h with ⟨x68, hx69, h⟩
                replace h := bind_some h
                rcases h with ⟨x70, hx71, h⟩
                refine awp_draw' [] (.take 0 (.take 1 (.take 2 (.take 3 (.take 4 (.take 5 (.take 6 (.take 7 (.take 8 (.take 9 (.take 10 (.done)))))))))))) vE_mixed (by kernel_rfl) ?_
                intro K67 hK67
                simp (disch := omega) only [vmE, liE, eE, seval, deE, fxE, retOf, maskA, setVals, getVals, putA, stripAt, AVal.strip, stripL, rd, hc13, hc61, hx69, hx71]
                refine hK67 _ _ (kPost_normal (hK66 _ _ ?_))
                replace h := ite_some h
                rcases h with ⟨hc72, h⟩ | ⟨hc72, h⟩
                · refine awp_cond_f rfl (by simp only [liE, hc13, hc61, hx69, hx71, hc72]) ?_
                  refine awp_skip ?_
                  refine bPost_normal (hK63 _ _ (kPost_normal (hK62 _ _ ?_)))
                  refine awp_region' [] ?_
                  intro K73 hK73
                  simp (disch := omega) only [vmE, liE, eE, seval, deE, fxE, retOf, maskA, setVals, getVals, putA, stripAt, AVal.strip, stripL, rd, hc13, hc61, hx69, hx71, hc72]
                  refine hK73 _ _ (kPost_normal (hJ76 k57 _ _ _ (Nat.lt_succ_self _) (List.Sublist.refl _) ?_ ⟨(wr .i64 (s59 + 1)), ?_, ?_, h⟩)) <;> simp (disch := omega) only [vmE, liE, eE, seval, deE, fxE, retOf, maskA, setVals, getVals, putA, stripAt, AVal.strip, stripL, rd, hc13, hc61, hx69, hx71, hc72]
                · refine awp_cond_t rfl (by simp only [liE, hc13, hc61, hx69, hx71, hc72]) ?_
                  refine awp_seq_k ?_
                  intro K74 hK74
                  refine awp_region' [] ?_
                  intro K75 hK75
                  simp (disch := omega) only [vmE, liE, eE, seval, deE, fxE, retOf, maskA, setVals, getVals, putA, stripAt, AVal.strip, stripL, rd, hc13, hc61, hx69, hx71, hc72]
                  refine hK75 _ _ (kPost_normal (hK74 _ _ ?_))
                  refine awp_ret ?_
                  refine bPost_ret (kPost_ret (kPost_ret (bPost_ret (kPost_ret (hR _ _ _ (retPost_r (by simp (disch := omega) only [Try.results19, vmE, liE, eE, seval, deE, fxE, retOf, maskA, setVals, getVals, putA, stripAt, AVal.strip, stripL, rd, hc13, hc61, hx69, hx71, hc72]; rfl) (.cons _ (.cons _ (List.Sublist.refl _))) ?_))))))
                  cases h
                  refine ⟨?_, ?_⟩
                  · simp (disch := omega) only [vmE, liE, eE, seval, deE, fxE, retOf, maskA, setVals, getVals, putA, stripAt, AVal.strip, stripL, rd, hc13, hc61, hx69, hx71, hc72]
                  · rfl
              · refine awp_cond_f rfl hc61 ?_
                refine awp_exit ?_
                refine kPost_exit (kPost_exit (bPost_here (hK56 _ _ (kPost_normal (hJ80 _ _ _ (List.Sublist.refl _) ?_ ⟨(), ?_, ?_, h⟩))))) <;> simp (disch := omega) only [vmE, liE, eE, seval, deE, fxE, retOf, maskA, setVals, getVals, putA, stripAt, AVal.strip, stripL, rd, hc13, hc61]
        · intro J81 hJ81
          refine awp_seq_k ?_
          intro K21 hK21
          refine awp_region' [] ?_
          intro K22 hK22
          simp (disch := omega) only [vmE, liE, eE, seval, deE, fxE, retOf, maskA, setVals, getVals, putA, stripAt, AVal.strip, stripL, rd, hc13]
          refine hK22 _ _ (kPost_normal (hK21 _ _ ?_))
          refine awp_block_k ?_
          intro K23 hK23
          refine awp_loop_v [4, 5, 41, 42, 43, 44, 45, 46, 47, 48, 49, 50, 51, 52, 53, 54, 55] [40] (fun k vs st' => ∃ (s40 : Int), vs = [.int .i64 s40] ∧ st'.m = ((n + 1), [.int .i64 a1.kind, .str a1.text, .slice 1 (List.map AVal.str a1.keys) false, .slice 4 (List.map encApiValue a1.items) false]) :: (n, [.int .i64 a0.kind, .str a0.text, .slice 1 (List.map AVal.str a0.keys) false, .slice 4 (List.map encApiValue a0.items) false]) :: m ∧ ref14_Same_L1 N a0 a1 (ref14_Same N D) k18 k s40 = some r) N ⟨0, ?_, ?_, h⟩ ?_
          · simp (disch := omega) only [vmE, liE, eE, seval, deE, fxE, retOf, maskA, setVals, getVals, putA, stripAt, AVal.strip, stripL, rd, hc13]
          · simp (disch := omega) only [vmE, liE, eE, seval, deE, fxE, retOf, maskA, setVals, getVals, putA, stripAt, AVal.strip, stripL, rd, hc13]
          · clear h
            rintro k24 _ ⟨m48, nL0_1⟩ ⟨s40, rfl, hm, h⟩ J47 hJ47
            simp only [] at hm
            replace hm := hm.symm
            subst hm
            rcases k24 with _ | k24
            · simp only [ref14_Same_L1, reduceCtorEq] at h
            rw [ref14_Same_L1] at h
            refine AWp.known fun _ hkl => ?_
            simp only [] at hkl
            obtain ⟨_, hkl⟩ := keysLt_cons hkl
            obtain ⟨_, hkl⟩ := keysLt_cons hkl
            clear hkl
            refine AWp.congr (by simp (disch := omega) only [vmE, liE, eE, seval, deE, fxE, retOf, maskA, setVals, getVals, putA, stripAt, AVal.strip, stripL, rd]; rfl) ?_
            refine awp_seq_k ?_
            intro K25 hK25
            refine awp_region' [] ?_
            intro K26 hK26
            simp (disch := omega) only [vmE, liE, eE, seval, deE, fxE, retOf, maskA, setVals, getVals, putA, stripAt, AVal.strip, stripL, rd, hc13]
            refine hK26 _ _ (kPost_normal (hK25 _ _ ?_))
            refine awp_seq_k ?_
            intro K27 hK27
            replace h := ite_some h
            rcases h with ⟨hc28, h⟩ | ⟨hc28, h⟩
            · refine awp_cond_t rfl hc28 ?_
              refine awp_skip ?_
              refine kPost_normal (hK27 _ _ ?_)
              refine awp_seq_k ?_
              intro K29 hK29
              refine awp_block_k ?_
              intro K30 hK30
              refine awp_seq_k ?_
              intro K31 hK31
              refine awp_region' [] ?_
              intro K32 hK32
              simp (disch := omega) only [vmE, liE, eE, seval, deE, fxE, retOf, maskA, setVals, getVals, putA, stripAt, AVal.strip, stripL, rd, hc13, hc28]
              refine hK32 _ _ (kPost_normal (hK31 _ _ ?_))
              refine awp_seq_k ?_
              intro K33 hK33
              replace h := bind_some h
              rcases h with ⟨x35, hx36, h⟩
              replace h := bind_some h
              rcases h with ⟨x37, hx38, h⟩
              replace h := bind_some h
              rcases h with ⟨y39, hy40, h⟩
              refine awp_draw' [] (.take 0 (.take 1 (.take 2 (.take 3 (.take 4 (.take 5 (.take 6 (.take 7 (.take 8 (.take 9 (.alt 10 [8, 7, 6, 5, 3, 2, 1, 0] (.take 11 (.done)) (.stop)))))))))))) vE_mixed (by kernel_rfl) ?_
              intro K34 hK34
              simp (disch := omega) only [vmE, liE, eE, seval, deE, fxE, retOf, maskA, setVals, getVals, putA, stripAt, AVal.strip, stripL, rd, hc13, hc28, hx36, hx38, hx36, hx38]
              refine ACall.of (ih_ref14_Same hy40) ?_ ?_
              · first | (simp (disch := omega) only [vmE, liE, eE, seval, deE, fxE, retOf, maskA, setVals, getVals, putA, stripAt, AVal.strip, stripL, rd, hc13, hc28, hx36, hx38, hx36, hx38]) | rfl
              rintro _ ⟨m42, n41⟩ hn41 ⟨rfl, hm⟩
              simp (disch := omega) only [vmE, liE, eE, seval] at hn41 hm
              replace hm := hm.symm
              subst hm
              simp (disch := omega) only [vmE, liE, eE, seval, deE, fxE, retOf, maskA, setVals, getVals, putA, stripAt, AVal.strip, stripL, rd, hc13, hc28, hx36, hx38]
              refine hK34 _ _ (kPost_normal (hK33 _ _ ?_))
              replace h := ite_some h
              rcases h with ⟨hc43, h⟩ | ⟨hc43, h⟩
              · refine awp_cond_f rfl (by simp only [liE, hc13, hc28, hx36, hx38, hc43]) ?_
                refine awp_skip ?_
                refine bPost_normal (hK30 _ _ (kPost_normal (hK29 _ _ ?_)))
                refine awp_region' [] ?_
                intro K44 hK44
                simp (disch := omega) only [vmE, liE, eE, seval, deE, fxE, retOf, maskA, setVals, getVals, putA, stripAt, AVal.strip, stripL, rd, hc13, hc28, hx36, hx38, hc43]
                refine hK44 _ _ (kPost_normal (hJ47 k24 _ _ _ (Nat.lt_succ_self _) (List.Sublist.refl _) ?_ ⟨(wr .i64 (s40 + 1)), ?_, ?_, h⟩)) <;> simp (disch := omega) only [vmE, liE, eE, seval, deE, fxE, retOf, maskA, setVals, getVals, putA, stripAt, AVal.strip, stripL, rd, hc13, hc28, hx36, hx38, hc43]
              · refine awp_cond_t rfl (by simp only [liE, hc13, hc28, hx36, hx38, hc43]) ?_
                refine awp_seq_k ?_
                intro K45 hK45
                refine awp_region' [] ?_
                intro K46 hK46
                simp (disch := omega) only [vmE, liE, eE, seval, deE, fxE, retOf, maskA, setVals, getVals, putA, stripAt, AVal.strip, stripL, rd, hc13, hc28, hx36, hx38, hc43]
                refine hK46 _ _ (kPost_normal (hK45 _ _ ?_))
                refine awp_ret ?_
                refine bPost_ret (kPost_ret (kPost_ret (bPost_ret (kPost_ret (hR _ _ _ (retPost_r (by simp (disch := omega) only [Try.results19, vmE, liE, eE, seval, deE, fxE, retOf, maskA, setVals, getVals, putA, stripAt, AVal.strip, stripL, rd, hc13, hc28, hx36, hx38, hc43]; rfl) (.cons _ (.cons _ (List.Sublist.refl _))) ?_))))))
                cases h
                refine ⟨?_, ?_⟩
                · simp (disch := omega) only [vmE, liE, eE, seval, deE, fxE, retOf, maskA, setVals, getVals, putA, stripAt, AVal.strip, stripL, rd, hc13, hc28, hx36, hx38, hc43]
                · rfl
            · refine awp_cond_f rfl hc28 ?_
              refine awp_exit ?_
              refine kPost_exit (kPost_exit (bPost_here (hK23 _ _ (kPost_normal (hJ81 _ _ _ (List.Sublist.refl _) ?_ ⟨(), ?_, ?_, h⟩))))) <;> simp (disch := omega) only [vmE, liE, eE, seval, deE, fxE, retOf, maskA, setVals, getVals, putA, stripAt, AVal.strip, stripL, rd, hc13, hc28]
    · intro J82 hJ82
      replace h := ite_some h
      rcases h with ⟨hc10, h⟩ | ⟨hc10, h⟩
      · refine awp_region' [] ?_
        intro K9 hK9
        simp (disch := omega) only [vmE, liE, eE, seval, deE, fxE, retOf, maskA, setVals, getVals, putA, stripAt, AVal.strip, stripL, rd, hc10]
        refine hK9 _ _ (kPost_normal (hJ82 _ _ _ (List.Sublist.refl _) ?_ ⟨true, ?_, ?_, h⟩)) <;> simp (disch := omega) only [vmE, liE, eE, seval, deE, fxE, retOf, maskA, setVals, getVals, putA, stripAt, AVal.strip, stripL, rd, hc10]
      · replace h := ite_some h
        rcases h with ⟨hc11, h⟩ | ⟨hc11, h⟩
        · replace h := ite_some h
          rcases h with ⟨hc12, h⟩ | ⟨hc12, h⟩
          · refine awp_region' [] ?_
            intro K9 hK9
            simp (disch := omega) only [vmE, liE, eE, seval, deE, fxE, retOf, maskA, setVals, getVals, putA, stripAt, AVal.strip, stripL, rd, hc10, hc11, hc12]
            refine hK9 _ _ (kPost_normal (hJ82 _ _ _ (List.Sublist.refl _) ?_ ⟨true, ?_, ?_, h⟩)) <;> simp (disch := omega) only [vmE, liE, eE, seval, deE, fxE, retOf, maskA, setVals, getVals, putA, stripAt, AVal.strip, stripL, rd, hc10, hc11, hc12]
          · refine awp_region' [] ?_
            intro K9 hK9
            simp (disch := omega) only [vmE, liE, eE, seval, deE, fxE, retOf, maskA, setVals, getVals, putA, stripAt, AVal.strip, stripL, rd, hc10, hc11, hc12]
            refine hK9 _ _ (kPost_normal (hJ82 _ _ _ (List.Sublist.refl _) ?_ ⟨((a0.keys.length : Int) != (a1.keys.length : Int)), ?_, ?_, h⟩)) <;> simp (disch := omega) only [vmE, liE, eE, seval, deE, fxE, retOf, maskA, setVals, getVals, putA, stripAt, AVal.strip, stripL, rd, hc10, hc11, hc12]
        · refine awp_region' [] ?_
          intro K9 hK9
          simp (disch := omega) only [vmE, liE, eE, seval, deE, fxE, retOf, maskA, setVals, getVals, putA, stripAt, AVal.strip, stripL, rd, hc10, hc11]
          refine hK9 _ _ (kPost_normal (hJ82 _ _ _ (List.Sublist.refl _) ?_ ⟨true, ?_, ?_, h⟩)) <;> simp (disch := omega) only [vmE, liE, eE, seval, deE, fxE, retOf, maskA, setVals, getVals, putA, stripAt, AVal.strip, stripL, rd, hc10, hc11]
theorem ref14_Same_w {N : Nat} {a0 : ApiValue} {a1 : ApiValue} {r : Bool} (h : ref14_Same N N a0 a1 = some r) {n : Nat} {m : List (Nat × List AVal)} :
    ACall vE 19 [.agg [.int .i64 a0.kind, .str a0.text, .slice 1 (List.map AVal.str a0.keys) false, .slice 4 (List.map encApiValue a0.items) false], .agg [.int .i64 a1.kind, .str a1.text, .slice 1 (List.map AVal.str a1.keys) false, .slice 4 (List.map encApiValue a1.items) false]] ⟨m, n⟩ fun r' st => r' = .bool r ∧ st.m = m :=
  (ref14_Same_rec N N h)
theorem jrd_object_add_w {N : Nat} {a0 : JrdObject} {a1 : (List UInt8)} {a2 : ApiValue} {r : JrdObject} (h : jrd_object_add N a0 a1 a2 = some r) {n : Nat} {m : List (Nat × List AVal)} {i0 : Nat} (hi0 : mget m i0 = some [.int .i64 a0.value.kind, .str a0.value.text, .slice 1 (List.map AVal.str a0.value.keys) true, .slice 4 (List.map encApiValue a0.value.items) true]) :
    ACall vE 44 [.ptr i0 0, .str a1, .agg [.int .i64 a2.kind, .str a2.text, .slice 1 (List.map AVal.str a2.keys) false, .slice 4 (List.map encApiValue a2.items) false]] ⟨m, n⟩ fun r' st => r' = .tuple [] ∧ st.m = mset m i0 [.int .i64 r.value.kind, .str r.value.text, .slice 1 (List.map AVal.str r.value.keys) true, .slice 4 (List.map encApiValue r.value.items) true] := by
  rw [jrd_object_add] at h
  refine ACall.front hi0 ?_
  intro hin
  refine acall_k Try.func44 rfl ?_
  intro R hR
  refine AWp.congr (by simp only [Try.ntmps44, liE, seval]; rfl) ?_
  refine awp_seq_k ?_
  intro K1 hK1
  refine awp_region' [] ?_
  intro K2 hK2
  simp (disch := omega) only [vmE, liE, eE, seval, deE, fxE, retOf, maskA, setVals, getVals, putA, stripAt, AVal.strip, stripL, rd]
  refine hK2 _ _ (kPost_normal (hK1 _ _ ?_))
  replace h := grd_some h
  rcases h with ⟨hg4, h⟩
  try simp only [liE, seval] at hg4
  replace h := grd_some h
  rcases h with ⟨hg5, h⟩
  try simp only [liE, seval] at hg5
  refine awp_draw' [12, 20] (.take 0 (.take 1 (.take 2 (.take 3 (.take 4 (.take 5 (.take 7 (.take 8 (.take 10 (.take 11 (.take 12 (.take 13 (.take 15 (.take 16 (.alt 6 [16, 15, 13, 12, 11, 10, 8, 7, 4, 3, 2, 1, 0] (.alt 9 [16, 15, 13, 12, 11, 10, 7, 5, 4, 3, 2, 1, 0] (.alt 14 [16, 15, 12, 11, 10, 8, 7, 5, 4, 3, 2, 1, 0] (.alt 17 [15, 13, 12, 11, 10, 8, 7, 5, 4, 3, 2, 1, 0] (.take 18 (.take 19 (.take 20 (.alt 21 [19, 18, 16, 15, 13, 12, 11, 10, 1] (.take 22 (.take 23 (.take 24 (.alt 25 [23, 22] (.done) (.stop))))) (.stop))))) (.stop)) (.stop)) (.alt 14 [16, 15, 12, 11, 10, 8, 7, 5, 4, 3, 2, 1, 0] (.alt 9 [16, 15, 13, 12, 11, 10, 7, 5, 4, 3, 2, 1, 0] (.alt 17 [15, 13, 12, 11, 10, 8, 7, 5, 4, 3, 2, 1, 0] (.take 18 (.take 19 (.take 20 (.alt 21 [19, 18, 16, 15, 13, 12, 11, 10, 1] (.take 22 (.take 23 (.take 24 (.alt 25 [23, 22] (.done) (.stop))))) (.stop))))) (.stop)) (.stop)) (.stop))) (.alt 14 [16, 15, 12, 11, 10, 8, 7, 5, 4, 3, 2, 1, 0] (.alt 6 [16, 15, 13, 12, 11, 10, 8, 7, 4, 3, 2, 1, 0] (.alt 9 [16, 15, 13, 12, 11, 10, 7, 5, 4, 3, 2, 1, 0] (.alt 17 [15, 13, 12, 11, 10, 8, 7, 5, 4, 3, 2, 1, 0] (.take 18 (.take 19 (.take 20 (.alt 21 [19, 18, 16, 15, 13, 12, 11, 10, 1] (.take 22 (.take 23 (.take 24 (.alt 25 [23, 22] (.done) (.stop))))) (.stop))))) (.stop)) (.stop)) (.stop)) (.stop))))))))))))))))) vE_mixed (by kernel_rfl) ?_
  intro K3 hK3
  simp (disch := omega) only [vmE, liE, eE, seval, deE, fxE, retOf, maskA, setVals, getVals, putA, stripAt, AVal.strip, stripL, rd, hg4, hg5]
  refine hK3 _ _ (hR _ _ _ (retPost_n (by simp (disch := omega) only [Try.results44, vmE, liE, eE, seval, deE, fxE, retOf, maskA, setVals, getVals, putA, stripAt, AVal.strip, stripL, rd, hg4, hg5]; rfl) (.cons _ (List.Sublist.refl _)) ?_))
  cases h
  refine ⟨_, rfl, ?_, ?_⟩
  · simp (disch := omega) only [vmE, liE, eE, seval, deE, fxE, retOf, maskA, setVals, getVals, putA, stripAt, AVal.strip, stripL, rd, hg4, hg5]
  · simp (disch := omega) only [vmE, liE, eE, seval, deE, fxE, retOf, maskA, setVals, getVals, putA, stripAt, AVal.strip, stripL, rd, hg4, hg5]
theorem ref16_sameProperties_w {N : Nat} {a0 : (List ApiProperty)} {a1 : (List ApiProperty)} {r : Bool} (h : ref16_sameProperties N a0 a1 = some r) {n : Nat} {m : List (Nat × List AVal)} :
    ACall vE 36 [.slice 3 (List.map encApiProperty a0) false, .slice 3 (List.map encApiProperty a1) false] ⟨m, n⟩ fun r' st => r' = .bool r ∧ st.m = m := by
  rw [ref16_sameProperties] at h
  refine acall_k Try.func36 rfl ?_
  intro R hR
  refine AWp.congr (by simp only [Try.ntmps36, liE, seval]; rfl) ?_
  refine awp_seq_k ?_
  intro K1 hK1
  refine awp_region' [] ?_
  intro K2 hK2
  simp (disch := omega) only [vmE, liE, eE, seval, deE, fxE, retOf, maskA, setVals, getVals, putA, stripAt, AVal.strip, stripL, rd]
  refine hK2 _ _ (kPost_normal (hK1 _ _ ?_))
  refine awp_seq_k ?_
  intro K3 hK3
  refine awp_seq_k ?_
  intro K4 hK4
  refine awp_region' [] ?_
  intro K5 hK5
  simp (disch := omega) only [vmE, liE, eE, seval, deE, fxE, retOf, maskA, setVals, getVals, putA, stripAt, AVal.strip, stripL, rd]
  refine hK5 _ _ (kPost_normal (hK4 _ _ ?_))
  replace h := ite_some h
  rcases h with ⟨hc6, h⟩ | ⟨hc6, h⟩
  · refine awp_cond_t rfl hc6 ?_
    refine awp_seq_k ?_
    intro K7 hK7
    refine awp_region' [] ?_
    intro K8 hK8
    simp (disch := omega) only [vmE, liE, eE, seval, deE, fxE, retOf, maskA, setVals, getVals, putA, stripAt, AVal.strip, stripL, rd, hc6]
    refine hK8 _ _ (kPost_normal (hK7 _ _ ?_))
    refine awp_ret ?_
    refine kPost_ret (hR _ _ _ (retPost_r (by simp (disch := omega) only [Try.results36, vmE, liE, eE, seval, deE, fxE, retOf, maskA, setVals, getVals, putA, stripAt, AVal.strip, stripL, rd, hc6]; rfl) (List.Sublist.refl _) ?_))
    cases h
    refine ⟨?_, ?_⟩
    · simp (disch := omega) only [vmE, liE, eE, seval, deE, fxE, retOf, maskA, setVals, getVals, putA, stripAt, AVal.strip, stripL, rd, hc6]
    · rfl
  · refine awp_cond_f rfl hc6 ?_
    refine awp_skip ?_
    refine kPost_normal (hK3 _ _ ?_)
    refine awp_seq_k ?_
    intro K9 hK9
    replace h := joinK_some h
    rcases h with ⟨k11, hk11, h⟩
    refine awp_join [4, 5, 11, 12, 13, 14, 15, 16, 17, 18, 19, 20, 21, 22, 23, 24, 25] [] (fun vs st' => ∃ j10 : Unit, vs = [] ∧ st'.m = m ∧ k11 j10 = some r) hK9 ?_ ?_
    · clear h
      rintro _ ⟨m12, n13⟩ ⟨j10, rfl, hm, h⟩
      simp only [] at hm
      replace hm := hm.symm
      subst hm
      replace h := hk11 _ _ h
      clear hk11 k11
      refine AWp.congr (by simp (disch := omega) only [vmE, liE, eE, seval, deE, fxE, retOf, maskA, setVals, getVals, putA, stripAt, AVal.strip, stripL, rd]; rfl) ?_
      refine awp_seq_k ?_
      intro K38 hK38
      refine awp_region' [] ?_
      intro K39 hK39
      simp (disch := omega) only [vmE, liE, eE, seval, deE, fxE, retOf, maskA, setVals, getVals, putA, stripAt, AVal.strip, stripL, rd, hc6]
      refine hK39 _ _ (kPost_normal (hK38 _ _ ?_))
      refine awp_ret ?_
      refine hR _ _ _ (retPost_r (by simp (disch := omega) only [Try.results36, vmE, liE, eE, seval, deE, fxE, retOf, maskA, setVals, getVals, putA, stripAt, AVal.strip, stripL, rd, hc6]; rfl) (List.Sublist.refl _) ?_)
      cases h
      refine ⟨?_, ?_⟩
      · simp (disch := omega) only [vmE, liE, eE, seval, deE, fxE, retOf, maskA, setVals, getVals, putA, stripAt, AVal.strip, stripL, rd, hc6]
      · rfl
    · intro J40 hJ40
      refine awp_seq_k ?_
      intro K14 hK14
      refine awp_region' [] ?_
      intro K15 hK15
      simp (disch := omega) only [vmE, liE, eE, seval, deE, fxE, retOf, maskA, setVals, getVals, putA, stripAt, AVal.strip, stripL, rd, hc6]
      refine hK15 _ _ (kPost_normal (hK14 _ _ ?_))
      refine awp_block_k ?_
      intro K16 hK16
      refine awp_loop_v [4, 5, 14, 15, 16, 17, 18, 19, 20, 21, 22, 23, 24, 25] [13] (fun k vs st' => ∃ (s13 : Int), vs = [.int .i64 s13] ∧ st'.m = m ∧ ref16_sameProperties_L1 N a0 a1 k11 k s13 = some r) N ⟨0, ?_, ?_, h⟩ ?_
      · simp (disch := omega) only [vmE, liE, eE, seval, deE, fxE, retOf, maskA, setVals, getVals, putA, stripAt, AVal.strip, stripL, rd, hc6]
      · simp (disch := omega) only [vmE, liE, eE, seval, deE, fxE, retOf, maskA, setVals, getVals, putA, stripAt, AVal.strip, stripL, rd, hc6]
      · clear h
        rintro k17 _ ⟨m37, nL0_1⟩ ⟨s13, rfl, hm, h⟩ J36 hJ36
        simp only [] at hm
        replace hm := hm.symm
        subst hm
        rcases k17 with _ | k17
        · simp only [ref16_sameProperties_L1, reduceCtorEq] at h
        rw [ref16_sameProperties_L1] at h
        refine AWp.congr (by simp (disch := omega) only [vmE, liE, eE, seval, deE, fxE, retOf, maskA, setVals, getVals, putA, stripAt, AVal.strip, stripL, rd]; rfl) ?_
        refine awp_seq_k ?_
        intro K18 hK18
        refine awp_region' [] ?_
        intro K19 hK19
        simp (disch := omega) only [vmE, liE, eE, seval, deE, fxE, retOf, maskA, setVals, getVals, putA, stripAt, AVal.strip, stripL, rd, hc6]
        refine hK19 _ _ (kPost_normal (hK18 _ _ ?_))
        refine awp_seq_k ?_
        intro K20 hK20
        replace h := ite_some h
        rcases h with ⟨hc21, h⟩ | ⟨hc21, h⟩
        · refine awp_cond_t rfl hc21 ?_
          refine awp_skip ?_
          refine kPost_normal (hK20 _ _ ?_)
          refine awp_seq_k ?_
          intro K22 hK22
          refine awp_block_k ?_
          intro K23 hK23
          refine awp_seq_k ?_
          intro K24 hK24
          refine awp_region' [] ?_
          intro K25 hK25
          simp (disch := omega) only [vmE, liE, eE, seval, deE, fxE, retOf, maskA, setVals, getVals, putA, stripAt, AVal.strip, stripL, rd, hc6, hc21]
          refine hK25 _ _ (kPost_normal (hK24 _ _ ?_))
          refine awp_seq_k ?_
          intro K26 hK26
          replace h := bind_some h
          rcases h with ⟨x28, hx29, h⟩
          replace h := bind_some h
          rcases h with ⟨x30, hx31, h⟩
          refine awp_draw' [] (.take 0 (.take 1 (.take 2 (.take 3 (.take 4 (.take 5 (.take 6 (.take 7 (.take 8 (.done)))))))))) vE_mixed (by kernel_rfl) ?_
          intro K27 hK27
          simp (disch := omega) only [vmE, liE, eE, seval, deE, fxE, retOf, maskA, setVals, getVals, putA, stripAt, AVal.strip, stripL, rd, hc6, hc21, hx29, hx31]
          refine hK27 _ _ (kPost_normal (hK26 _ _ ?_))
          replace h := ite_some h
          rcases h with ⟨hc32, h⟩ | ⟨hc32, h⟩
          · refine awp_cond_f rfl (by simp only [liE, hc6, hc21, hx29, hx31, hc32]) ?_
            refine awp_skip ?_
            refine bPost_normal (hK23 _ _ (kPost_normal (hK22 _ _ ?_)))
            refine awp_region' [] ?_
            intro K33 hK33
            simp (disch := omega) only [vmE, liE, eE, seval, deE, fxE, retOf, maskA, setVals, getVals, putA, stripAt, AVal.strip, stripL, rd, hc6, hc21, hx29, hx31, hc32]
            refine hK33 _ _ (kPost_normal (hJ36 k17 _ _ _ (Nat.lt_succ_self _) (List.Sublist.refl _) ?_ ⟨(wr .i64 (s13 + 1)), ?_, ?_, h⟩)) <;> simp (disch := omega) only [vmE, liE, eE, seval, deE, fxE, retOf, maskA, setVals, getVals, putA, stripAt, AVal.strip, stripL, rd, hc6, hc21, hx29, hx31, hc32]
          · refine awp_cond_t rfl (by simp only [liE, hc6, hc21, hx29, hx31, hc32]) ?_
            refine awp_seq_k ?_
            intro K34 hK34
            refine awp_region' [] ?_
            intro K35 hK35
            simp (disch := omega) only [vmE, liE, eE, seval, deE, fxE, retOf, maskA, setVals, getVals, putA, stripAt, AVal.strip, stripL, rd, hc6, hc21, hx29, hx31, hc32]
            refine hK35 _ _ (kPost_normal (hK34 _ _ ?_))
            refine awp_ret ?_
            refine bPost_ret (kPost_ret (kPost_ret (bPost_ret (kPost_ret (hR _ _ _ (retPost_r (by simp (disch := omega) only [Try.results36, vmE, liE, eE, seval, deE, fxE, retOf, maskA, setVals, getVals, putA, stripAt, AVal.strip, stripL, rd, hc6, hc21, hx29, hx31, hc32]; rfl) (List.Sublist.refl _) ?_))))))
            cases h
            refine ⟨?_, ?_⟩
            · simp (disch := omega) only [vmE, liE, eE, seval, deE, fxE, retOf, maskA, setVals, getVals, putA, stripAt, AVal.strip, stripL, rd, hc6, hc21, hx29, hx31, hc32]
            · rfl
        · refine awp_cond_f rfl hc21 ?_
          refine awp_exit ?_
          refine kPost_exit (kPost_exit (bPost_here (hK16 _ _ (kPost_normal (hJ40 _ _ _ (List.Sublist.refl _) ?_ ⟨(), ?_, ?_, h⟩))))) <;> simp (disch := omega) only [vmE, liE, eE, seval, deE, fxE, retOf, maskA, setVals, getVals, putA, stripAt, AVal.strip, stripL, rd, hc6, hc21]
end Go.Proofs.Ytdbeiialamganaa
