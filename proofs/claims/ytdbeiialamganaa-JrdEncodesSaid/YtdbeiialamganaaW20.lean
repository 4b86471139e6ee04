/- That the code computes these functions; written by decomp.py. -/
import Derived.Test.YtdbeiialamganaaVmFacts
import Derived.Test.YtdbeiialamganaaDefs
import Derived.Test.YtdbeiialamganaaVMSets
import Derived.Test.YtdbeiialamganaaW0
import Derived.Test.YtdbeiialamganaaW1
import Derived.Test.YtdbeiialamganaaW13
import Derived.Test.YtdbeiialamganaaW19
set_option linter.unusedVariables false
set_option linter.unusedSimpArgs false
set_option maxHeartbeats 4000000
set_option maxRecDepth 100000
set_option linter.defProp false
namespace Go.Proofs.Ytdbeiialamganaa
open Go.VM
theorem ref14_parser_array_rec (N : Nat) : ∀ D : Nat, (∀ {a0 : Ref14Parser} {a1 : Int} {r : ApiValue × Ref14Parser} (h : ref14_parser_array N D a0 a1 = some r) {n : Nat} {m : List (Nat × List AVal)} {i0 : Nat} (hi0 : mget m i0 = some [.str a0.s, .int .i64 a0.at_, .int .i64 a0.nodes, .int .i64 a0.fail, .int .i64 a0.where_]), ACall vE 48 [.ptr i0 0, .int .i64 a1] ⟨m, n⟩ fun r' st => r' = .agg [.int .i64 r.1.kind, .str r.1.text, .slice 1 (List.map AVal.str r.1.keys) false, .slice 4 (List.map encApiValue r.1.items) false] ∧ st.m = mset m i0 [.str r.2.s, .int .i64 r.2.at_, .int .i64 r.2.nodes, .int .i64 r.2.fail, .int .i64 r.2.where_]) ∧ (∀ {a0 : Ref14Parser} {a1 : Int} {r : ApiValue × Ref14Parser} (h : ref14_parser_object N D a0 a1 = some r) {n : Nat} {m : List (Nat × List AVal)} {i0 : Nat} (hi0 : mget m i0 = some [.str a0.s, .int .i64 a0.at_, .int .i64 a0.nodes, .int .i64 a0.fail, .int .i64 a0.where_]), ACall vE 49 [.ptr i0 0, .int .i64 a1] ⟨m, n⟩ fun r' st => r' = .agg [.int .i64 r.1.kind, .str r.1.text, .slice 1 (List.map AVal.str r.1.keys) false, .slice 4 (List.map encApiValue r.1.items) false] ∧ st.m = mset m i0 [.str r.2.s, .int .i64 r.2.at_, .int .i64 r.2.nodes, .int .i64 r.2.fail, .int .i64 r.2.where_]) ∧ (∀ {a0 : Ref14Parser} {a1 : ApiToken} {a2 : Int} {r : ApiValue × Ref14Parser} (h : ref14_parser_value N D a0 a1 a2 = some r) {n : Nat} {m : List (Nat × List AVal)} {i0 : Nat} (hi0 : mget m i0 = some [.str a0.s, .int .i64 a0.at_, .int .i64 a0.nodes, .int .i64 a0.fail, .int .i64 a0.where_]), ACall vE 23 [.ptr i0 0, .agg [.int .i64 a1.kind, .str a1.text, .int .i64 a1.at_], .int .i64 a2] ⟨m, n⟩ fun r' st => r' = .agg [.int .i64 r.1.kind, .str r.1.text, .slice 1 (List.map AVal.str r.1.keys) false, .slice 4 (List.map encApiValue r.1.items) false] ∧ st.m = mset m i0 [.str r.2.s, .int .i64 r.2.at_, .int .i64 r.2.nodes, .int .i64 r.2.fail, .int .i64 r.2.where_]) := by
  intro D
  induction D with
  | zero =>
    refine ⟨?_, ?_, ?_⟩
    · intro a0 a1 r h
      simp only [ref14_parser_array, reduceCtorEq] at h
    · intro a0 a1 r h
      simp only [ref14_parser_object, reduceCtorEq] at h
    · intro a0 a1 a2 r h
      simp only [ref14_parser_value, reduceCtorEq] at h
  | succ D ih =>
    obtain ⟨ih_ref14_parser_array, ih_ref14_parser_object, ih_ref14_parser_value⟩ := ih
    refine ⟨?_, ?_, ?_⟩
    · intro a0 a1 r h n m i0 hi0
      rw [ref14_parser_array] at h
      refine ACall.strip ?_
      refine ACall.front hi0 ?_
      intro hin
      refine acall_k Try.func48 rfl ?_
      intro R hR
      refine AWp.congr (by simp only [Try.ntmps48, liE, seval]; rfl) ?_
      refine awp_seq_k ?_
      intro K1 hK1
      refine awp_region' [] ?_
      intro K2 hK2
      simp (disch := omega) only [vmE, liE, eE, seval, deE, fxE, retOf, maskA, setVals, getVals, putA, stripAt, AVal.strip, stripL, rd]
      refine hK2 _ _ (kPost_normal (hK1 _ _ ?_))
      refine awp_seq_k ?_
      intro K3 hK3
      refine awp_region' [] ?_
      intro K4 hK4
      simp (disch := omega) only [vmE, liE, eE, seval, deE, fxE, retOf, maskA, setVals, getVals, putA, stripAt, AVal.strip, stripL, rd]
      refine hK4 _ _ (kPost_normal (hK3 _ _ ?_))
      refine awp_seq_k ?_
      intro K5 hK5
      replace h := bind_some h
      rcases h with ⟨y7, hy8, h⟩
      refine awp_region' [] ?_
      intro K6 hK6
      simp (disch := omega) only [vmE, liE, eE, seval, deE, fxE, retOf, maskA, setVals, getVals, putA, stripAt, AVal.strip, stripL, rd]
      refine ACall.of (ref14_parser_next_w hy8 (i0 := i0) (by simp (disch := omega) only [vmE, liE, eE, seval, deE, fxE, retOf, maskA, setVals, getVals, putA, stripAt, AVal.strip, stripL, rd])) ?_ ?_
      · first | (simp (disch := omega) only [vmE, liE, eE, seval, deE, fxE, retOf, maskA, setVals, getVals, putA, stripAt, AVal.strip, stripL, rd]) | rfl
      rintro _ ⟨m10, n9⟩ hn9 ⟨rfl, hm⟩
      simp (disch := omega) only [vmE, liE, eE, seval] at hn9 hm
      replace hm := hm.symm
      subst hm
      simp (disch := omega) only [vmE, liE, eE, seval, deE, fxE, retOf, maskA, setVals, getVals, putA, stripAt, AVal.strip, stripL, rd]
      refine hK6 _ _ (kPost_normal (hK5 _ _ ?_))
      refine awp_seq_k ?_
      intro K11 hK11
      refine awp_seq_k ?_
      intro K12 hK12
      replace h := bind_some h
      rcases h with ⟨y14, hy15, h⟩
      refine awp_region' [] ?_
      intro K13 hK13
      simp (disch := omega) only [vmE, liE, eE, seval, deE, fxE, retOf, maskA, setVals, getVals, putA, stripAt, AVal.strip, stripL, rd]
      refine ACall.of (ref14_is_w hy15) ?_ ?_
      · first | (simp (disch := omega) only [vmE, liE, eE, seval, deE, fxE, retOf, maskA, setVals, getVals, putA, stripAt, AVal.strip, stripL, rd]) | rfl
      rintro _ ⟨m17, n16⟩ hn16 ⟨rfl, hm⟩
      simp (disch := omega) only [vmE, liE, eE, seval] at hn16 hm
      replace hm := hm.symm
      subst hm
      simp (disch := omega) only [vmE, liE, eE, seval, deE, fxE, retOf, maskA, setVals, getVals, putA, stripAt, AVal.strip, stripL, rd]
      refine hK13 _ _ (kPost_normal (hK12 _ _ ?_))
      replace h := ite_some h
      rcases h with ⟨hc18, h⟩ | ⟨hc18, h⟩
      · refine awp_cond_t rfl hc18 ?_
        refine awp_seq_k ?_
        intro K19 hK19
        refine awp_region' [] ?_
        intro K20 hK20
        simp (disch := omega) only [vmE, liE, eE, seval, deE, fxE, retOf, maskA, setVals, getVals, putA, stripAt, AVal.strip, stripL, rd, hc18]
        refine hK20 _ _ (kPost_normal (hK19 _ _ ?_))
        refine awp_ret ?_
        refine kPost_ret (hR _ _ _ (retPost_r (by simp (disch := omega) only [Try.results48, vmE, liE, eE, seval, deE, fxE, retOf, maskA, setVals, getVals, putA, stripAt, AVal.strip, stripL, rd, hc18]; rfl) (.cons _ (.cons _ (.cons _ (List.Sublist.refl _)))) ?_))
        cases h
        refine ⟨_, rfl, ?_, ?_⟩
        · simp (disch := omega) only [vmE, liE, eE, seval, deE, fxE, retOf, maskA, setVals, getVals, putA, stripAt, AVal.strip, stripL, rd, hc18]
        · simp (disch := omega) only [vmE, liE, eE, seval, deE, fxE, retOf, maskA, setVals, getVals, putA, stripAt, AVal.strip, stripL, rd, hc18]
      · refine awp_cond_f rfl hc18 ?_
        refine awp_skip ?_
        refine kPost_normal (hK11 _ _ ?_)
        refine awp_seq_k ?_
        intro K21 hK21
        replace h := joinK_some h
        rcases h with ⟨k23, hk23, h⟩
        refine awp_join [13, 14, 15, 16, 17, 18, 19, 20, 21, 22, 23, 24, 25, 26, 27, 28, 29, 30, 31, 32, 33, 34, 35, 36, 37, 38, 39, 40, 41, 42, 43, 44, 45, 46, 47] [] (fun vs st' => ∃ j22 : ApiToken × (List ApiValue) × Ref14Parser, vs = [] ∧ st'.m = (n9, [.int .i64 j22.1.kind, .str j22.1.text, .int .i64 j22.1.at_]) :: ((n + 1), [.int .i64 6, .str [], .slice 1 (List.map AVal.str []) true, .slice 4 (List.map encApiValue j22.2.1) true]) :: (n, [.int .i64 0, .str [], .slice 1 (List.map AVal.str []) true, .slice 4 (List.map encApiValue []) true]) :: (i0, [.str j22.2.2.s, .int .i64 j22.2.2.at_, .int .i64 j22.2.2.nodes, .int .i64 j22.2.2.fail, .int .i64 j22.2.2.where_]) :: mdel m i0 ∧ k23 j22 = some r) hK21 ?_ ?_
        · clear h
          rintro _ ⟨m24, n25⟩ ⟨j22, rfl, hm, h⟩
          simp only [] at hm
          replace hm := hm.symm
          subst hm
          replace h := hk23 _ _ h
          clear hk23 k23
          refine AWp.known fun _ hkl => ?_
          simp only [] at hkl
          obtain ⟨_, hkl⟩ := keysLt_cons hkl
          obtain ⟨_, hkl⟩ := keysLt_cons hkl
          obtain ⟨_, hkl⟩ := keysLt_cons hkl
          obtain ⟨_, hkl⟩ := keysLt_cons hkl
          clear hkl
          refine AWp.congr (by simp (disch := omega) only [vmE, liE, eE, seval, deE, fxE, retOf, maskA, setVals, getVals, putA, stripAt, AVal.strip, stripL, rd]; rfl) ?_
          refine awp_seq_k ?_
          intro K92 hK92
          refine awp_region' [] ?_
          intro K93 hK93
          simp (disch := omega) only [vmE, liE, eE, seval, deE, fxE, retOf, maskA, setVals, getVals, putA, stripAt, AVal.strip, stripL, rd, hc18]
          refine hK93 _ _ (kPost_normal (hK92 _ _ ?_))
          refine awp_ret ?_
          refine hR _ _ _ (retPost_r (by simp (disch := omega) only [Try.results48, vmE, liE, eE, seval, deE, fxE, retOf, maskA, setVals, getVals, putA, stripAt, AVal.strip, stripL, rd, hc18]; rfl) (.cons _ (.cons _ (.cons _ (List.Sublist.refl _)))) ?_)
          cases h
          refine ⟨_, rfl, ?_, ?_⟩
          · simp (disch := omega) only [vmE, liE, eE, seval, deE, fxE, retOf, maskA, setVals, getVals, putA, stripAt, AVal.strip, stripL, rd, hc18]
          · simp (disch := omega) only [vmE, liE, eE, seval, deE, fxE, retOf, maskA, setVals, getVals, putA, stripAt, AVal.strip, stripL, rd, hc18]
        · intro J94 hJ94
          refine awp_block_k ?_
          intro K26 hK26
          refine awp_loop_v [13, 14, 15, 16, 17, 18, 19, 20, 21, 22, 23, 24, 25, 26, 27, 28, 29, 30, 31, 32, 33, 34, 35, 36, 37, 38, 39, 40, 41, 42, 43, 44, 45, 46, 47] [] (fun k vs st' => ∃ (bn9 : ApiToken) (bn1_items : (List ApiValue)) (bi0 : Ref14Parser), vs = [] ∧ st'.m = (n9, [.int .i64 bn9.kind, .str bn9.text, .int .i64 bn9.at_]) :: ((n + 1), [.int .i64 6, .str [], .slice 1 (List.map AVal.str []) true, .slice 4 (List.map encApiValue bn1_items) true]) :: (n, [.int .i64 0, .str [], .slice 1 (List.map AVal.str []) true, .slice 4 (List.map encApiValue []) true]) :: (i0, [.str bi0.s, .int .i64 bi0.at_, .int .i64 bi0.nodes, .int .i64 bi0.fail, .int .i64 bi0.where_]) :: mdel m i0 ∧ ref14_parser_array_L1 N a1 (ref14_parser_value N D) k23 k bn9 bn1_items bi0 = some r) N ⟨y7.1, [], y7.2, ?_, ?_, h⟩ ?_
          · simp (disch := omega) only [vmE, liE, eE, seval, deE, fxE, retOf, maskA, setVals, getVals, putA, stripAt, AVal.strip, stripL, rd, hc18]
          · simp (disch := omega) only [vmE, liE, eE, seval, deE, fxE, retOf, maskA, setVals, getVals, putA, stripAt, AVal.strip, stripL, rd, hc18]
          · clear h
            rintro k27 _ ⟨m91, nL0_1⟩ ⟨bn9, bn1_items, bi0, rfl, hm, h⟩ J90 hJ90
            simp only [] at hm
            replace hm := hm.symm
            subst hm
            rcases k27 with _ | k27
            · simp only [ref14_parser_array_L1, reduceCtorEq] at h
            rw [ref14_parser_array_L1] at h
            refine AWp.known fun _ hkl => ?_
            simp only [] at hkl
            obtain ⟨_, hkl⟩ := keysLt_cons hkl
            obtain ⟨_, hkl⟩ := keysLt_cons hkl
            obtain ⟨_, hkl⟩ := keysLt_cons hkl
            obtain ⟨_, hkl⟩ := keysLt_cons hkl
            clear hkl
            refine AWp.congr (by simp (disch := omega) only [vmE, liE, eE, seval, deE, fxE, retOf, maskA, setVals, getVals, putA, stripAt, AVal.strip, stripL, rd]; rfl) ?_
            refine awp_seq_k ?_
            intro K28 hK28
            refine awp_seq_k ?_
            intro K29 hK29
            refine awp_region' [] ?_
            intro K30 hK30
            simp (disch := omega) only [vmE, liE, eE, seval, deE, fxE, retOf, maskA, setVals, getVals, putA, stripAt, AVal.strip, stripL, rd, hc18]
            refine hK30 _ _ (kPost_normal (hK29 _ _ ?_))
            replace h := ite_some h
            rcases h with ⟨hc31, h⟩ | ⟨hc31, h⟩
            · refine awp_cond_t rfl hc31 ?_
              refine awp_skip ?_
              refine kPost_normal (hK28 _ _ ?_)
              refine awp_block_k ?_
              intro K32 hK32
              refine awp_seq_k ?_
              intro K33 hK33
              replace h := joinK_some h
              rcases h with ⟨k35, hk35, h⟩
              refine awp_join [18, 19, 20, 21, 22, 23, 24, 25, 26] [] (fun vs st' => ∃ j34 : (List ApiValue) × Ref14Parser, vs = [] ∧ st'.m = (n9, [.int .i64 bn9.kind, .str bn9.text, .int .i64 bn9.at_]) :: ((n + 1), [.int .i64 6, .str [], .slice 1 (List.map AVal.str []) true, .slice 4 (List.map encApiValue j34.1) true]) :: (n, [.int .i64 0, .str [], .slice 1 (List.map AVal.str []) true, .slice 4 (List.map encApiValue []) true]) :: (i0, [.str j34.2.s, .int .i64 j34.2.at_, .int .i64 j34.2.nodes, .int .i64 j34.2.fail, .int .i64 j34.2.where_]) :: mdel m i0 ∧ k35 j34 = some r) hK33 ?_ ?_
              · clear h
                rintro _ ⟨m36, n37⟩ ⟨j34, rfl, hm, h⟩
                simp only [] at hm
                replace hm := hm.symm
                subst hm
                replace h := hk35 _ _ h
                clear hk35 k35
                refine AWp.known fun _ hkl => ?_
                simp only [] at hkl
                obtain ⟨_, hkl⟩ := keysLt_cons hkl
                obtain ⟨_, hkl⟩ := keysLt_cons hkl
                obtain ⟨_, hkl⟩ := keysLt_cons hkl
                obtain ⟨_, hkl⟩ := keysLt_cons hkl
                clear hkl
                refine AWp.congr (by simp (disch := omega) only [vmE, liE, eE, seval, deE, fxE, retOf, maskA, setVals, getVals, putA, stripAt, AVal.strip, stripL, rd]; rfl) ?_
                refine awp_seq_k ?_
                intro K44 hK44
                replace h := bind_some h
                rcases h with ⟨y46, hy47, h⟩
                refine awp_region' [] ?_
                intro K45 hK45
                simp (disch := omega) only [vmE, liE, eE, seval, deE, fxE, retOf, maskA, setVals, getVals, putA, stripAt, AVal.strip, stripL, rd, hc18, hc31]
                refine ACall.of (ref14_parser_next_w hy47 (i0 := i0) (by simp (disch := omega) only [vmE, liE, eE, seval, deE, fxE, retOf, maskA, setVals, getVals, putA, stripAt, AVal.strip, stripL, rd])) ?_ ?_
                · first | (simp (disch := omega) only [vmE, liE, eE, seval, deE, fxE, retOf, maskA, setVals, getVals, putA, stripAt, AVal.strip, stripL, rd, hc18, hc31]) | rfl
                rintro _ ⟨m49, n48⟩ hn48 ⟨rfl, hm⟩
                simp (disch := omega) only [vmE, liE, eE, seval] at hn48 hm
                replace hm := hm.symm
                subst hm
                simp (disch := omega) only [vmE, liE, eE, seval, deE, fxE, retOf, maskA, setVals, getVals, putA, stripAt, AVal.strip, stripL, rd, hc18, hc31]
                refine hK45 _ _ (kPost_normal (hK44 _ _ ?_))
                refine awp_seq_k ?_
                intro K50 hK50
                refine awp_seq_k ?_
                intro K51 hK51
                replace h := bind_some h
                rcases h with ⟨y53, hy54, h⟩
                refine awp_region' [] ?_
                intro K52 hK52
                simp (disch := omega) only [vmE, liE, eE, seval, deE, fxE, retOf, maskA, setVals, getVals, putA, stripAt, AVal.strip, stripL, rd, hc18, hc31]
                refine ACall.of (ref14_is_w hy54) ?_ ?_
                · first | (simp (disch := omega) only [vmE, liE, eE, seval, deE, fxE, retOf, maskA, setVals, getVals, putA, stripAt, AVal.strip, stripL, rd, hc18, hc31]) | rfl
                rintro _ ⟨m56, n55⟩ hn55 ⟨rfl, hm⟩
                simp (disch := omega) only [vmE, liE, eE, seval] at hn55 hm
                replace hm := hm.symm
                subst hm
                simp (disch := omega) only [vmE, liE, eE, seval, deE, fxE, retOf, maskA, setVals, getVals, putA, stripAt, AVal.strip, stripL, rd, hc18, hc31]
                refine hK52 _ _ (kPost_normal (hK51 _ _ ?_))
                replace h := ite_some h
                rcases h with ⟨hc57, h⟩ | ⟨hc57, h⟩
                · refine awp_cond_t rfl hc57 ?_
                  refine awp_seq_k ?_
                  intro K58 hK58
                  refine awp_region' [] ?_
                  intro K59 hK59
                  simp (disch := omega) only [vmE, liE, eE, seval, deE, fxE, retOf, maskA, setVals, getVals, putA, stripAt, AVal.strip, stripL, rd, hc18, hc31, hc57]
                  refine hK59 _ _ (kPost_normal (hK58 _ _ ?_))
                  refine awp_ret ?_
                  refine kPost_ret (bPost_ret (kPost_ret (bPost_ret (kPost_ret (hR _ _ _ (retPost_r (by simp (disch := omega) only [Try.results48, vmE, liE, eE, seval, deE, fxE, retOf, maskA, setVals, getVals, putA, stripAt, AVal.strip, stripL, rd, hc18, hc31, hc57]; rfl) (.cons _ (.cons _ (.cons _ (List.Sublist.refl _)))) ?_))))))
                  cases h
                  refine ⟨_, rfl, ?_, ?_⟩
                  · simp (disch := omega) only [vmE, liE, eE, seval, deE, fxE, retOf, maskA, setVals, getVals, putA, stripAt, AVal.strip, stripL, rd, hc18, hc31, hc57]
                  · simp (disch := omega) only [vmE, liE, eE, seval, deE, fxE, retOf, maskA, setVals, getVals, putA, stripAt, AVal.strip, stripL, rd, hc18, hc31, hc57]
                · refine awp_cond_f rfl hc57 ?_
                  refine awp_skip ?_
                  refine kPost_normal (hK50 _ _ ?_)
                  refine awp_seq_k ?_
                  intro K60 hK60
                  replace h := joinK_some h
                  rcases h with ⟨k62, hk62, h⟩
                  refine awp_join [32, 33, 34, 35, 36, 37, 38, 39, 40, 41, 42, 43, 44, 45] [] (fun vs st' => ∃ j61 : Ref14Parser, vs = [] ∧ st'.m = (n9, [.int .i64 y46.1.kind, .str y46.1.text, .int .i64 y46.1.at_]) :: ((n + 1), [.int .i64 6, .str [], .slice 1 (List.map AVal.str []) true, .slice 4 (List.map encApiValue j34.1) true]) :: (n, [.int .i64 0, .str [], .slice 1 (List.map AVal.str []) true, .slice 4 (List.map encApiValue []) true]) :: (i0, [.str j61.s, .int .i64 j61.at_, .int .i64 j61.nodes, .int .i64 j61.fail, .int .i64 j61.where_]) :: mdel m i0 ∧ k62 j61 = some r) hK60 ?_ ?_
                  · clear h
                    rintro _ ⟨m63, n64⟩ ⟨j61, rfl, hm, h⟩
                    simp only [] at hm
                    replace hm := hm.symm
                    subst hm
                    replace h := hk62 _ _ h
                    clear hk62 k62
                    refine AWp.known fun _ hkl => ?_
                    simp only [] at hkl
                    obtain ⟨_, hkl⟩ := keysLt_cons hkl
                    obtain ⟨_, hkl⟩ := keysLt_cons hkl
                    obtain ⟨_, hkl⟩ := keysLt_cons hkl
                    obtain ⟨_, hkl⟩ := keysLt_cons hkl
                    clear hkl
                    refine AWp.congr (by simp (disch := omega) only [vmE, liE, eE, seval, deE, fxE, retOf, maskA, setVals, getVals, putA, stripAt, AVal.strip, stripL, rd]; rfl) ?_
                    replace h := bind_some h
                    rcases h with ⟨y84, hy85, h⟩
                    refine awp_region' [] ?_
                    intro K83 hK83
                    simp (disch := omega) only [vmE, liE, eE, seval, deE, fxE, retOf, maskA, setVals, getVals, putA, stripAt, AVal.strip, stripL, rd, hc18, hc31, hc57]
                    refine ACall.of (ref14_parser_next_w hy85 (i0 := i0) (by simp (disch := omega) only [vmE, liE, eE, seval, deE, fxE, retOf, maskA, setVals, getVals, putA, stripAt, AVal.strip, stripL, rd])) ?_ ?_
                    · first | (simp (disch := omega) only [vmE, liE, eE, seval, deE, fxE, retOf, maskA, setVals, getVals, putA, stripAt, AVal.strip, stripL, rd, hc18, hc31, hc57]) | rfl
                    rintro _ ⟨m87, n86⟩ hn86 ⟨rfl, hm⟩
                    simp (disch := omega) only [vmE, liE, eE, seval] at hn86 hm
                    replace hm := hm.symm
                    subst hm
                    simp (disch := omega) only [vmE, liE, eE, seval, deE, fxE, retOf, maskA, setVals, getVals, putA, stripAt, AVal.strip, stripL, rd, hc18, hc31, hc57]
                    refine hK83 _ _ (bPost_normal (hK32 _ _ (kPost_normal (hJ90 k27 _ _ _ (Nat.lt_succ_self _) (List.Sublist.refl _) ?_ ⟨y84.1, j34.1, y84.2, ?_, ?_, h⟩)))) <;> simp (disch := omega) only [vmE, liE, eE, seval, deE, fxE, retOf, maskA, setVals, getVals, putA, stripAt, AVal.strip, stripL, rd, hc18, hc31, hc57]
                  · intro J88 hJ88
                    refine awp_seq_k ?_
                    intro K65 hK65
                    replace h := joinK_some h
                    rcases h with ⟨k67, hk67, h⟩
                    refine awp_join [32, 33, 34, 35, 36, 37, 38, 39, 40] [41] (fun vs st' => ∃ j66 : Bool, vs = [.bool j66] ∧ st'.m = (n9, [.int .i64 y46.1.kind, .str y46.1.text, .int .i64 y46.1.at_]) :: ((n + 1), [.int .i64 6, .str [], .slice 1 (List.map AVal.str []) true, .slice 4 (List.map encApiValue j34.1) true]) :: (n, [.int .i64 0, .str [], .slice 1 (List.map AVal.str []) true, .slice 4 (List.map encApiValue []) true]) :: (i0, [.str y46.2.s, .int .i64 y46.2.at_, .int .i64 y46.2.nodes, .int .i64 y46.2.fail, .int .i64 y46.2.where_]) :: mdel m i0 ∧ k67 j66 = some r) hK65 ?_ ?_
                    · clear h
                      rintro _ ⟨m68, n69⟩ ⟨j66, rfl, hm, h⟩
                      simp only [] at hm
                      replace hm := hm.symm
                      subst hm
                      replace h := hk67 _ _ h
                      clear hk67 k67
                      refine AWp.known fun _ hkl => ?_
                      simp only [] at hkl
                      obtain ⟨_, hkl⟩ := keysLt_cons hkl
                      obtain ⟨_, hkl⟩ := keysLt_cons hkl
                      obtain ⟨_, hkl⟩ := keysLt_cons hkl
                      obtain ⟨_, hkl⟩ := keysLt_cons hkl
                      clear hkl
                      refine AWp.congr (by simp (disch := omega) only [vmE, liE, eE, seval, deE, fxE, retOf, maskA, setVals, getVals, putA, stripAt, AVal.strip, stripL, rd]; rfl) ?_
                      replace h := ite_some h
                      rcases h with ⟨hc76, h⟩ | ⟨hc76, h⟩
                      · refine awp_cond_t rfl hc76 ?_
                        replace h := bind_some h
                        rcases h with ⟨y78, hy79, h⟩
                        refine awp_region' [] ?_
                        intro K77 hK77
                        simp (disch := omega) only [vmE, liE, eE, seval, deE, fxE, retOf, maskA, setVals, getVals, putA, stripAt, AVal.strip, stripL, rd, hc18, hc31, hc57, hc76]
                        refine ACall.of (ref14_parser_stop_w hy79 (i0 := i0) (by simp (disch := omega) only [vmE, liE, eE, seval, deE, fxE, retOf, maskA, setVals, getVals, putA, stripAt, AVal.strip, stripL, rd])) ?_ ?_
                        · first | (simp (disch := omega) only [vmE, liE, eE, seval, deE, fxE, retOf, maskA, setVals, getVals, putA, stripAt, AVal.strip, stripL, rd, hc18, hc31, hc57, hc76]) | rfl
                        rintro _ ⟨m81, n80⟩ hn80 ⟨rfl, hm⟩
                        simp (disch := omega) only [vmE, liE, eE, seval] at hn80 hm
                        replace hm := hm.symm
                        subst hm
                        simp (disch := omega) only [vmE, liE, eE, seval, deE, fxE, retOf, maskA, setVals, getVals, putA, stripAt, AVal.strip, stripL, rd, hc18, hc31, hc57, hc76]
                        refine hK77 _ _ (kPost_normal (hJ88 _ _ _ (List.Sublist.refl _) ?_ ⟨y78, ?_, ?_, h⟩)) <;> simp (disch := omega) only [vmE, liE, eE, seval, deE, fxE, retOf, maskA, setVals, getVals, putA, stripAt, AVal.strip, stripL, rd, hc18, hc31, hc57, hc76]
                      · refine awp_cond_f rfl hc76 ?_
                        refine awp_skip ?_
                        refine kPost_normal (hJ88 _ _ _ (List.Sublist.refl _) ?_ ⟨y46.2, ?_, ?_, h⟩) <;> simp (disch := omega) only [vmE, liE, eE, seval, deE, fxE, retOf, maskA, setVals, getVals, putA, stripAt, AVal.strip, stripL, rd, hc18, hc31, hc57, hc76]
                    · intro J82 hJ82
                      replace h := ite_some h
                      rcases h with ⟨hc71, h⟩ | ⟨hc71, h⟩
                      · replace h := bind_some h
                        rcases h with ⟨y72, hy73, h⟩
                        refine awp_region' [] ?_
                        intro K70 hK70
                        simp (disch := omega) only [vmE, liE, eE, seval, deE, fxE, retOf, maskA, setVals, getVals, putA, stripAt, AVal.strip, stripL, rd, hc18, hc31, hc57, hc71, hc71]
                        refine ACall.of (ref14_is_w hy73) ?_ ?_
                        · first | (simp (disch := omega) only [vmE, liE, eE, seval, deE, fxE, retOf, maskA, setVals, getVals, putA, stripAt, AVal.strip, stripL, rd, hc18, hc31, hc57, hc71, hc71]) | rfl
                        rintro _ ⟨m75, n74⟩ hn74 ⟨rfl, hm⟩
                        simp (disch := omega) only [vmE, liE, eE, seval] at hn74 hm
                        replace hm := hm.symm
                        subst hm
                        simp (disch := omega) only [vmE, liE, eE, seval, deE, fxE, retOf, maskA, setVals, getVals, putA, stripAt, AVal.strip, stripL, rd, hc18, hc31, hc57, hc71]
                        refine hK70 _ _ (kPost_normal (hJ82 _ _ _ (List.Sublist.refl _) ?_ ⟨(!y72), ?_, ?_, h⟩)) <;> simp (disch := omega) only [vmE, liE, eE, seval, deE, fxE, retOf, maskA, setVals, getVals, putA, stripAt, AVal.strip, stripL, rd, hc18, hc31, hc57, hc71]
                      · refine awp_region' [] ?_
                        intro K70 hK70
                        simp (disch := omega) only [vmE, liE, eE, seval, deE, fxE, retOf, maskA, setVals, getVals, putA, stripAt, AVal.strip, stripL, rd, hc18, hc31, hc57, hc71]
                        refine hK70 _ _ (kPost_normal (hJ82 _ _ _ (List.Sublist.refl _) ?_ ⟨false, ?_, ?_, h⟩)) <;> simp (disch := omega) only [vmE, liE, eE, seval, deE, fxE, retOf, maskA, setVals, getVals, putA, stripAt, AVal.strip, stripL, rd, hc18, hc31, hc57, hc71]
              · intro J89 hJ89
                replace h := bind_some h
                rcases h with ⟨y39, hy40, h⟩
                replace h := grd_some h
                rcases h with ⟨hg43, h⟩
                try simp only [liE, seval] at hg43
                refine awp_draw' [19] (.take 0 (.take 2 (.take 3 (.take 4 (.alt 1 [4, 3, 2] (.alt 5 [0] (.take 6 (.alt 7 [4, 3, 2, 0] (.take 8 (.alt 9 [] (.done) (.stop))) (.stop))) (.stop)) (.alt 5 [0] (.take 6 (.alt 1 [6, 4, 3, 2] (.alt 7 [4, 3, 2, 0] (.take 8 (.alt 9 [] (.done) (.stop))) (.stop)) (.stop))) (.stop))))))) vE_mixed (by kernel_rfl) ?_
                intro K38 hK38
                all_goals
                 simp (disch := omega) only [vmE, liE, eE, seval, deE, fxE, retOf, maskA, setVals, getVals, putA, stripAt, AVal.strip, stripL, rd, hc18, hc31, hg43]
                 repeat' apply And.intro
                 all_goals
                  refine ACall.of (ih_ref14_parser_value hy40 (i0 := i0) (by simp (disch := omega) only [vmE, liE, eE, seval, deE, fxE, retOf, maskA, setVals, getVals, putA, stripAt, AVal.strip, stripL, rd])) ?_ ?_
                  · first | (simp (disch := omega) only [vmE, liE, eE, seval, deE, fxE, retOf, maskA, setVals, getVals, putA, stripAt, AVal.strip, stripL, rd, hc18, hc31, hg43]) | rfl
                  rintro _ ⟨m42, n41⟩ hn41 ⟨rfl, hm⟩
                  simp (disch := omega) only [vmE, liE, eE, seval] at hn41 hm
                  replace hm := hm.symm
                  subst hm
                  simp (disch := omega) only [vmE, liE, eE, seval, deE, fxE, retOf, maskA, setVals, getVals, putA, stripAt, AVal.strip, stripL, rd, hc18, hc31, hg43]
                  refine hK38 _ _ (kPost_normal (hJ89 _ _ _ (List.Sublist.refl _) ?_ ⟨((bn1_items ++ [y39.1]), y39.2), ?_, ?_, h⟩)) <;> simp (disch := omega) only [vmE, liE, eE, seval, deE, fxE, retOf, maskA, setVals, getVals, putA, stripAt, AVal.strip, stripL, rd, hc18, hc31, hg43]
            · refine awp_cond_f rfl hc31 ?_
              refine awp_exit ?_
              refine kPost_exit (kPost_exit (bPost_here (hK26 _ _ (kPost_normal (hJ94 _ _ _ (List.Sublist.refl _) ?_ ⟨(bn9, bn1_items, bi0), ?_, ?_, h⟩))))) <;> simp (disch := omega) only [vmE, liE, eE, seval, deE, fxE, retOf, maskA, setVals, getVals, putA, stripAt, AVal.strip, stripL, rd, hc18, hc31]
    · intro a0 a1 r h n m i0 hi0
      rw [ref14_parser_object] at h
      refine ACall.strip ?_
      refine ACall.front hi0 ?_
      intro hin
      refine acall_k Try.func49 rfl ?_
      intro R hR
      refine AWp.congr (by simp only [Try.ntmps49, liE, seval]; rfl) ?_
      refine awp_seq_k ?_
      intro K1 hK1
      refine awp_region' [] ?_
      intro K2 hK2
      simp (disch := omega) only [vmE, liE, eE, seval, deE, fxE, retOf, maskA, setVals, getVals, putA, stripAt, AVal.strip, stripL, rd]
      refine hK2 _ _ (kPost_normal (hK1 _ _ ?_))
      refine awp_seq_k ?_
      intro K3 hK3
      refine awp_region' [] ?_
      intro K4 hK4
      simp (disch := omega) only [vmE, liE, eE, seval, deE, fxE, retOf, maskA, setVals, getVals, putA, stripAt, AVal.strip, stripL, rd]
      refine hK4 _ _ (kPost_normal (hK3 _ _ ?_))
      refine awp_seq_k ?_
      intro K5 hK5
      replace h := bind_some h
      rcases h with ⟨y7, hy8, h⟩
      refine awp_region' [] ?_
      intro K6 hK6
      simp (disch := omega) only [vmE, liE, eE, seval, deE, fxE, retOf, maskA, setVals, getVals, putA, stripAt, AVal.strip, stripL, rd]
      refine ACall.of (ref14_parser_next_w hy8 (i0 := i0) (by simp (disch := omega) only [vmE, liE, eE, seval, deE, fxE, retOf, maskA, setVals, getVals, putA, stripAt, AVal.strip, stripL, rd])) ?_ ?_
      · first | (simp (disch := omega) only [vmE, liE, eE, seval, deE, fxE, retOf, maskA, setVals, getVals, putA, stripAt, AVal.strip, stripL, rd]) | rfl
      rintro _ ⟨m10, n9⟩ hn9 ⟨rfl, hm⟩
      simp (disch := omega) only [vmE, liE, eE, seval] at hn9 hm
      replace hm := hm.symm
      subst hm
      simp (disch := omega) only [vmE, liE, eE, seval, deE, fxE, retOf, maskA, setVals, getVals, putA, stripAt, AVal.strip, stripL, rd]
      refine hK6 _ _ (kPost_normal (hK5 _ _ ?_))
      refine awp_seq_k ?_
      intro K11 hK11
      refine awp_seq_k ?_
      intro K12 hK12
      replace h := bind_some h
      rcases h with ⟨y14, hy15, h⟩
      refine awp_region' [] ?_
      intro K13 hK13
      simp (disch := omega) only [vmE, liE, eE, seval, deE, fxE, retOf, maskA, setVals, getVals, putA, stripAt, AVal.strip, stripL, rd]
      refine ACall.of (ref14_is_w hy15) ?_ ?_
      · first | (simp (disch := omega) only [vmE, liE, eE, seval, deE, fxE, retOf, maskA, setVals, getVals, putA, stripAt, AVal.strip, stripL, rd]) | rfl
      rintro _ ⟨m17, n16⟩ hn16 ⟨rfl, hm⟩
      simp (disch := omega) only [vmE, liE, eE, seval] at hn16 hm
      replace hm := hm.symm
      subst hm
      simp (disch := omega) only [vmE, liE, eE, seval, deE, fxE, retOf, maskA, setVals, getVals, putA, stripAt, AVal.strip, stripL, rd]
      refine hK13 _ _ (kPost_normal (hK12 _ _ ?_))
      replace h := ite_some h
      rcases h with ⟨hc18, h⟩ | ⟨hc18, h⟩
      · refine awp_cond_t rfl hc18 ?_
        refine awp_seq_k ?_
        intro K19 hK19
        refine awp_region' [] ?_
        intro K20 hK20
        simp (disch := omega) only [vmE, liE, eE, seval, deE, fxE, retOf, maskA, setVals, getVals, putA, stripAt, AVal.strip, stripL, rd, hc18]
        refine hK20 _ _ (kPost_normal (hK19 _ _ ?_))
        refine awp_ret ?_
        refine kPost_ret (hR _ _ _ (retPost_r (by simp (disch := omega) only [Try.results49, vmE, liE, eE, seval, deE, fxE, retOf, maskA, setVals, getVals, putA, stripAt, AVal.strip, stripL, rd, hc18]; rfl) (.cons _ (.cons _ (.cons _ (List.Sublist.refl _)))) ?_))
        cases h
        refine ⟨_, rfl, ?_, ?_⟩
        · simp (disch := omega) only [vmE, liE, eE, seval, deE, fxE, retOf, maskA, setVals, getVals, putA, stripAt, AVal.strip, stripL, rd, hc18]
        · simp (disch := omega) only [vmE, liE, eE, seval, deE, fxE, retOf, maskA, setVals, getVals, putA, stripAt, AVal.strip, stripL, rd, hc18]
      · refine awp_cond_f rfl hc18 ?_
        refine awp_skip ?_
        refine kPost_normal (hK11 _ _ ?_)
        refine awp_seq_k ?_
        intro K21 hK21
        replace h := joinK_some h
        rcases h with ⟨k23, hk23, h⟩
        refine awp_join [7, 8, 9, 10, 17, 18, 19, 20, 21, 22, 23, 24, 25, 26, 27, 28, 29, 30, 31, 32, 33, 34, 35, 36, 37, 38, 39, 40, 41, 42, 43, 44, 45, 46, 47, 48, 49, 50, 51, 52, 53, 54, 55, 56, 57, 58, 59, 60, 61, 62, 63, 64, 65, 66, 67, 68, 69, 70, 71, 72, 73, 74, 75, 76, 77, 78, 79, 80, 81, 82, 83, 84, 85, 86, 87, 88, 89, 90, 91, 92, 93, 94, 95, 96] [] (fun vs st' => ∃ j22 : ApiToken × (List (List UInt8)) × (List ApiValue) × Ref14Parser, vs = [] ∧ st'.m = (n9, [.int .i64 j22.1.kind, .str j22.1.text, .int .i64 j22.1.at_]) :: ((n + 1), [.int .i64 7, .str [], .slice 1 (List.map AVal.str j22.2.1) true, .slice 4 (List.map encApiValue j22.2.2.1) true]) :: (n, [.int .i64 0, .str [], .slice 1 (List.map AVal.str []) true, .slice 4 (List.map encApiValue []) true]) :: (i0, [.str j22.2.2.2.s, .int .i64 j22.2.2.2.at_, .int .i64 j22.2.2.2.nodes, .int .i64 j22.2.2.2.fail, .int .i64 j22.2.2.2.where_]) :: mdel m i0 ∧ k23 j22 = some r) hK21 ?_ ?_
        · clear h
          rintro _ ⟨m24, n25⟩ ⟨j22, rfl, hm, h⟩
          simp only [] at hm
          replace hm := hm.symm
          subst hm
          replace h := hk23 _ _ h
          clear hk23 k23
          refine AWp.known fun _ hkl => ?_
          simp only [] at hkl
          obtain ⟨_, hkl⟩ := keysLt_cons hkl
          obtain ⟨_, hkl⟩ := keysLt_cons hkl
          obtain ⟨_, hkl⟩ := keysLt_cons hkl
          obtain ⟨_, hkl⟩ := keysLt_cons hkl
          clear hkl
          refine AWp.congr (by simp (disch := omega) only [vmE, liE, eE, seval, deE, fxE, retOf, maskA, setVals, getVals, putA, stripAt, AVal.strip, stripL, rd]; rfl) ?_
          refine awp_seq_k ?_
          intro K160 hK160
          refine awp_region' [] ?_
          intro K161 hK161
          simp (disch := omega) only [vmE, liE, eE, seval, deE, fxE, retOf, maskA, setVals, getVals, putA, stripAt, AVal.strip, stripL, rd, hc18]
          refine hK161 _ _ (kPost_normal (hK160 _ _ ?_))
          refine awp_ret ?_
          refine hR _ _ _ (retPost_r (by simp (disch := omega) only [Try.results49, vmE, liE, eE, seval, deE, fxE, retOf, maskA, setVals, getVals, putA, stripAt, AVal.strip, stripL, rd, hc18]; rfl) (.cons _ (.cons _ (.cons _ (List.Sublist.refl _)))) ?_)
          cases h
          refine ⟨_, rfl, ?_, ?_⟩
          · simp (disch := omega) only [vmE, liE, eE, seval, deE, fxE, retOf, maskA, setVals, getVals, putA, stripAt, AVal.strip, stripL, rd, hc18]
          · simp (disch := omega) only [vmE, liE, eE, seval, deE, fxE, retOf, maskA, setVals, getVals, putA, stripAt, AVal.strip, stripL, rd, hc18]
        · intro J162 hJ162
          refine awp_block_k ?_
          intro K26 hK26
          refine awp_loop_v [7, 8, 9, 10, 17, 18, 19, 20, 21, 22, 23, 24, 25, 26, 27, 28, 29, 30, 31, 32, 33, 34, 35, 36, 37, 38, 39, 40, 41, 42, 43, 44, 45, 46, 47, 48, 49, 50, 51, 52, 53, 54, 55, 56, 57, 58, 59, 60, 61, 62, 63, 64, 65, 66, 67, 68, 69, 70, 71, 72, 73, 74, 75, 76, 77, 78, 79, 80, 81, 82, 83, 84, 85, 86, 87, 88, 89, 90, 91, 92, 93, 94, 95, 96] [] (fun k vs st' => ∃ (bn9 : ApiToken) (bn1_keys : (List (List UInt8))) (bn1_items : (List ApiValue)) (bi0 : Ref14Parser), vs = [] ∧ st'.m = (n9, [.int .i64 bn9.kind, .str bn9.text, .int .i64 bn9.at_]) :: ((n + 1), [.int .i64 7, .str [], .slice 1 (List.map AVal.str bn1_keys) true, .slice 4 (List.map encApiValue bn1_items) true]) :: (n, [.int .i64 0, .str [], .slice 1 (List.map AVal.str []) true, .slice 4 (List.map encApiValue []) true]) :: (i0, [.str bi0.s, .int .i64 bi0.at_, .int .i64 bi0.nodes, .int .i64 bi0.fail, .int .i64 bi0.where_]) :: mdel m i0 ∧ ref14_parser_object_L1 N a1 (ref14_parser_value N D) k23 k bn9 bn1_keys bn1_items bi0 = some r) N ⟨y7.1, [], [], y7.2, ?_, ?_, h⟩ ?_
          · simp (disch := omega) only [vmE, liE, eE, seval, deE, fxE, retOf, maskA, setVals, getVals, putA, stripAt, AVal.strip, stripL, rd, hc18]
          · simp (disch := omega) only [vmE, liE, eE, seval, deE, fxE, retOf, maskA, setVals, getVals, putA, stripAt, AVal.strip, stripL, rd, hc18]
          · clear h
            rintro k27 _ ⟨m159, nL0_1⟩ ⟨bn9, bn1_keys, bn1_items, bi0, rfl, hm, h⟩ J158 hJ158
            simp only [] at hm
            replace hm := hm.symm
            subst hm
            rcases k27 with _ | k27
            · simp only [ref14_parser_object_L1, reduceCtorEq] at h
            rw [ref14_parser_object_L1] at h
            refine AWp.known fun _ hkl => ?_
            simp only [] at hkl
            obtain ⟨_, hkl⟩ := keysLt_cons hkl
            obtain ⟨_, hkl⟩ := keysLt_cons hkl
            obtain ⟨_, hkl⟩ := keysLt_cons hkl
            obtain ⟨_, hkl⟩ := keysLt_cons hkl
            clear hkl
            refine AWp.congr (by simp (disch := omega) only [vmE, liE, eE, seval, deE, fxE, retOf, maskA, setVals, getVals, putA, stripAt, AVal.strip, stripL, rd]; rfl) ?_
            refine awp_seq_k ?_
            intro K28 hK28
            refine awp_seq_k ?_
            intro K29 hK29
            refine awp_region' [] ?_
            intro K30 hK30
            simp (disch := omega) only [vmE, liE, eE, seval, deE, fxE, retOf, maskA, setVals, getVals, putA, stripAt, AVal.strip, stripL, rd, hc18]
            refine hK30 _ _ (kPost_normal (hK29 _ _ ?_))
            replace h := ite_some h
            rcases h with ⟨hc31, h⟩ | ⟨hc31, h⟩
            · refine awp_cond_t rfl hc31 ?_
              refine awp_skip ?_
              refine kPost_normal (hK28 _ _ ?_)
              refine awp_block_k ?_
              intro K32 hK32
              refine awp_seq_k ?_
              intro K33 hK33
              replace h := joinK_some h
              rcases h with ⟨k35, hk35, h⟩
              refine awp_join [22, 23, 24, 25, 26, 27, 28] [] (fun vs st' => ∃ j34 : Ref14Parser, vs = [] ∧ st'.m = (n9, [.int .i64 bn9.kind, .str bn9.text, .int .i64 bn9.at_]) :: ((n + 1), [.int .i64 7, .str [], .slice 1 (List.map AVal.str bn1_keys) true, .slice 4 (List.map encApiValue bn1_items) true]) :: (n, [.int .i64 0, .str [], .slice 1 (List.map AVal.str []) true, .slice 4 (List.map encApiValue []) true]) :: (i0, [.str j34.s, .int .i64 j34.at_, .int .i64 j34.nodes, .int .i64 j34.fail, .int .i64 j34.where_]) :: mdel m i0 ∧ k35 j34 = some r) hK33 ?_ ?_
              · clear h
                rintro _ ⟨m36, n37⟩ ⟨j34, rfl, hm, h⟩
                simp only [] at hm
                replace hm := hm.symm
                subst hm
                replace h := hk35 _ _ h
                clear hk35 k35
                refine AWp.known fun _ hkl => ?_
                simp only [] at hkl
                obtain ⟨_, hkl⟩ := keysLt_cons hkl
                obtain ⟨_, hkl⟩ := keysLt_cons hkl
                obtain ⟨_, hkl⟩ := keysLt_cons hkl
                obtain ⟨_, hkl⟩ := keysLt_cons hkl
                clear hkl
                refine AWp.congr (by simp (disch := omega) only [vmE, liE, eE, seval, deE, fxE, retOf, maskA, setVals, getVals, putA, stripAt, AVal.strip, stripL, rd]; rfl) ?_
                refine awp_seq_k ?_
                intro K46 hK46
                replace h := joinK_some h
                rcases h with ⟨k48, hk48, h⟩
                refine awp_join [7, 8, 29, 30, 31, 32, 33, 34, 35, 36, 37, 38, 39, 40] [] (fun vs st' => ∃ j47 : Ref14Parser, vs = [] ∧ st'.m = (n9, [.int .i64 bn9.kind, .str bn9.text, .int .i64 bn9.at_]) :: ((n + 1), [.int .i64 7, .str [], .slice 1 (List.map AVal.str bn1_keys) true, .slice 4 (List.map encApiValue bn1_items) true]) :: (n, [.int .i64 0, .str [], .slice 1 (List.map AVal.str []) true, .slice 4 (List.map encApiValue []) true]) :: (i0, [.str j47.s, .int .i64 j47.at_, .int .i64 j47.nodes, .int .i64 j47.fail, .int .i64 j47.where_]) :: mdel m i0 ∧ k48 j47 = some r) hK46 ?_ ?_
                · clear h
                  rintro _ ⟨m49, n50⟩ ⟨j47, rfl, hm, h⟩
                  simp only [] at hm
                  replace hm := hm.symm
                  subst hm
                  replace h := hk48 _ _ h
                  clear hk48 k48
                  refine AWp.known fun _ hkl => ?_
                  simp only [] at hkl
                  obtain ⟨_, hkl⟩ := keysLt_cons hkl
                  obtain ⟨_, hkl⟩ := keysLt_cons hkl
                  obtain ⟨_, hkl⟩ := keysLt_cons hkl
                  obtain ⟨_, hkl⟩ := keysLt_cons hkl
                  clear hkl
                  refine AWp.congr (by simp (disch := omega) only [vmE, liE, eE, seval, deE, fxE, retOf, maskA, setVals, getVals, putA, stripAt, AVal.strip, stripL, rd]; rfl) ?_
                  refine awp_seq_k ?_
                  intro K65 hK65
                  refine awp_region' [] ?_
                  intro K66 hK66
                  simp (disch := omega) only [vmE, liE, eE, seval, deE, fxE, retOf, maskA, setVals, getVals, putA, stripAt, AVal.strip, stripL, rd, hc18, hc31]
                  refine hK66 _ _ (kPost_normal (hK65 _ _ ?_))
                  refine awp_seq_k ?_
                  intro K67 hK67
                  replace h := joinK_some h
                  rcases h with ⟨k69, hk69, h⟩
                  refine awp_join [43, 44, 45, 46, 47, 48, 49, 50, 51, 52, 53, 54, 55, 56, 57, 58] [] (fun vs st' => ∃ j68 : ApiToken × Ref14Parser, vs = [] ∧ st'.m = (n9, [.int .i64 j68.1.kind, .str j68.1.text, .int .i64 j68.1.at_]) :: ((n + 1), [.int .i64 7, .str [], .slice 1 (List.map AVal.str bn1_keys) true, .slice 4 (List.map encApiValue bn1_items) true]) :: (n, [.int .i64 0, .str [], .slice 1 (List.map AVal.str []) true, .slice 4 (List.map encApiValue []) true]) :: (i0, [.str j68.2.s, .int .i64 j68.2.at_, .int .i64 j68.2.nodes, .int .i64 j68.2.fail, .int .i64 j68.2.where_]) :: mdel m i0 ∧ k69 j68 = some r) hK67 ?_ ?_
                  · clear h
                    rintro _ ⟨m70, n71⟩ ⟨j68, rfl, hm, h⟩
                    simp only [] at hm
                    replace hm := hm.symm
                    subst hm
                    replace h := hk69 _ _ h
                    clear hk69 k69
                    refine AWp.known fun _ hkl => ?_
                    simp only [] at hkl
                    obtain ⟨_, hkl⟩ := keysLt_cons hkl
                    obtain ⟨_, hkl⟩ := keysLt_cons hkl
                    obtain ⟨_, hkl⟩ := keysLt_cons hkl
                    obtain ⟨_, hkl⟩ := keysLt_cons hkl
                    clear hkl
                    refine AWp.congr (by simp (disch := omega) only [vmE, liE, eE, seval, deE, fxE, retOf, maskA, setVals, getVals, putA, stripAt, AVal.strip, stripL, rd]; rfl) ?_
                    refine awp_seq_k ?_
                    intro K96 hK96
                    replace h := bind_some h
                    rcases h with ⟨y98, hy99, h⟩
                    replace h := bind_some h
                    rcases h with ⟨y102, hy103, h⟩
                    refine awp_region' [] ?_
                    intro K97 hK97
                    simp (disch := omega) only [vmE, liE, eE, seval, deE, fxE, retOf, maskA, setVals, getVals, putA, stripAt, AVal.strip, stripL, rd, hc18, hc31]
                    refine ACall.of (ref14_parser_next_w hy99 (i0 := i0) (by simp (disch := omega) only [vmE, liE, eE, seval, deE, fxE, retOf, maskA, setVals, getVals, putA, stripAt, AVal.strip, stripL, rd])) ?_ ?_
                    · first | (simp (disch := omega) only [vmE, liE, eE, seval, deE, fxE, retOf, maskA, setVals, getVals, putA, stripAt, AVal.strip, stripL, rd, hc18, hc31]) | rfl
                    rintro _ ⟨m101, n100⟩ hn100 ⟨rfl, hm⟩
                    simp (disch := omega) only [vmE, liE, eE, seval] at hn100 hm
                    replace hm := hm.symm
                    subst hm
                    simp (disch := omega) only [vmE, liE, eE, seval, deE, fxE, retOf, maskA, setVals, getVals, putA, stripAt, AVal.strip, stripL, rd, hc18, hc31]
                    refine ACall.of (ih_ref14_parser_value hy103 (i0 := i0) (by simp (disch := omega) only [vmE, liE, eE, seval, deE, fxE, retOf, maskA, setVals, getVals, putA, stripAt, AVal.strip, stripL, rd])) ?_ ?_
                    · first | (simp (disch := omega) only [vmE, liE, eE, seval, deE, fxE, retOf, maskA, setVals, getVals, putA, stripAt, AVal.strip, stripL, rd, hc18, hc31]) | rfl
                    rintro _ ⟨m105, n104⟩ hn104 ⟨rfl, hm⟩
                    simp (disch := omega) only [vmE, liE, eE, seval] at hn104 hm
                    replace hm := hm.symm
                    subst hm
                    simp (disch := omega) only [vmE, liE, eE, seval, deE, fxE, retOf, maskA, setVals, getVals, putA, stripAt, AVal.strip, stripL, rd, hc18, hc31]
                    refine hK97 _ _ (kPost_normal (hK96 _ _ ?_))
                    refine awp_seq_k ?_
                    intro K106 hK106
                    replace h := grd_some h
                    rcases h with ⟨hg108, h⟩
                    try simp only [liE, seval] at hg108
                    replace h := grd_some h
                    rcases h with ⟨hg109, h⟩
                    try simp only [liE, seval] at hg109
                    refine awp_draw' [65, 70] (.take 0 (.take 2 (.take 3 (.take 5 (.take 7 (.take 8 (.alt 1 [8, 7, 5, 3, 2] (.alt 4 [8, 7, 5, 2, 0] (.alt 6 [8, 7, 3, 2, 0] (.take 10 (.alt 9 [10, 7, 5, 3, 2, 0] (.alt 11 [8, 7] (.take 12 (.alt 13 [] (.done) (.stop))) (.stop)) (.stop))) (.stop)) (.alt 6 [8, 7, 3, 2, 0] (.alt 4 [8, 7, 5, 2, 0] (.take 10 (.alt 9 [10, 7, 5, 3, 2, 0] (.alt 11 [8, 7] (.take 12 (.alt 13 [] (.done) (.stop))) (.stop)) (.stop))) (.stop)) (.stop))) (.alt 6 [8, 7, 3, 2, 0] (.alt 1 [8, 7, 5, 3, 2] (.alt 4 [8, 7, 5, 2, 0] (.take 10 (.alt 9 [10, 7, 5, 3, 2, 0] (.alt 11 [8, 7] (.take 12 (.alt 13 [] (.done) (.stop))) (.stop)) (.stop))) (.stop)) (.stop)) (.stop))))))))) vE_mixed (by kernel_rfl) ?_
                    intro K107 hK107
                    simp (disch := omega) only [vmE, liE, eE, seval, deE, fxE, retOf, maskA, setVals, getVals, putA, stripAt, AVal.strip, stripL, rd, hc18, hc31, hg108, hg109]
                    refine hK107 _ _ (kPost_normal (hK106 _ _ ?_))
                    refine awp_seq_k ?_
                    intro K110 hK110
                    replace h := bind_some h
                    rcases h with ⟨y112, hy113, h⟩
                    refine awp_region' [] ?_
                    intro K111 hK111
                    simp (disch := omega) only [vmE, liE, eE, seval, deE, fxE, retOf, maskA, setVals, getVals, putA, stripAt, AVal.strip, stripL, rd, hc18, hc31, hg108, hg109]
                    refine ACall.of (ref14_parser_next_w hy113 (i0 := i0) (by simp (disch := omega) only [vmE, liE, eE, seval, deE, fxE, retOf, maskA, setVals, getVals, putA, stripAt, AVal.strip, stripL, rd])) ?_ ?_
                    · first | (simp (disch := omega) only [vmE, liE, eE, seval, deE, fxE, retOf, maskA, setVals, getVals, putA, stripAt, AVal.strip, stripL, rd, hc18, hc31, hg108, hg109]) | rfl
                    rintro _ ⟨m115, n114⟩ hn114 ⟨rfl, hm⟩
                    simp (disch := omega) only [vmE, liE, eE, seval] at hn114 hm
                    replace hm := hm.symm
                    subst hm
                    simp (disch := omega) only [vmE, liE, eE, seval, deE, fxE, retOf, maskA, setVals, getVals, putA, stripAt, AVal.strip, stripL, rd, hc18, hc31, hg108, hg109]
                    refine hK111 _ _ (kPost_normal (hK110 _ _ ?_))
                    refine awp_seq_k ?_
                    intro K116 hK116
                    refine awp_seq_k ?_
                    intro K117 hK117
                    replace h := bind_some h
                    rcases h with ⟨y119, hy120, h⟩
                    refine awp_region' [] ?_
                    intro K118 hK118
                    simp (disch := omega) only [vmE, liE, eE, seval, deE, fxE, retOf, maskA, setVals, getVals, putA, stripAt, AVal.strip, stripL, rd, hc18, hc31, hg108, hg109]
                    refine ACall.of (ref14_is_w hy120) ?_ ?_
                    · first | (simp (disch := omega) only [vmE, liE, eE, seval, deE, fxE, retOf, maskA, setVals, getVals, putA, stripAt, AVal.strip, stripL, rd, hc18, hc31, hg108, hg109]) | rfl
                    rintro _ ⟨m122, n121⟩ hn121 ⟨rfl, hm⟩
                    simp (disch := omega) only [vmE, liE, eE, seval] at hn121 hm
                    replace hm := hm.symm
                    subst hm
                    simp (disch := omega) only [vmE, liE, eE, seval, deE, fxE, retOf, maskA, setVals, getVals, putA, stripAt, AVal.strip, stripL, rd, hc18, hc31, hg108, hg109]
                    refine hK118 _ _ (kPost_normal (hK117 _ _ ?_))
                    replace h := ite_some h
                    rcases h with ⟨hc123, h⟩ | ⟨hc123, h⟩
                    · refine awp_cond_t rfl hc123 ?_
                      refine awp_seq_k ?_
                      intro K124 hK124
                      refine awp_region' [] ?_
                      intro K125 hK125
                      simp (disch := omega) only [vmE, liE, eE, seval, deE, fxE, retOf, maskA, setVals, getVals, putA, stripAt, AVal.strip, stripL, rd, hc18, hc31, hg108, hg109, hc123]
                      refine hK125 _ _ (kPost_normal (hK124 _ _ ?_))
                      refine awp_ret ?_
                      refine kPost_ret (bPost_ret (kPost_ret (bPost_ret (kPost_ret (hR _ _ _ (retPost_r (by simp (disch := omega) only [Try.results49, vmE, liE, eE, seval, deE, fxE, retOf, maskA, setVals, getVals, putA, stripAt, AVal.strip, stripL, rd, hc18, hc31, hg108, hg109, hc123]; rfl) (.cons _ (.cons _ (.cons _ (.cons _ (List.Sublist.refl _))))) ?_))))))
                      cases h
                      refine ⟨_, rfl, ?_, ?_⟩
                      · simp (disch := omega) only [vmE, liE, eE, seval, deE, fxE, retOf, maskA, setVals, getVals, putA, stripAt, AVal.strip, stripL, rd, hc18, hc31, hg108, hg109, hc123]
                      · simp (disch := omega) only [vmE, liE, eE, seval, deE, fxE, retOf, maskA, setVals, getVals, putA, stripAt, AVal.strip, stripL, rd, hc18, hc31, hg108, hg109, hc123]
                    · refine awp_cond_f rfl hc123 ?_
                      refine awp_skip ?_
                      refine kPost_normal (hK116 _ _ ?_)
                      refine awp_seq_k ?_
                      intro K126 hK126
                      replace h := joinK_some h
                      rcases h with ⟨k128, hk128, h⟩
                      refine awp_join [81, 82, 83, 84, 85, 86, 87, 88, 89, 90, 91, 92, 93, 94] [] (fun vs st' => ∃ j127 : Ref14Parser, vs = [] ∧ st'.m = (n104, [.int .i64 y102.1.kind, .str y102.1.text, .slice 1 (List.map AVal.str y102.1.keys) false, .slice 4 (List.map encApiValue y102.1.items) false]) :: (n9, [.int .i64 y112.1.kind, .str y112.1.text, .int .i64 y112.1.at_]) :: ((n + 1), [.int .i64 7, .str [], .slice 1 (List.map AVal.str (bn1_keys ++ [bn9.text])) true, .slice 4 (List.map encApiValue (bn1_items ++ [y102.1])) true]) :: (n, [.int .i64 0, .str [], .slice 1 (List.map AVal.str []) true, .slice 4 (List.map encApiValue []) true]) :: (i0, [.str j127.s, .int .i64 j127.at_, .int .i64 j127.nodes, .int .i64 j127.fail, .int .i64 j127.where_]) :: mdel m i0 ∧ k128 j127 = some r) hK126 ?_ ?_
                      · clear h
                        rintro _ ⟨m129, n130⟩ ⟨j127, rfl, hm, h⟩
                        simp only [] at hm
                        replace hm := hm.symm
                        subst hm
                        replace h := hk128 _ _ h
                        clear hk128 k128
                        refine AWp.known fun _ hkl => ?_
                        simp only [] at hkl
                        obtain ⟨_, hkl⟩ := keysLt_cons hkl
                        obtain ⟨_, hkl⟩ := keysLt_cons hkl
                        obtain ⟨_, hkl⟩ := keysLt_cons hkl
                        obtain ⟨_, hkl⟩ := keysLt_cons hkl
                        obtain ⟨_, hkl⟩ := keysLt_cons hkl
                        clear hkl
                        refine AWp.congr (by simp (disch := omega) only [vmE, liE, eE, seval, deE, fxE, retOf, maskA, setVals, getVals, putA, stripAt, AVal.strip, stripL, rd]; rfl) ?_
                        replace h := bind_some h
                        rcases h with ⟨y150, hy151, h⟩
                        refine awp_region' [] ?_
                        intro K149 hK149
                        simp (disch := omega) only [vmE, liE, eE, seval, deE, fxE, retOf, maskA, setVals, getVals, putA, stripAt, AVal.strip, stripL, rd, hc18, hc31, hg108, hg109, hc123]
                        refine ACall.of (ref14_parser_next_w hy151 (i0 := i0) (by simp (disch := omega) only [vmE, liE, eE, seval, deE, fxE, retOf, maskA, setVals, getVals, putA, stripAt, AVal.strip, stripL, rd])) ?_ ?_
                        · first | (simp (disch := omega) only [vmE, liE, eE, seval, deE, fxE, retOf, maskA, setVals, getVals, putA, stripAt, AVal.strip, stripL, rd, hc18, hc31, hg108, hg109, hc123]) | rfl
                        rintro _ ⟨m153, n152⟩ hn152 ⟨rfl, hm⟩
                        simp (disch := omega) only [vmE, liE, eE, seval] at hn152 hm
                        replace hm := hm.symm
                        subst hm
                        simp (disch := omega) only [vmE, liE, eE, seval, deE, fxE, retOf, maskA, setVals, getVals, putA, stripAt, AVal.strip, stripL, rd, hc18, hc31, hg108, hg109, hc123]
                        refine hK149 _ _ (bPost_normal (hK32 _ _ (kPost_normal (hJ158 k27 _ _ _ (Nat.lt_succ_self _) (.cons _ (List.Sublist.refl _)) ?_ ⟨y150.1, (bn1_keys ++ [bn9.text]), (bn1_items ++ [y102.1]), y150.2, ?_, ?_, h⟩)))) <;> simp (disch := omega) only [vmE, liE, eE, seval, deE, fxE, retOf, maskA, setVals, getVals, putA, stripAt, AVal.strip, stripL, rd, hc18, hc31, hg108, hg109, hc123]
                      · intro J154 hJ154
                        refine awp_seq_k ?_
                        intro K131 hK131
                        replace h := joinK_some h
                        rcases h with ⟨k133, hk133, h⟩
                        refine awp_join [81, 82, 83, 84, 85, 86, 87, 88, 89] [90] (fun vs st' => ∃ j132 : Bool, vs = [.bool j132] ∧ st'.m = (n104, [.int .i64 y102.1.kind, .str y102.1.text, .slice 1 (List.map AVal.str y102.1.keys) false, .slice 4 (List.map encApiValue y102.1.items) false]) :: (n9, [.int .i64 y112.1.kind, .str y112.1.text, .int .i64 y112.1.at_]) :: ((n + 1), [.int .i64 7, .str [], .slice 1 (List.map AVal.str (bn1_keys ++ [bn9.text])) true, .slice 4 (List.map encApiValue (bn1_items ++ [y102.1])) true]) :: (n, [.int .i64 0, .str [], .slice 1 (List.map AVal.str []) true, .slice 4 (List.map encApiValue []) true]) :: (i0, [.str y112.2.s, .int .i64 y112.2.at_, .int .i64 y112.2.nodes, .int .i64 y112.2.fail, .int .i64 y112.2.where_]) :: mdel m i0 ∧ k133 j132 = some r) hK131 ?_ ?_
                        · clear h
                          rintro _ ⟨m134, n135⟩ ⟨j132, rfl, hm, h⟩
                          simp only [] at hm
                          replace hm := hm.symm
                          subst hm
                          replace h := hk133 _ _ h
                          clear hk133 k133
                          refine AWp.known fun _ hkl => ?_
                          simp only [] at hkl
                          obtain ⟨_, hkl⟩ := keysLt_cons hkl
                          obtain ⟨_, hkl⟩ := keysLt_cons hkl
                          obtain ⟨_, hkl⟩ := keysLt_cons hkl
                          obtain ⟨_, hkl⟩ := keysLt_cons hkl
                          obtain ⟨_, hkl⟩ := keysLt_cons hkl
                          clear hkl
                          refine AWp.congr (by simp (disch := omega) only [vmE, liE, eE, seval, deE, fxE, retOf, maskA, setVals, getVals, putA, stripAt, AVal.strip, stripL, rd]; rfl) ?_
                          replace h := ite_some h
                          rcases h with ⟨hc142, h⟩ | ⟨hc142, h⟩
                          · refine awp_cond_t rfl hc142 ?_
                            replace h := bind_some h
                            rcases h with ⟨y144, hy145, h⟩
                            refine awp_region' [] ?_
                            intro K143 hK143
                            simp (disch := omega) only [vmE, liE, eE, seval, deE, fxE, retOf, maskA, setVals, getVals, putA, stripAt, AVal.strip, stripL, rd, hc18, hc31, hg108, hg109, hc123, hc142]
                            refine ACall.of (ref14_parser_stop_w hy145 (i0 := i0) (by simp (disch := omega) only [vmE, liE, eE, seval, deE, fxE, retOf, maskA, setVals, getVals, putA, stripAt, AVal.strip, stripL, rd])) ?_ ?_
                            · first | (simp (disch := omega) only [vmE, liE, eE, seval, deE, fxE, retOf, maskA, setVals, getVals, putA, stripAt, AVal.strip, stripL, rd, hc18, hc31, hg108, hg109, hc123, hc142]) | rfl
                            rintro _ ⟨m147, n146⟩ hn146 ⟨rfl, hm⟩
                            simp (disch := omega) only [vmE, liE, eE, seval] at hn146 hm
                            replace hm := hm.symm
                            subst hm
                            simp (disch := omega) only [vmE, liE, eE, seval, deE, fxE, retOf, maskA, setVals, getVals, putA, stripAt, AVal.strip, stripL, rd, hc18, hc31, hg108, hg109, hc123, hc142]
                            refine hK143 _ _ (kPost_normal (hJ154 _ _ _ (List.Sublist.refl _) ?_ ⟨y144, ?_, ?_, h⟩)) <;> simp (disch := omega) only [vmE, liE, eE, seval, deE, fxE, retOf, maskA, setVals, getVals, putA, stripAt, AVal.strip, stripL, rd, hc18, hc31, hg108, hg109, hc123, hc142]
                          · refine awp_cond_f rfl hc142 ?_
                            refine awp_skip ?_
                            refine kPost_normal (hJ154 _ _ _ (List.Sublist.refl _) ?_ ⟨y112.2, ?_, ?_, h⟩) <;> simp (disch := omega) only [vmE, liE, eE, seval, deE, fxE, retOf, maskA, setVals, getVals, putA, stripAt, AVal.strip, stripL, rd, hc18, hc31, hg108, hg109, hc123, hc142]
                        · intro J148 hJ148
                          replace h := ite_some h
                          rcases h with ⟨hc137, h⟩ | ⟨hc137, h⟩
                          · replace h := bind_some h
                            rcases h with ⟨y138, hy139, h⟩
                            refine awp_region' [] ?_
                            intro K136 hK136
                            simp (disch := omega) only [vmE, liE, eE, seval, deE, fxE, retOf, maskA, setVals, getVals, putA, stripAt, AVal.strip, stripL, rd, hc18, hc31, hg108, hg109, hc123, hc137, hc137]
                            refine ACall.of (ref14_is_w hy139) ?_ ?_
                            · first | (simp (disch := omega) only [vmE, liE, eE, seval, deE, fxE, retOf, maskA, setVals, getVals, putA, stripAt, AVal.strip, stripL, rd, hc18, hc31, hg108, hg109, hc123, hc137, hc137]) | rfl
                            rintro _ ⟨m141, n140⟩ hn140 ⟨rfl, hm⟩
                            simp (disch := omega) only [vmE, liE, eE, seval] at hn140 hm
                            replace hm := hm.symm
                            subst hm
                            simp (disch := omega) only [vmE, liE, eE, seval, deE, fxE, retOf, maskA, setVals, getVals, putA, stripAt, AVal.strip, stripL, rd, hc18, hc31, hg108, hg109, hc123, hc137]
                            refine hK136 _ _ (kPost_normal (hJ148 _ _ _ (List.Sublist.refl _) ?_ ⟨(!y138), ?_, ?_, h⟩)) <;> simp (disch := omega) only [vmE, liE, eE, seval, deE, fxE, retOf, maskA, setVals, getVals, putA, stripAt, AVal.strip, stripL, rd, hc18, hc31, hg108, hg109, hc123, hc137]
                          · refine awp_region' [] ?_
                            intro K136 hK136
                            simp (disch := omega) only [vmE, liE, eE, seval, deE, fxE, retOf, maskA, setVals, getVals, putA, stripAt, AVal.strip, stripL, rd, hc18, hc31, hg108, hg109, hc123, hc137]
                            refine hK136 _ _ (kPost_normal (hJ148 _ _ _ (List.Sublist.refl _) ?_ ⟨false, ?_, ?_, h⟩)) <;> simp (disch := omega) only [vmE, liE, eE, seval, deE, fxE, retOf, maskA, setVals, getVals, putA, stripAt, AVal.strip, stripL, rd, hc18, hc31, hg108, hg109, hc123, hc137]
                  · intro J155 hJ155
                    refine awp_seq_k ?_
                    intro K72 hK72
                    replace h := bind_some h
                    rcases h with ⟨y74, hy75, h⟩
                    refine awp_region' [] ?_
                    intro K73 hK73
                    simp (disch := omega) only [vmE, liE, eE, seval, deE, fxE, retOf, maskA, setVals, getVals, putA, stripAt, AVal.strip, stripL, rd, hc18, hc31]
                    refine ACall.of (ref14_parser_next_w hy75 (i0 := i0) (by simp (disch := omega) only [vmE, liE, eE, seval, deE, fxE, retOf, maskA, setVals, getVals, putA, stripAt, AVal.strip, stripL, rd])) ?_ ?_
                    · first | (simp (disch := omega) only [vmE, liE, eE, seval, deE, fxE, retOf, maskA, setVals, getVals, putA, stripAt, AVal.strip, stripL, rd, hc18, hc31]) | rfl
                    rintro _ ⟨m77, n76⟩ hn76 ⟨rfl, hm⟩
                    simp (disch := omega) only [vmE, liE, eE, seval] at hn76 hm
                    replace hm := hm.symm
                    subst hm
                    simp (disch := omega) only [vmE, liE, eE, seval, deE, fxE, retOf, maskA, setVals, getVals, putA, stripAt, AVal.strip, stripL, rd, hc18, hc31]
                    refine hK73 _ _ (kPost_normal (hK72 _ _ ?_))
                    refine awp_seq_k ?_
                    intro K78 hK78
                    replace h := joinK_some h
                    rcases h with ⟨k80, hk80, h⟩
                    refine awp_join [45, 46, 47, 48, 49, 50, 51, 52, 53] [54] (fun vs st' => ∃ j79 : Bool, vs = [.bool j79] ∧ st'.m = (n9, [.int .i64 y74.1.kind, .str y74.1.text, .int .i64 y74.1.at_]) :: ((n + 1), [.int .i64 7, .str [], .slice 1 (List.map AVal.str bn1_keys) true, .slice 4 (List.map encApiValue bn1_items) true]) :: (n, [.int .i64 0, .str [], .slice 1 (List.map AVal.str []) true, .slice 4 (List.map encApiValue []) true]) :: (i0, [.str y74.2.s, .int .i64 y74.2.at_, .int .i64 y74.2.nodes, .int .i64 y74.2.fail, .int .i64 y74.2.where_]) :: mdel m i0 ∧ k80 j79 = some r) hK78 ?_ ?_
                    · clear h
                      rintro _ ⟨m81, n82⟩ ⟨j79, rfl, hm, h⟩
                      simp only [] at hm
                      replace hm := hm.symm
                      subst hm
                      replace h := hk80 _ _ h
                      clear hk80 k80
                      refine AWp.known fun _ hkl => ?_
                      simp only [] at hkl
                      obtain ⟨_, hkl⟩ := keysLt_cons hkl
                      obtain ⟨_, hkl⟩ := keysLt_cons hkl
                      obtain ⟨_, hkl⟩ := keysLt_cons hkl
                      obtain ⟨_, hkl⟩ := keysLt_cons hkl
                      clear hkl
                      refine AWp.congr (by simp (disch := omega) only [vmE, liE, eE, seval, deE, fxE, retOf, maskA, setVals, getVals, putA, stripAt, AVal.strip, stripL, rd]; rfl) ?_
                      replace h := ite_some h
                      rcases h with ⟨hc89, h⟩ | ⟨hc89, h⟩
                      · refine awp_cond_t rfl hc89 ?_
                        replace h := bind_some h
                        rcases h with ⟨y91, hy92, h⟩
                        refine awp_region' [] ?_
                        intro K90 hK90
                        simp (disch := omega) only [vmE, liE, eE, seval, deE, fxE, retOf, maskA, setVals, getVals, putA, stripAt, AVal.strip, stripL, rd, hc18, hc31, hc89]
                        refine ACall.of (ref14_parser_stop_w hy92 (i0 := i0) (by simp (disch := omega) only [vmE, liE, eE, seval, deE, fxE, retOf, maskA, setVals, getVals, putA, stripAt, AVal.strip, stripL, rd])) ?_ ?_
                        · first | (simp (disch := omega) only [vmE, liE, eE, seval, deE, fxE, retOf, maskA, setVals, getVals, putA, stripAt, AVal.strip, stripL, rd, hc18, hc31, hc89]) | rfl
                        rintro _ ⟨m94, n93⟩ hn93 ⟨rfl, hm⟩
                        simp (disch := omega) only [vmE, liE, eE, seval] at hn93 hm
                        replace hm := hm.symm
                        subst hm
                        simp (disch := omega) only [vmE, liE, eE, seval, deE, fxE, retOf, maskA, setVals, getVals, putA, stripAt, AVal.strip, stripL, rd, hc18, hc31, hc89]
                        refine hK90 _ _ (kPost_normal (hJ155 _ _ _ (List.Sublist.refl _) ?_ ⟨(y74.1, y91), ?_, ?_, h⟩)) <;> simp (disch := omega) only [vmE, liE, eE, seval, deE, fxE, retOf, maskA, setVals, getVals, putA, stripAt, AVal.strip, stripL, rd, hc18, hc31, hc89]
                      · refine awp_cond_f rfl hc89 ?_
                        refine awp_skip ?_
                        refine kPost_normal (hJ155 _ _ _ (List.Sublist.refl _) ?_ ⟨(y74.1, y74.2), ?_, ?_, h⟩) <;> simp (disch := omega) only [vmE, liE, eE, seval, deE, fxE, retOf, maskA, setVals, getVals, putA, stripAt, AVal.strip, stripL, rd, hc18, hc31, hc89]
                    · intro J95 hJ95
                      replace h := ite_some h
                      rcases h with ⟨hc84, h⟩ | ⟨hc84, h⟩
                      · replace h := bind_some h
                        rcases h with ⟨y85, hy86, h⟩
                        refine awp_region' [] ?_
                        intro K83 hK83
                        simp (disch := omega) only [vmE, liE, eE, seval, deE, fxE, retOf, maskA, setVals, getVals, putA, stripAt, AVal.strip, stripL, rd, hc18, hc31, hc84, hc84]
                        refine ACall.of (ref14_is_w hy86) ?_ ?_
                        · first | (simp (disch := omega) only [vmE, liE, eE, seval, deE, fxE, retOf, maskA, setVals, getVals, putA, stripAt, AVal.strip, stripL, rd, hc18, hc31, hc84, hc84]) | rfl
                        rintro _ ⟨m88, n87⟩ hn87 ⟨rfl, hm⟩
                        simp (disch := omega) only [vmE, liE, eE, seval] at hn87 hm
                        replace hm := hm.symm
                        subst hm
                        simp (disch := omega) only [vmE, liE, eE, seval, deE, fxE, retOf, maskA, setVals, getVals, putA, stripAt, AVal.strip, stripL, rd, hc18, hc31, hc84]
                        refine hK83 _ _ (kPost_normal (hJ95 _ _ _ (List.Sublist.refl _) ?_ ⟨(!y85), ?_, ?_, h⟩)) <;> simp (disch := omega) only [vmE, liE, eE, seval, deE, fxE, retOf, maskA, setVals, getVals, putA, stripAt, AVal.strip, stripL, rd, hc18, hc31, hc84]
                      · refine awp_region' [] ?_
                        intro K83 hK83
                        simp (disch := omega) only [vmE, liE, eE, seval, deE, fxE, retOf, maskA, setVals, getVals, putA, stripAt, AVal.strip, stripL, rd, hc18, hc31, hc84]
                        refine hK83 _ _ (kPost_normal (hJ95 _ _ _ (List.Sublist.refl _) ?_ ⟨false, ?_, ?_, h⟩)) <;> simp (disch := omega) only [vmE, liE, eE, seval, deE, fxE, retOf, maskA, setVals, getVals, putA, stripAt, AVal.strip, stripL, rd, hc18, hc31, hc84]
                · intro J156 hJ156
                  refine awp_seq_k ?_
                  intro K51 hK51
                  replace h := bind_some h
                  rcases h with ⟨y53, hy54, h⟩
                  refine awp_region' [] ?_
                  intro K52 hK52
                  simp (disch := omega) only [vmE, liE, eE, seval, deE, fxE, retOf, maskA, setVals, getVals, putA, stripAt, AVal.strip, stripL, rd, hc18, hc31]
                  refine ACall.of (ref14_Get_w hy54) ?_ ?_
                  · first | (simp (disch := omega) only [vmE, liE, eE, seval, deE, fxE, retOf, maskA, setVals, getVals, putA, stripAt, AVal.strip, stripL, rd, hc18, hc31]) | rfl
                  rintro _ ⟨m56, n55⟩ hn55 ⟨rfl, hm⟩
                  simp (disch := omega) only [vmE, liE, eE, seval] at hn55 hm
                  replace hm := hm.symm
                  subst hm
                  simp (disch := omega) only [vmE, liE, eE, seval, deE, fxE, retOf, maskA, setVals, getVals, putA, stripAt, AVal.strip, stripL, rd, hc18, hc31]
                  refine hK52 _ _ (kPost_normal (hK51 _ _ ?_))
                  refine awp_seq_k ?_
                  intro K57 hK57
                  refine awp_region' [] ?_
                  intro K58 hK58
                  simp (disch := omega) only [vmE, liE, eE, seval, deE, fxE, retOf, maskA, setVals, getVals, putA, stripAt, AVal.strip, stripL, rd, hc18, hc31]
                  refine hK58 _ _ (kPost_normal (hK57 _ _ ?_))
                  replace h := ite_some h
                  rcases h with ⟨hc59, h⟩ | ⟨hc59, h⟩
                  · refine awp_cond_t rfl hc59 ?_
                    replace h := bind_some h
                    rcases h with ⟨y61, hy62, h⟩
                    refine awp_region' [] ?_
                    intro K60 hK60
                    simp (disch := omega) only [vmE, liE, eE, seval, deE, fxE, retOf, maskA, setVals, getVals, putA, stripAt, AVal.strip, stripL, rd, hc18, hc31, hc59]
                    refine ACall.of (ref14_parser_stop_w hy62 (i0 := i0) (by simp (disch := omega) only [vmE, liE, eE, seval, deE, fxE, retOf, maskA, setVals, getVals, putA, stripAt, AVal.strip, stripL, rd])) ?_ ?_
                    · first | (simp (disch := omega) only [vmE, liE, eE, seval, deE, fxE, retOf, maskA, setVals, getVals, putA, stripAt, AVal.strip, stripL, rd, hc18, hc31, hc59]) | rfl
                    rintro _ ⟨m64, n63⟩ hn63 ⟨rfl, hm⟩
                    simp (disch := omega) only [vmE, liE, eE, seval] at hn63 hm
                    replace hm := hm.symm
                    subst hm
                    simp (disch := omega) only [vmE, liE, eE, seval, deE, fxE, retOf, maskA, setVals, getVals, putA, stripAt, AVal.strip, stripL, rd, hc18, hc31, hc59]
                    refine hK60 _ _ (kPost_normal (hJ156 _ _ _ (.cons _ (List.Sublist.refl _)) ?_ ⟨y61, ?_, ?_, h⟩)) <;> simp (disch := omega) only [vmE, liE, eE, seval, deE, fxE, retOf, maskA, setVals, getVals, putA, stripAt, AVal.strip, stripL, rd, hc18, hc31, hc59]
                  · refine awp_cond_f rfl hc59 ?_
                    refine awp_skip ?_
                    refine kPost_normal (hJ156 _ _ _ (.cons _ (List.Sublist.refl _)) ?_ ⟨j34, ?_, ?_, h⟩) <;> simp (disch := omega) only [vmE, liE, eE, seval, deE, fxE, retOf, maskA, setVals, getVals, putA, stripAt, AVal.strip, stripL, rd, hc18, hc31, hc59]
              · intro J157 hJ157
                refine awp_seq_k ?_
                intro K38 hK38
                refine awp_region' [] ?_
                intro K39 hK39
                simp (disch := omega) only [vmE, liE, eE, seval, deE, fxE, retOf, maskA, setVals, getVals, putA, stripAt, AVal.strip, stripL, rd, hc18, hc31]
                refine hK39 _ _ (kPost_normal (hK38 _ _ ?_))
                replace h := ite_some h
                rcases h with ⟨hc40, h⟩ | ⟨hc40, h⟩
                · refine awp_cond_t rfl hc40 ?_
                  replace h := bind_some h
                  rcases h with ⟨y42, hy43, h⟩
                  refine awp_region' [] ?_
                  intro K41 hK41
                  simp (disch := omega) only [vmE, liE, eE, seval, deE, fxE, retOf, maskA, setVals, getVals, putA, stripAt, AVal.strip, stripL, rd, hc18, hc31, hc40]
                  refine ACall.of (ref14_parser_stop_w hy43 (i0 := i0) (by simp (disch := omega) only [vmE, liE, eE, seval, deE, fxE, retOf, maskA, setVals, getVals, putA, stripAt, AVal.strip, stripL, rd])) ?_ ?_
                  · first | (simp (disch := omega) only [vmE, liE, eE, seval, deE, fxE, retOf, maskA, setVals, getVals, putA, stripAt, AVal.strip, stripL, rd, hc18, hc31, hc40]) | rfl
                  rintro _ ⟨m45, n44⟩ hn44 ⟨rfl, hm⟩
                  simp (disch := omega) only [vmE, liE, eE, seval] at hn44 hm
                  replace hm := hm.symm
                  subst hm
                  simp (disch := omega) only [vmE, liE, eE, seval, deE, fxE, retOf, maskA, setVals, getVals, putA, stripAt, AVal.strip, stripL, rd, hc18, hc31, hc40]
                  refine hK41 _ _ (kPost_normal (hJ157 _ _ _ (List.Sublist.refl _) ?_ ⟨y42, ?_, ?_, h⟩)) <;> simp (disch := omega) only [vmE, liE, eE, seval, deE, fxE, retOf, maskA, setVals, getVals, putA, stripAt, AVal.strip, stripL, rd, hc18, hc31, hc40]
                · refine awp_cond_f rfl hc40 ?_
                  refine awp_skip ?_
                  refine kPost_normal (hJ157 _ _ _ (List.Sublist.refl _) ?_ ⟨bi0, ?_, ?_, h⟩) <;> simp (disch := omega) only [vmE, liE, eE, seval, deE, fxE, retOf, maskA, setVals, getVals, putA, stripAt, AVal.strip, stripL, rd, hc18, hc31, hc40]
            · refine awp_cond_f rfl hc31 ?_
              refine awp_exit ?_
              refine kPost_exit (kPost_exit (bPost_here (hK26 _ _ (kPost_normal (hJ162 _ _ _ (List.Sublist.refl _) ?_ ⟨(bn9, bn1_keys, bn1_items, bi0), ?_, ?_, h⟩))))) <;> simp (disch := omega) only [vmE, liE, eE, seval, deE, fxE, retOf, maskA, setVals, getVals, putA, stripAt, AVal.strip, stripL, rd, hc18, hc31]
    · intro a0 a1 a2 r h n m i0 hi0
      rw [ref14_parser_value] at h
      refine ACall.strip ?_
      refine ACall.front hi0 ?_
      intro hin
      refine acall_k Try.func23 rfl ?_
      intro R hR
      refine AWp.congr (by simp only [Try.ntmps23, liE, seval]; rfl) ?_
      refine awp_seq_k ?_
      intro K1 hK1
      refine awp_region' [] ?_
      intro K2 hK2
      simp (disch := omega) only [vmE, liE, eE, seval, deE, fxE, retOf, maskA, setVals, getVals, putA, stripAt, AVal.strip, stripL, rd]
      refine hK2 _ _ (kPost_normal (hK1 _ _ ?_))
      refine awp_seq_k ?_
      intro K3 hK3
      replace h := joinK_some h
      rcases h with ⟨k5, hk5, h⟩
      refine awp_join [11, 12, 13, 14, 15, 16, 17, 18, 19, 20, 21, 22, 23, 24, 25, 26, 27, 28, 29, 30, 31] [7] (fun vs st' => ∃ j4 : Bool, vs = [.bool j4] ∧ st'.m = ((n + 1), [.int .i64 0, .str [], .slice 1 (List.map AVal.str []) true, .slice 4 (List.map encApiValue []) true]) :: (n, [.int .i64 a1.kind, .str a1.text, .int .i64 a1.at_]) :: (i0, [.str a0.s, .int .i64 a0.at_, .int .i64 a0.nodes, .int .i64 a0.fail, .int .i64 a0.where_]) :: mdel m i0 ∧ k5 j4 = some r) hK3 ?_ ?_
      · clear h
        rintro _ ⟨m6, n7⟩ ⟨j4, rfl, hm, h⟩
        simp only [] at hm
        replace hm := hm.symm
        subst hm
        replace h := hk5 _ _ h
        clear hk5 k5
        refine AWp.known fun _ hkl => ?_
        simp only [] at hkl
        obtain ⟨_, hkl⟩ := keysLt_cons hkl
        obtain ⟨_, hkl⟩ := keysLt_cons hkl
        obtain ⟨_, hkl⟩ := keysLt_cons hkl
        clear hkl
        refine AWp.congr (by simp (disch := omega) only [vmE, liE, eE, seval, deE, fxE, retOf, maskA, setVals, getVals, putA, stripAt, AVal.strip, stripL, rd]; rfl) ?_
        refine awp_seq_k ?_
        intro K21 hK21
        refine awp_seq_k ?_
        intro K22 hK22
        refine awp_region' [] ?_
        intro K23 hK23
        simp (disch := omega) only [vmE, liE, eE, seval, deE, fxE, retOf, maskA, setVals, getVals, putA, stripAt, AVal.strip, stripL, rd]
        refine hK23 _ _ (kPost_normal (hK22 _ _ ?_))
        replace h := ite_some h
        rcases h with ⟨hc24, h⟩ | ⟨hc24, h⟩
        · refine awp_cond_t rfl hc24 ?_
          refine awp_seq_k ?_
          intro K25 hK25
          refine awp_region' [] ?_
          intro K26 hK26
          simp (disch := omega) only [vmE, liE, eE, seval, deE, fxE, retOf, maskA, setVals, getVals, putA, stripAt, AVal.strip, stripL, rd, hc24]
          refine hK26 _ _ (kPost_normal (hK25 _ _ ?_))
          refine awp_ret ?_
          refine kPost_ret (hR _ _ _ (retPost_r (by simp (disch := omega) only [Try.results23, vmE, liE, eE, seval, deE, fxE, retOf, maskA, setVals, getVals, putA, stripAt, AVal.strip, stripL, rd, hc24]; rfl) (.cons _ (.cons _ (List.Sublist.refl _))) ?_))
          cases h
          refine ⟨_, rfl, ?_, ?_⟩
          · simp (disch := omega) only [vmE, liE, eE, seval, deE, fxE, retOf, maskA, setVals, getVals, putA, stripAt, AVal.strip, stripL, rd, hc24]
          · simp (disch := omega) only [vmE, liE, eE, seval, deE, fxE, retOf, maskA, setVals, getVals, putA, stripAt, AVal.strip, stripL, rd, hc24]
        · refine awp_cond_f rfl hc24 ?_
          refine awp_skip ?_
          refine kPost_normal (hK21 _ _ ?_)
          refine awp_seq_k ?_
          intro K27 hK27
          refine awp_seq_k ?_
          intro K28 hK28
          refine awp_region' [] ?_
          intro K29 hK29
          simp (disch := omega) only [vmE, liE, eE, seval, deE, fxE, retOf, maskA, setVals, getVals, putA, stripAt, AVal.strip, stripL, rd, hc24]
          refine hK29 _ _ (kPost_normal (hK28 _ _ ?_))
          replace h := ite_some h
          rcases h with ⟨hc30, h⟩ | ⟨hc30, h⟩
          · refine awp_cond_f rfl (by simp only [liE, hc24, hc30]) ?_
            refine awp_skip ?_
            refine kPost_normal (hK27 _ _ ?_)
            refine awp_seq_k ?_
            intro K31 hK31
            refine awp_seq_k ?_
            intro K32 hK32
            replace h := joinK_some h
            rcases h with ⟨k34, hk34, h⟩
            refine awp_join [45, 46, 47, 48, 49, 50] [51] (fun vs st' => ∃ j33 : Bool, vs = [.bool j33] ∧ st'.m = ((n + 1), [.int .i64 0, .str [], .slice 1 (List.map AVal.str []) true, .slice 4 (List.map encApiValue []) true]) :: (n, [.int .i64 a1.kind, .str a1.text, .int .i64 a1.at_]) :: (i0, [.str a0.s, .int .i64 a0.at_, .int .i64 a0.nodes, .int .i64 a0.fail, .int .i64 a0.where_]) :: mdel m i0 ∧ k34 j33 = some r) hK32 ?_ ?_
            · clear h
              rintro _ ⟨m35, n36⟩ ⟨j33, rfl, hm, h⟩
              simp only [] at hm
              replace hm := hm.symm
              subst hm
              replace h := hk34 _ _ h
              clear hk34 k34
              refine AWp.known fun _ hkl => ?_
              simp only [] at hkl
              obtain ⟨_, hkl⟩ := keysLt_cons hkl
              obtain ⟨_, hkl⟩ := keysLt_cons hkl
              obtain ⟨_, hkl⟩ := keysLt_cons hkl
              clear hkl
              refine AWp.congr (by simp (disch := omega) only [vmE, liE, eE, seval, deE, fxE, retOf, maskA, setVals, getVals, putA, stripAt, AVal.strip, stripL, rd]; rfl) ?_
              replace h := ite_some h
              rcases h with ⟨hc39, h⟩ | ⟨hc39, h⟩
              · refine awp_cond_t rfl hc39 ?_
                refine awp_seq_k ?_
                intro K40 hK40
                replace h := bind_some h
                rcases h with ⟨y42, hy43, h⟩
                refine awp_region' [] ?_
                intro K41 hK41
                simp (disch := omega) only [vmE, liE, eE, seval, deE, fxE, retOf, maskA, setVals, getVals, putA, stripAt, AVal.strip, stripL, rd, hc24, hc30, hc39]
                refine ACall.of (ref14_parser_stop_w hy43 (i0 := i0) (by simp (disch := omega) only [vmE, liE, eE, seval, deE, fxE, retOf, maskA, setVals, getVals, putA, stripAt, AVal.strip, stripL, rd])) ?_ ?_
                · first | (simp (disch := omega) only [vmE, liE, eE, seval, deE, fxE, retOf, maskA, setVals, getVals, putA, stripAt, AVal.strip, stripL, rd, hc24, hc30, hc39]) | rfl
                rintro _ ⟨m45, n44⟩ hn44 ⟨rfl, hm⟩
                simp (disch := omega) only [vmE, liE, eE, seval] at hn44 hm
                replace hm := hm.symm
                subst hm
                simp (disch := omega) only [vmE, liE, eE, seval, deE, fxE, retOf, maskA, setVals, getVals, putA, stripAt, AVal.strip, stripL, rd, hc24, hc30, hc39]
                refine hK41 _ _ (kPost_normal (hK40 _ _ ?_))
                refine awp_seq_k ?_
                intro K46 hK46
                refine awp_region' [] ?_
                intro K47 hK47
                simp (disch := omega) only [vmE, liE, eE, seval, deE, fxE, retOf, maskA, setVals, getVals, putA, stripAt, AVal.strip, stripL, rd, hc24, hc30, hc39]
                refine hK47 _ _ (kPost_normal (hK46 _ _ ?_))
                refine awp_ret ?_
                refine kPost_ret (hR _ _ _ (retPost_r (by simp (disch := omega) only [Try.results23, vmE, liE, eE, seval, deE, fxE, retOf, maskA, setVals, getVals, putA, stripAt, AVal.strip, stripL, rd, hc24, hc30, hc39]; rfl) (.cons _ (.cons _ (List.Sublist.refl _))) ?_))
                cases h
                refine ⟨_, rfl, ?_, ?_⟩
                · simp (disch := omega) only [vmE, liE, eE, seval, deE, fxE, retOf, maskA, setVals, getVals, putA, stripAt, AVal.strip, stripL, rd, hc24, hc30, hc39]
                · simp (disch := omega) only [vmE, liE, eE, seval, deE, fxE, retOf, maskA, setVals, getVals, putA, stripAt, AVal.strip, stripL, rd, hc24, hc30, hc39]
              · refine awp_cond_f rfl hc39 ?_
                refine awp_skip ?_
                refine kPost_normal (hK31 _ _ ?_)
                refine awp_seq_k ?_
                intro K48 hK48
                refine awp_region' [] ?_
                intro K49 hK49
                simp (disch := omega) only [vmE, liE, eE, seval, deE, fxE, retOf, maskA, setVals, getVals, putA, stripAt, AVal.strip, stripL, rd, hc24, hc30, hc39]
                refine hK49 _ _ (kPost_normal (hK48 _ _ ?_))
                refine awp_seq_k ?_
                intro K50 hK50
                replace h := joinK_some h
                rcases h with ⟨k52, hk52, h⟩
                refine awp_join [9, 10, 60, 61, 62, 63, 64, 65, 66, 67, 68, 69, 70, 71, 72, 73, 74, 75, 76, 77] [] (fun vs st' => ∃ j51 : Int × (List UInt8) × Ref14Parser, vs = [] ∧ st'.m = (n36, [.int .i64 j51.1, .str j51.2.1, .slice 1 (List.map AVal.str []) true, .slice 4 (List.map encApiValue []) true]) :: ((n + 1), [.int .i64 0, .str [], .slice 1 (List.map AVal.str []) true, .slice 4 (List.map encApiValue []) true]) :: (n, [.int .i64 a1.kind, .str a1.text, .int .i64 a1.at_]) :: (i0, [.str j51.2.2.s, .int .i64 j51.2.2.at_, .int .i64 j51.2.2.nodes, .int .i64 j51.2.2.fail, .int .i64 j51.2.2.where_]) :: mdel m i0 ∧ k52 j51 = some r) hK50 ?_ ?_
                · clear h
                  rintro _ ⟨m53, n54⟩ ⟨j51, rfl, hm, h⟩
                  simp only [] at hm
                  replace hm := hm.symm
                  subst hm
                  replace h := hk52 _ _ h
                  clear hk52 k52
                  refine AWp.known fun _ hkl => ?_
                  simp only [] at hkl
                  obtain ⟨_, hkl⟩ := keysLt_cons hkl
                  obtain ⟨_, hkl⟩ := keysLt_cons hkl
                  obtain ⟨_, hkl⟩ := keysLt_cons hkl
                  obtain ⟨_, hkl⟩ := keysLt_cons hkl
                  clear hkl
                  refine AWp.congr (by simp (disch := omega) only [vmE, liE, eE, seval, deE, fxE, retOf, maskA, setVals, getVals, putA, stripAt, AVal.strip, stripL, rd]; rfl) ?_
                  refine awp_seq_k ?_
                  intro K79 hK79
                  replace h := joinK_some h
                  rcases h with ⟨k81, hk81, h⟩
                  refine awp_join [78, 79, 80, 81, 82, 83, 84, 85, 86, 87, 88, 89, 90, 91, 92, 93] [] (fun vs st' => ∃ j80 : (List UInt8) × Int × Int × Int × Int, vs = [] ∧ st'.m = (n36, [.int .i64 j51.1, .str j51.2.1, .slice 1 (List.map AVal.str []) true, .slice 4 (List.map encApiValue []) true]) :: ((n + 1), [.int .i64 0, .str [], .slice 1 (List.map AVal.str []) true, .slice 4 (List.map encApiValue []) true]) :: (n, [.int .i64 a1.kind, .str a1.text, .int .i64 a1.at_]) :: (i0, [.str j80.1, .int .i64 j80.2.1, .int .i64 j80.2.2.1, .int .i64 j80.2.2.2.1, .int .i64 j80.2.2.2.2]) :: mdel m i0 ∧ k81 j80 = some r) hK79 ?_ ?_
                  · clear h
                    rintro _ ⟨m82, n83⟩ ⟨j80, rfl, hm, h⟩
                    simp only [] at hm
                    replace hm := hm.symm
                    subst hm
                    replace h := hk81 _ _ h
                    clear hk81 k81
                    refine AWp.known fun _ hkl => ?_
                    simp only [] at hkl
                    obtain ⟨_, hkl⟩ := keysLt_cons hkl
                    obtain ⟨_, hkl⟩ := keysLt_cons hkl
                    obtain ⟨_, hkl⟩ := keysLt_cons hkl
                    obtain ⟨_, hkl⟩ := keysLt_cons hkl
                    clear hkl
                    refine AWp.congr (by simp (disch := omega) only [vmE, liE, eE, seval, deE, fxE, retOf, maskA, setVals, getVals, putA, stripAt, AVal.strip, stripL, rd]; rfl) ?_
                    refine awp_seq_k ?_
                    intro K94 hK94
                    refine awp_block_k ?_
                    intro K95 hK95
                    refine awp_seq_k ?_
                    intro K96 hK96
                    refine awp_region' [] ?_
                    intro K97 hK97
                    simp (disch := omega) only [vmE, liE, eE, seval, deE, fxE, retOf, maskA, setVals, getVals, putA, stripAt, AVal.strip, stripL, rd, hc24, hc30, hc39]
                    refine hK97 _ _ (kPost_normal (hK96 _ _ ?_))
                    replace h := ite_some h
                    rcases h with ⟨hc98, h⟩ | ⟨hc98, h⟩
                    · refine awp_cond_t rfl hc98 ?_
                      refine awp_seq_k ?_
                      intro K99 hK99
                      replace h := bind_some h
                      rcases h with ⟨y101, hy102, h⟩
                      refine awp_region' [] ?_
                      intro K100 hK100
                      simp (disch := omega) only [vmE, liE, eE, seval, deE, fxE, retOf, maskA, setVals, getVals, putA, stripAt, AVal.strip, stripL, rd, hc24, hc30, hc39, hc98]
                      refine ACall.of (ref14_word_w hy102) ?_ ?_
                      · first | (simp (disch := omega) only [vmE, liE, eE, seval, deE, fxE, retOf, maskA, setVals, getVals, putA, stripAt, AVal.strip, stripL, rd, hc24, hc30, hc39, hc98]) | rfl
                      rintro _ ⟨m104, n103⟩ hn103 ⟨rfl, hm⟩
                      simp (disch := omega) only [vmE, liE, eE, seval] at hn103 hm
                      replace hm := hm.symm
                      subst hm
                      simp (disch := omega) only [vmE, liE, eE, seval, deE, fxE, retOf, maskA, setVals, getVals, putA, stripAt, AVal.strip, stripL, rd, hc24, hc30, hc39, hc98]
                      refine hK100 _ _ (kPost_normal (hK99 _ _ ?_))
                      refine awp_ret ?_
                      refine bPost_ret (kPost_ret (hR _ _ _ (retPost_r (by simp (disch := omega) only [Try.results23, vmE, liE, eE, seval, deE, fxE, retOf, maskA, setVals, getVals, putA, stripAt, AVal.strip, stripL, rd, hc24, hc30, hc39, hc98]; rfl) (.cons _ (.cons _ (.cons _ (List.Sublist.refl _)))) ?_)))
                      cases h
                      refine ⟨_, rfl, ?_, ?_⟩
                      · simp (disch := omega) only [vmE, liE, eE, seval, deE, fxE, retOf, maskA, setVals, getVals, putA, stripAt, AVal.strip, stripL, rd, hc24, hc30, hc39, hc98]
                      · simp (disch := omega) only [vmE, liE, eE, seval, deE, fxE, retOf, maskA, setVals, getVals, putA, stripAt, AVal.strip, stripL, rd, hc24, hc30, hc39, hc98]
                    · refine awp_cond_f rfl hc98 ?_
                      refine awp_seq_k ?_
                      intro K105 hK105
                      replace h := bind_some h
                      rcases h with ⟨y107, hy108, h⟩
                      refine awp_region' [] ?_
                      intro K106 hK106
                      simp (disch := omega) only [vmE, liE, eE, seval, deE, fxE, retOf, maskA, setVals, getVals, putA, stripAt, AVal.strip, stripL, rd, hc24, hc30, hc39, hc98]
                      refine ACall.of (ref14_is_w hy108) ?_ ?_
                      · first | (simp (disch := omega) only [vmE, liE, eE, seval, deE, fxE, retOf, maskA, setVals, getVals, putA, stripAt, AVal.strip, stripL, rd, hc24, hc30, hc39, hc98]) | rfl
                      rintro _ ⟨m110, n109⟩ hn109 ⟨rfl, hm⟩
                      simp (disch := omega) only [vmE, liE, eE, seval] at hn109 hm
                      replace hm := hm.symm
                      subst hm
                      simp (disch := omega) only [vmE, liE, eE, seval, deE, fxE, retOf, maskA, setVals, getVals, putA, stripAt, AVal.strip, stripL, rd, hc24, hc30, hc39, hc98]
                      refine hK106 _ _ (kPost_normal (hK105 _ _ ?_))
                      replace h := ite_some h
                      rcases h with ⟨hc111, h⟩ | ⟨hc111, h⟩
                      · refine awp_cond_t rfl hc111 ?_
                        refine awp_seq_k ?_
                        intro K112 hK112
                        replace h := bind_some h
                        rcases h with ⟨y114, hy115, h⟩
                        refine awp_region' [] ?_
                        intro K113 hK113
                        simp (disch := omega) only [vmE, liE, eE, seval, deE, fxE, retOf, maskA, setVals, getVals, putA, stripAt, AVal.strip, stripL, rd, hc24, hc30, hc39, hc98, hc111]
                        refine ACall.of (ih_ref14_parser_array hy115 (i0 := i0) (by simp (disch := omega) only [vmE, liE, eE, seval, deE, fxE, retOf, maskA, setVals, getVals, putA, stripAt, AVal.strip, stripL, rd])) ?_ ?_
                        · first | (simp (disch := omega) only [vmE, liE, eE, seval, deE, fxE, retOf, maskA, setVals, getVals, putA, stripAt, AVal.strip, stripL, rd, hc24, hc30, hc39, hc98, hc111]) | rfl
                        rintro _ ⟨m117, n116⟩ hn116 ⟨rfl, hm⟩
                        simp (disch := omega) only [vmE, liE, eE, seval] at hn116 hm
                        replace hm := hm.symm
                        subst hm
                        simp (disch := omega) only [vmE, liE, eE, seval, deE, fxE, retOf, maskA, setVals, getVals, putA, stripAt, AVal.strip, stripL, rd, hc24, hc30, hc39, hc98, hc111]
                        refine hK113 _ _ (kPost_normal (hK112 _ _ ?_))
                        refine awp_ret ?_
                        refine bPost_ret (kPost_ret (hR _ _ _ (retPost_r (by simp (disch := omega) only [Try.results23, vmE, liE, eE, seval, deE, fxE, retOf, maskA, setVals, getVals, putA, stripAt, AVal.strip, stripL, rd, hc24, hc30, hc39, hc98, hc111]; rfl) (.cons _ (.cons _ (.cons _ (List.Sublist.refl _)))) ?_)))
                        cases h
                        refine ⟨_, rfl, ?_, ?_⟩
                        · simp (disch := omega) only [vmE, liE, eE, seval, deE, fxE, retOf, maskA, setVals, getVals, putA, stripAt, AVal.strip, stripL, rd, hc24, hc30, hc39, hc98, hc111]
                        · simp (disch := omega) only [vmE, liE, eE, seval, deE, fxE, retOf, maskA, setVals, getVals, putA, stripAt, AVal.strip, stripL, rd, hc24, hc30, hc39, hc98, hc111]
                      · refine awp_cond_f rfl hc111 ?_
                        refine awp_seq_k ?_
                        intro K118 hK118
                        replace h := bind_some h
                        rcases h with ⟨y120, hy121, h⟩
                        refine awp_region' [] ?_
                        intro K119 hK119
                        simp (disch := omega) only [vmE, liE, eE, seval, deE, fxE, retOf, maskA, setVals, getVals, putA, stripAt, AVal.strip, stripL, rd, hc24, hc30, hc39, hc98, hc111]
                        refine ACall.of (ref14_is_w hy121) ?_ ?_
                        · first | (simp (disch := omega) only [vmE, liE, eE, seval, deE, fxE, retOf, maskA, setVals, getVals, putA, stripAt, AVal.strip, stripL, rd, hc24, hc30, hc39, hc98, hc111]) | rfl
                        rintro _ ⟨m123, n122⟩ hn122 ⟨rfl, hm⟩
                        simp (disch := omega) only [vmE, liE, eE, seval] at hn122 hm
                        replace hm := hm.symm
                        subst hm
                        simp (disch := omega) only [vmE, liE, eE, seval, deE, fxE, retOf, maskA, setVals, getVals, putA, stripAt, AVal.strip, stripL, rd, hc24, hc30, hc39, hc98, hc111]
                        refine hK119 _ _ (kPost_normal (hK118 _ _ ?_))
                        replace h := ite_some h
                        rcases h with ⟨hc124, h⟩ | ⟨hc124, h⟩
                        · refine awp_cond_t rfl hc124 ?_
                          refine awp_seq_k ?_
                          intro K125 hK125
                          replace h := bind_some h
                          rcases h with ⟨y127, hy128, h⟩
                          refine awp_region' [] ?_
                          intro K126 hK126
                          simp (disch := omega) only [vmE, liE, eE, seval, deE, fxE, retOf, maskA, setVals, getVals, putA, stripAt, AVal.strip, stripL, rd, hc24, hc30, hc39, hc98, hc111, hc124]
                          refine ACall.of (ih_ref14_parser_object hy128 (i0 := i0) (by simp (disch := omega) only [vmE, liE, eE, seval, deE, fxE, retOf, maskA, setVals, getVals, putA, stripAt, AVal.strip, stripL, rd])) ?_ ?_
                          · first | (simp (disch := omega) only [vmE, liE, eE, seval, deE, fxE, retOf, maskA, setVals, getVals, putA, stripAt, AVal.strip, stripL, rd, hc24, hc30, hc39, hc98, hc111, hc124]) | rfl
                          rintro _ ⟨m130, n129⟩ hn129 ⟨rfl, hm⟩
                          simp (disch := omega) only [vmE, liE, eE, seval] at hn129 hm
                          replace hm := hm.symm
                          subst hm
                          simp (disch := omega) only [vmE, liE, eE, seval, deE, fxE, retOf, maskA, setVals, getVals, putA, stripAt, AVal.strip, stripL, rd, hc24, hc30, hc39, hc98, hc111, hc124]
                          refine hK126 _ _ (kPost_normal (hK125 _ _ ?_))
                          refine awp_ret ?_
                          refine bPost_ret (kPost_ret (hR _ _ _ (retPost_r (by simp (disch := omega) only [Try.results23, vmE, liE, eE, seval, deE, fxE, retOf, maskA, setVals, getVals, putA, stripAt, AVal.strip, stripL, rd, hc24, hc30, hc39, hc98, hc111, hc124]; rfl) (.cons _ (.cons _ (.cons _ (List.Sublist.refl _)))) ?_)))
                          cases h
                          refine ⟨_, rfl, ?_, ?_⟩
                          · simp (disch := omega) only [vmE, liE, eE, seval, deE, fxE, retOf, maskA, setVals, getVals, putA, stripAt, AVal.strip, stripL, rd, hc24, hc30, hc39, hc98, hc111, hc124]
                          · simp (disch := omega) only [vmE, liE, eE, seval, deE, fxE, retOf, maskA, setVals, getVals, putA, stripAt, AVal.strip, stripL, rd, hc24, hc30, hc39, hc98, hc111, hc124]
                        · refine awp_cond_f rfl hc124 ?_
                          refine awp_skip ?_
                          refine bPost_normal (hK95 _ _ (kPost_normal (hK94 _ _ ?_)))
                          refine awp_seq_k ?_
                          intro K131 hK131
                          refine awp_region' [] ?_
                          intro K132 hK132
                          simp (disch := omega) only [vmE, liE, eE, seval, deE, fxE, retOf, maskA, setVals, getVals, putA, stripAt, AVal.strip, stripL, rd, hc24, hc30, hc39, hc98, hc111, hc124]
                          refine hK132 _ _ (kPost_normal (hK131 _ _ ?_))
                          refine awp_ret ?_
                          refine hR _ _ _ (retPost_r (by simp (disch := omega) only [Try.results23, vmE, liE, eE, seval, deE, fxE, retOf, maskA, setVals, getVals, putA, stripAt, AVal.strip, stripL, rd, hc24, hc30, hc39, hc98, hc111, hc124]; rfl) (.cons _ (.cons _ (.cons _ (List.Sublist.refl _)))) ?_)
                          cases h
                          refine ⟨_, rfl, ?_, ?_⟩
                          · simp (disch := omega) only [vmE, liE, eE, seval, deE, fxE, retOf, maskA, setVals, getVals, putA, stripAt, AVal.strip, stripL, rd, hc24, hc30, hc39, hc98, hc111, hc124]
                          · simp (disch := omega) only [vmE, liE, eE, seval, deE, fxE, retOf, maskA, setVals, getVals, putA, stripAt, AVal.strip, stripL, rd, hc24, hc30, hc39, hc98, hc111, hc124]
                  · intro J133 hJ133
                    refine awp_seq_k ?_
                    intro K84 hK84
                    refine awp_region' [] ?_
                    intro K85 hK85
                    simp (disch := omega) only [vmE, liE, eE, seval, deE, fxE, retOf, maskA, setVals, getVals, putA, stripAt, AVal.strip, stripL, rd, hc24, hc30, hc39]
                    refine hK85 _ _ (kPost_normal (hK84 _ _ ?_))
                    refine awp_seq_k ?_
                    intro K86 hK86
                    refine awp_region' [] ?_
                    intro K87 hK87
                    simp (disch := omega) only [vmE, liE, eE, seval, deE, fxE, retOf, maskA, setVals, getVals, putA, stripAt, AVal.strip, stripL, rd, hc24, hc30, hc39]
                    refine hK87 _ _ (kPost_normal (hK86 _ _ ?_))
                    replace h := ite_some h
                    rcases h with ⟨hc88, h⟩ | ⟨hc88, h⟩
                    · refine awp_cond_t rfl hc88 ?_
                      replace h := bind_some h
                      rcases h with ⟨y90, hy91, h⟩
                      refine awp_region' [] ?_
                      intro K89 hK89
                      simp (disch := omega) only [vmE, liE, eE, seval, deE, fxE, retOf, maskA, setVals, getVals, putA, stripAt, AVal.strip, stripL, rd, hc24, hc30, hc39, hc88]
                      refine ACall.of (ref14_parser_stop_w hy91 (i0 := i0) (by simp (disch := omega) only [vmE, liE, eE, seval, deE, fxE, retOf, maskA, setVals, getVals, putA, stripAt, AVal.strip, stripL, rd])) ?_ ?_
                      · first | (simp (disch := omega) only [vmE, liE, eE, seval, deE, fxE, retOf, maskA, setVals, getVals, putA, stripAt, AVal.strip, stripL, rd, hc24, hc30, hc39, hc88]) | rfl
                      rintro _ ⟨m93, n92⟩ hn92 ⟨rfl, hm⟩
                      simp (disch := omega) only [vmE, liE, eE, seval] at hn92 hm
                      replace hm := hm.symm
                      subst hm
                      simp (disch := omega) only [vmE, liE, eE, seval, deE, fxE, retOf, maskA, setVals, getVals, putA, stripAt, AVal.strip, stripL, rd, hc24, hc30, hc39, hc88]
                      refine hK89 _ _ (kPost_normal (hJ133 _ _ _ (List.Sublist.refl _) ?_ ⟨(y90.s, y90.at_, y90.nodes, y90.fail, y90.where_), ?_, ?_, h⟩)) <;> simp (disch := omega) only [vmE, liE, eE, seval, deE, fxE, retOf, maskA, setVals, getVals, putA, stripAt, AVal.strip, stripL, rd, hc24, hc30, hc39, hc88]
                    · refine awp_cond_f rfl hc88 ?_
                      refine awp_skip ?_
                      refine kPost_normal (hJ133 _ _ _ (List.Sublist.refl _) ?_ ⟨(j51.2.2.s, j51.2.2.at_, (wr .i64 (j51.2.2.nodes + 1)), j51.2.2.fail, j51.2.2.where_), ?_, ?_, h⟩) <;> simp (disch := omega) only [vmE, liE, eE, seval, deE, fxE, retOf, maskA, setVals, getVals, putA, stripAt, AVal.strip, stripL, rd, hc24, hc30, hc39, hc88]
                · intro J134 hJ134
                  refine awp_seq_k ?_
                  intro K55 hK55
                  refine awp_region' [] ?_
                  intro K56 hK56
                  simp (disch := omega) only [vmE, liE, eE, seval, deE, fxE, retOf, maskA, setVals, getVals, putA, stripAt, AVal.strip, stripL, rd, hc24, hc30, hc39]
                  refine hK56 _ _ (kPost_normal (hK55 _ _ ?_))
                  replace h := ite_some h
                  rcases h with ⟨hc57, h⟩ | ⟨hc57, h⟩
                  · refine awp_cond_t rfl hc57 ?_
                    refine awp_seq_k ?_
                    intro K58 hK58
                    replace h := bind_some h
                    rcases h with ⟨y60, hy61, h⟩
                    refine awp_region' [] ?_
                    intro K59 hK59
                    simp (disch := omega) only [vmE, liE, eE, seval, deE, fxE, retOf, maskA, setVals, getVals, putA, stripAt, AVal.strip, stripL, rd, hc24, hc30, hc39, hc57]
                    refine ACall.of (ref13_Number_w hy61) ?_ ?_
                    · first | (simp (disch := omega) only [vmE, liE, eE, seval, deE, fxE, retOf, maskA, setVals, getVals, putA, stripAt, AVal.strip, stripL, rd, hc24, hc30, hc39, hc57]) | rfl
                    rintro _ ⟨m63, n62⟩ hn62 ⟨rfl, hm⟩
                    simp (disch := omega) only [vmE, liE, eE, seval] at hn62 hm
                    replace hm := hm.symm
                    subst hm
                    simp (disch := omega) only [vmE, liE, eE, seval, deE, fxE, retOf, maskA, setVals, getVals, putA, stripAt, AVal.strip, stripL, rd, hc24, hc30, hc39, hc57]
                    refine hK59 _ _ (kPost_normal (hK58 _ _ ?_))
                    refine awp_seq_k ?_
                    intro K64 hK64
                    replace h := joinK_some h
                    rcases h with ⟨k66, hk66, h⟩
                    refine awp_join [69, 70, 71, 72, 73, 74, 75] [] (fun vs st' => ∃ j65 : Ref14Parser, vs = [] ∧ st'.m = (n36, [.int .i64 5, .str a1.text, .slice 1 (List.map AVal.str []) true, .slice 4 (List.map encApiValue []) true]) :: ((n + 1), [.int .i64 0, .str [], .slice 1 (List.map AVal.str []) true, .slice 4 (List.map encApiValue []) true]) :: (n, [.int .i64 a1.kind, .str a1.text, .int .i64 a1.at_]) :: (i0, [.str j65.s, .int .i64 j65.at_, .int .i64 j65.nodes, .int .i64 j65.fail, .int .i64 j65.where_]) :: mdel m i0 ∧ k66 j65 = some r) hK64 ?_ ?_
                    · clear h
                      rintro _ ⟨m67, n68⟩ ⟨j65, rfl, hm, h⟩
                      simp only [] at hm
                      replace hm := hm.symm
                      subst hm
                      replace h := hk66 _ _ h
                      clear hk66 k66
                      refine AWp.known fun _ hkl => ?_
                      simp only [] at hkl
                      obtain ⟨_, hkl⟩ := keysLt_cons hkl
                      obtain ⟨_, hkl⟩ := keysLt_cons hkl
                      obtain ⟨_, hkl⟩ := keysLt_cons hkl
                      obtain ⟨_, hkl⟩ := keysLt_cons hkl
                      clear hkl
                      refine AWp.congr (by simp (disch := omega) only [vmE, liE, eE, seval, deE, fxE, retOf, maskA, setVals, getVals, putA, stripAt, AVal.strip, stripL, rd]; rfl) ?_
                      refine awp_region' [] ?_
                      intro K77 hK77
                      simp (disch := omega) only [vmE, liE, eE, seval, deE, fxE, retOf, maskA, setVals, getVals, putA, stripAt, AVal.strip, stripL, rd, hc24, hc30, hc39, hc57]
                      refine hK77 _ _ (kPost_normal (hJ134 _ _ _ (List.Sublist.refl _) ?_ ⟨(4, y60.1, j65), ?_, ?_, h⟩)) <;> simp (disch := omega) only [vmE, liE, eE, seval, deE, fxE, retOf, maskA, setVals, getVals, putA, stripAt, AVal.strip, stripL, rd, hc24, hc30, hc39, hc57]
                    · intro J78 hJ78
                      refine awp_seq_k ?_
                      intro K69 hK69
                      refine awp_region' [] ?_
                      intro K70 hK70
                      simp (disch := omega) only [vmE, liE, eE, seval, deE, fxE, retOf, maskA, setVals, getVals, putA, stripAt, AVal.strip, stripL, rd, hc24, hc30, hc39, hc57]
                      refine hK70 _ _ (kPost_normal (hK69 _ _ ?_))
                      replace h := ite_some h
                      rcases h with ⟨hc71, h⟩ | ⟨hc71, h⟩
                      · refine awp_cond_t rfl hc71 ?_
                        replace h := bind_some h
                        rcases h with ⟨y73, hy74, h⟩
                        refine awp_region' [] ?_
                        intro K72 hK72
                        simp (disch := omega) only [vmE, liE, eE, seval, deE, fxE, retOf, maskA, setVals, getVals, putA, stripAt, AVal.strip, stripL, rd, hc24, hc30, hc39, hc57, hc71]
                        refine ACall.of (ref14_parser_stop_w hy74 (i0 := i0) (by simp (disch := omega) only [vmE, liE, eE, seval, deE, fxE, retOf, maskA, setVals, getVals, putA, stripAt, AVal.strip, stripL, rd])) ?_ ?_
                        · first | (simp (disch := omega) only [vmE, liE, eE, seval, deE, fxE, retOf, maskA, setVals, getVals, putA, stripAt, AVal.strip, stripL, rd, hc24, hc30, hc39, hc57, hc71]) | rfl
                        rintro _ ⟨m76, n75⟩ hn75 ⟨rfl, hm⟩
                        simp (disch := omega) only [vmE, liE, eE, seval] at hn75 hm
                        replace hm := hm.symm
                        subst hm
                        simp (disch := omega) only [vmE, liE, eE, seval, deE, fxE, retOf, maskA, setVals, getVals, putA, stripAt, AVal.strip, stripL, rd, hc24, hc30, hc39, hc57, hc71]
                        refine hK72 _ _ (kPost_normal (hJ78 _ _ _ (List.Sublist.refl _) ?_ ⟨y73, ?_, ?_, h⟩)) <;> simp (disch := omega) only [vmE, liE, eE, seval, deE, fxE, retOf, maskA, setVals, getVals, putA, stripAt, AVal.strip, stripL, rd, hc24, hc30, hc39, hc57, hc71]
                      · refine awp_cond_f rfl hc71 ?_
                        refine awp_skip ?_
                        refine kPost_normal (hJ78 _ _ _ (List.Sublist.refl _) ?_ ⟨a0, ?_, ?_, h⟩) <;> simp (disch := omega) only [vmE, liE, eE, seval, deE, fxE, retOf, maskA, setVals, getVals, putA, stripAt, AVal.strip, stripL, rd, hc24, hc30, hc39, hc57, hc71]
                  · refine awp_cond_f rfl hc57 ?_
                    refine awp_skip ?_
                    refine kPost_normal (hJ134 _ _ _ (List.Sublist.refl _) ?_ ⟨(5, a1.text, a0), ?_, ?_, h⟩) <;> simp (disch := omega) only [vmE, liE, eE, seval, deE, fxE, retOf, maskA, setVals, getVals, putA, stripAt, AVal.strip, stripL, rd, hc24, hc30, hc39, hc57]
            · intro J135 hJ135
              replace h := ite_some h
              rcases h with ⟨hc38, h⟩ | ⟨hc38, h⟩
              · refine awp_region' [] ?_
                intro K37 hK37
                simp (disch := omega) only [vmE, liE, eE, seval, deE, fxE, retOf, maskA, setVals, getVals, putA, stripAt, AVal.strip, stripL, rd, hc24, hc30, hc38]
                refine hK37 _ _ (kPost_normal (hJ135 _ _ _ (List.Sublist.refl _) ?_ ⟨(a2 == 64), ?_, ?_, h⟩)) <;> simp (disch := omega) only [vmE, liE, eE, seval, deE, fxE, retOf, maskA, setVals, getVals, putA, stripAt, AVal.strip, stripL, rd, hc24, hc30, hc38]
              · refine awp_region' [] ?_
                intro K37 hK37
                simp (disch := omega) only [vmE, liE, eE, seval, deE, fxE, retOf, maskA, setVals, getVals, putA, stripAt, AVal.strip, stripL, rd, hc24, hc30, hc38]
                refine hK37 _ _ (kPost_normal (hJ135 _ _ _ (List.Sublist.refl _) ?_ ⟨false, ?_, ?_, h⟩)) <;> simp (disch := omega) only [vmE, liE, eE, seval, deE, fxE, retOf, maskA, setVals, getVals, putA, stripAt, AVal.strip, stripL, rd, hc24, hc30, hc38]
          · refine awp_cond_t rfl (by simp only [liE, hc24, hc30]) ?_
            refine awp_seq_k ?_
            intro K136 hK136
            replace h := bind_some h
            rcases h with ⟨y138, hy139, h⟩
            refine awp_region' [] ?_
            intro K137 hK137
            simp (disch := omega) only [vmE, liE, eE, seval, deE, fxE, retOf, maskA, setVals, getVals, putA, stripAt, AVal.strip, stripL, rd, hc24, hc30]
            refine ACall.of (ref14_parser_stop_w hy139 (i0 := i0) (by simp (disch := omega) only [vmE, liE, eE, seval, deE, fxE, retOf, maskA, setVals, getVals, putA, stripAt, AVal.strip, stripL, rd])) ?_ ?_
            · first | (simp (disch := omega) only [vmE, liE, eE, seval, deE, fxE, retOf, maskA, setVals, getVals, putA, stripAt, AVal.strip, stripL, rd, hc24, hc30]) | rfl
            rintro _ ⟨m141, n140⟩ hn140 ⟨rfl, hm⟩
            simp (disch := omega) only [vmE, liE, eE, seval] at hn140 hm
            replace hm := hm.symm
            subst hm
            simp (disch := omega) only [vmE, liE, eE, seval, deE, fxE, retOf, maskA, setVals, getVals, putA, stripAt, AVal.strip, stripL, rd, hc24, hc30]
            refine hK137 _ _ (kPost_normal (hK136 _ _ ?_))
            refine awp_seq_k ?_
            intro K142 hK142
            refine awp_region' [] ?_
            intro K143 hK143
            simp (disch := omega) only [vmE, liE, eE, seval, deE, fxE, retOf, maskA, setVals, getVals, putA, stripAt, AVal.strip, stripL, rd, hc24, hc30]
            refine hK143 _ _ (kPost_normal (hK142 _ _ ?_))
            refine awp_ret ?_
            refine kPost_ret (hR _ _ _ (retPost_r (by simp (disch := omega) only [Try.results23, vmE, liE, eE, seval, deE, fxE, retOf, maskA, setVals, getVals, putA, stripAt, AVal.strip, stripL, rd, hc24, hc30]; rfl) (.cons _ (.cons _ (List.Sublist.refl _))) ?_))
            cases h
            refine ⟨_, rfl, ?_, ?_⟩
            · simp (disch := omega) only [vmE, liE, eE, seval, deE, fxE, retOf, maskA, setVals, getVals, putA, stripAt, AVal.strip, stripL, rd, hc24, hc30]
            · simp (disch := omega) only [vmE, liE, eE, seval, deE, fxE, retOf, maskA, setVals, getVals, putA, stripAt, AVal.strip, stripL, rd, hc24, hc30]
      · intro J144 hJ144
        replace h := ite_some h
        rcases h with ⟨hc9, h⟩ | ⟨hc9, h⟩
        · refine awp_region' [] ?_
          intro K8 hK8
          simp (disch := omega) only [vmE, liE, eE, seval, deE, fxE, retOf, maskA, setVals, getVals, putA, stripAt, AVal.strip, stripL, rd, hc9]
          refine hK8 _ _ (kPost_normal (hJ144 _ _ _ (List.Sublist.refl _) ?_ ⟨true, ?_, ?_, h⟩)) <;> simp (disch := omega) only [vmE, liE, eE, seval, deE, fxE, retOf, maskA, setVals, getVals, putA, stripAt, AVal.strip, stripL, rd, hc9]
        · replace h := ite_some h
          rcases h with ⟨hc10, h⟩ | ⟨hc10, h⟩
          · refine awp_region' [] ?_
            intro K8 hK8
            simp (disch := omega) only [vmE, liE, eE, seval, deE, fxE, retOf, maskA, setVals, getVals, putA, stripAt, AVal.strip, stripL, rd, hc9, hc10]
            refine hK8 _ _ (kPost_normal (hJ144 _ _ _ (List.Sublist.refl _) ?_ ⟨true, ?_, ?_, h⟩)) <;> simp (disch := omega) only [vmE, liE, eE, seval, deE, fxE, retOf, maskA, setVals, getVals, putA, stripAt, AVal.strip, stripL, rd, hc9, hc10]
          · replace h := ite_some h
            rcases h with ⟨hc11, h⟩ | ⟨hc11, h⟩
            · refine awp_region' [] ?_
              intro K8 hK8
              simp (disch := omega) only [vmE, liE, eE, seval, deE, fxE, retOf, maskA, setVals, getVals, putA, stripAt, AVal.strip, stripL, rd, hc9, hc10, hc11]
              refine hK8 _ _ (kPost_normal (hJ144 _ _ _ (List.Sublist.refl _) ?_ ⟨true, ?_, ?_, h⟩)) <;> simp (disch := omega) only [vmE, liE, eE, seval, deE, fxE, retOf, maskA, setVals, getVals, putA, stripAt, AVal.strip, stripL, rd, hc9, hc10, hc11]
            · replace h := bind_some h
              rcases h with ⟨y12, hy13, h⟩
              replace h := ite_some h
              rcases h with ⟨hc16, h⟩ | ⟨hc16, h⟩
              · refine awp_region' [] ?_
                intro K8 hK8
                simp (disch := omega) only [vmE, liE, eE, seval, deE, fxE, retOf, maskA, setVals, getVals, putA, stripAt, AVal.strip, stripL, rd, hc9, hc10, hc11, hc9, hc10, hc11, hc16]
                refine ACall.of (ref14_is_w hy13) ?_ ?_
                · first | (simp (disch := omega) only [vmE, liE, eE, seval, deE, fxE, retOf, maskA, setVals, getVals, putA, stripAt, AVal.strip, stripL, rd, hc9, hc10, hc11, hc9, hc10, hc11, hc16]) | rfl
                rintro _ ⟨m15, n14⟩ hn14 ⟨rfl, hm⟩
                simp (disch := omega) only [vmE, liE, eE, seval] at hn14 hm
                replace hm := hm.symm
                subst hm
                simp (disch := omega) only [vmE, liE, eE, seval, deE, fxE, retOf, maskA, setVals, getVals, putA, stripAt, AVal.strip, stripL, rd, hc9, hc10, hc11, hc16]
                refine hK8 _ _ (kPost_normal (hJ144 _ _ _ (List.Sublist.refl _) ?_ ⟨true, ?_, ?_, h⟩)) <;> simp (disch := omega) only [vmE, liE, eE, seval, deE, fxE, retOf, maskA, setVals, getVals, putA, stripAt, AVal.strip, stripL, rd, hc9, hc10, hc11, hc16]
              · replace h := bind_some h
                rcases h with ⟨y17, hy18, h⟩
                refine awp_region' [] ?_
                intro K8 hK8
                simp (disch := omega) only [vmE, liE, eE, seval, deE, fxE, retOf, maskA, setVals, getVals, putA, stripAt, AVal.strip, stripL, rd, hc9, hc10, hc11, hc9, hc10, hc11, hc16]
                refine ACall.of (ref14_is_w hy13) ?_ ?_
                · first | (simp (disch := omega) only [vmE, liE, eE, seval, deE, fxE, retOf, maskA, setVals, getVals, putA, stripAt, AVal.strip, stripL, rd, hc9, hc10, hc11, hc9, hc10, hc11, hc16]) | rfl
                rintro _ ⟨m15, n14⟩ hn14 ⟨rfl, hm⟩
                simp (disch := omega) only [vmE, liE, eE, seval] at hn14 hm
                replace hm := hm.symm
                subst hm
                simp (disch := omega) only [vmE, liE, eE, seval, deE, fxE, retOf, maskA, setVals, getVals, putA, stripAt, AVal.strip, stripL, rd, hc9, hc10, hc11, hc16, hc9, hc10, hc11, hc16]
                refine ACall.of (ref14_is_w hy18) ?_ ?_
                · first | (simp (disch := omega) only [vmE, liE, eE, seval, deE, fxE, retOf, maskA, setVals, getVals, putA, stripAt, AVal.strip, stripL, rd, hc9, hc10, hc11, hc16, hc9, hc10, hc11, hc16]) | rfl
                rintro _ ⟨m20, n19⟩ hn19 ⟨rfl, hm⟩
                simp (disch := omega) only [vmE, liE, eE, seval] at hn19 hm
                replace hm := hm.symm
                subst hm
                simp (disch := omega) only [vmE, liE, eE, seval, deE, fxE, retOf, maskA, setVals, getVals, putA, stripAt, AVal.strip, stripL, rd, hc9, hc10, hc11, hc16]
                refine hK8 _ _ (kPost_normal (hJ144 _ _ _ (List.Sublist.refl _) ?_ ⟨y17, ?_, ?_, h⟩)) <;> simp (disch := omega) only [vmE, liE, eE, seval, deE, fxE, retOf, maskA, setVals, getVals, putA, stripAt, AVal.strip, stripL, rd, hc9, hc10, hc11, hc16]
theorem ref14_parser_array_w {N : Nat} {a0 : Ref14Parser} {a1 : Int} {r : ApiValue × Ref14Parser} (h : ref14_parser_array N N a0 a1 = some r) {n : Nat} {m : List (Nat × List AVal)} {i0 : Nat} (hi0 : mget m i0 = some [.str a0.s, .int .i64 a0.at_, .int .i64 a0.nodes, .int .i64 a0.fail, .int .i64 a0.where_]) :
    ACall vE 48 [.ptr i0 0, .int .i64 a1] ⟨m, n⟩ fun r' st => r' = .agg [.int .i64 r.1.kind, .str r.1.text, .slice 1 (List.map AVal.str r.1.keys) false, .slice 4 (List.map encApiValue r.1.items) false] ∧ st.m = mset m i0 [.str r.2.s, .int .i64 r.2.at_, .int .i64 r.2.nodes, .int .i64 r.2.fail, .int .i64 r.2.where_] :=
  ((ref14_parser_array_rec N N).1 h hi0)
theorem ref14_parser_object_w {N : Nat} {a0 : Ref14Parser} {a1 : Int} {r : ApiValue × Ref14Parser} (h : ref14_parser_object N N a0 a1 = some r) {n : Nat} {m : List (Nat × List AVal)} {i0 : Nat} (hi0 : mget m i0 = some [.str a0.s, .int .i64 a0.at_, .int .i64 a0.nodes, .int .i64 a0.fail, .int .i64 a0.where_]) :
    ACall vE 49 [.ptr i0 0, .int .i64 a1] ⟨m, n⟩ fun r' st => r' = .agg [.int .i64 r.1.kind, .str r.1.text, .slice 1 (List.map AVal.str r.1.keys) false, .slice 4 (List.map encApiValue r.1.items) false] ∧ st.m = mset m i0 [.str r.2.s, .int .i64 r.2.at_, .int .i64 r.2.nodes, .int .i64 r.2.fail, .int .i64 r.2.where_] :=
  ((ref14_parser_array_rec N N).2.1 h hi0)
theorem ref14_parser_value_w {N : Nat} {a0 : Ref14Parser} {a1 : ApiToken} {a2 : Int} {r : ApiValue × Ref14Parser} (h : ref14_parser_value N N a0 a1 a2 = some r) {n : Nat} {m : List (Nat × List AVal)} {i0 : Nat} (hi0 : mget m i0 = some [.str a0.s, .int .i64 a0.at_, .int .i64 a0.nodes, .int .i64 a0.fail, .int .i64 a0.where_]) :
    ACall vE 23 [.ptr i0 0, .agg [.int .i64 a1.kind, .str a1.text, .int .i64 a1.at_], .int .i64 a2] ⟨m, n⟩ fun r' st => r' = .agg [.int .i64 r.1.kind, .str r.1.text, .slice 1 (List.map AVal.str r.1.keys) false, .slice 4 (List.map encApiValue r.1.items) false] ∧ st.m = mset m i0 [.str r.2.s, .int .i64 r.2.at_, .int .i64 r.2.nodes, .int .i64 r.2.fail, .int .i64 r.2.where_] :=
  ((ref14_parser_array_rec N N).2.2 h hi0)
end Go.Proofs.Ytdbeiialamganaa
