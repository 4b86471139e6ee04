/- That the code computes these functions; written by decomp.py. -/
import Derived.Test.YtdbeiialamganaaVmFacts
import Derived.Test.YtdbeiialamganaaDefs
import Derived.Test.YtdbeiialamganaaVMSets
set_option linter.unusedVariables false
set_option linter.unusedSimpArgs false
set_option maxHeartbeats 4000000
set_option maxRecDepth 100000
set_option linter.defProp false
namespace Go.Proofs.Ytdbeiialamganaa
open Go.VM
theorem ref14_Get_w {N : Nat} {a0 : ApiValue} {a1 : (List UInt8)} {r : ApiValue × Bool} (h : ref14_Get N a0 a1 = some r) {n : Nat} {m : List (Nat × List AVal)} :
    ACall vE 54 [.agg [.int .i64 a0.kind, .str a0.text, .slice 1 (List.map AVal.str a0.keys) false, .slice 4 (List.map encApiValue a0.items) false], .str a1] ⟨m, n⟩ fun r' st => r' = .tuple [.agg [.int .i64 r.1.kind, .str r.1.text, .slice 1 (List.map AVal.str r.1.keys) false, .slice 4 (List.map encApiValue r.1.items) false], .bool r.2] ∧ st.m = m := by
  rw [ref14_Get] at h
  refine ACall.strip ?_
  refine acall_k Try.func54 rfl ?_
  intro R hR
  refine AWp.congr (by simp only [Try.ntmps54, liE, seval]; rfl) ?_
  refine awp_seq_k ?_
  intro K1 hK1
  refine awp_region' [] ?_
  intro K2 hK2
  simp (disch := omega) only [vmE, liE, eE, seval, deE, fxE, retOf, maskA, setVals, getVals, putA, stripAt, AVal.strip, stripL, rd]
  refine hK2 _ _ (kPost_normal (hK1 _ _ ?_))
  refine awp_seq_k ?_
  intro K3 hK3
  refine awp_seq_k ?_
  intro K4 hK4
  refine awp_region' [] ?_
  intro K5 hK5
  simp (disch := omega) only [vmE, liE, eE, seval, deE, fxE, retOf, maskA, setVals, getVals, putA, stripAt, AVal.strip, stripL, rd]
  refine hK5 _ _ (kPost_normal (hK4 _ _ ?_))
  replace h := ite_some h
  rcases h with ⟨hc6, h⟩ | ⟨hc6, h⟩
  · refine awp_cond_t rfl hc6 ?_
    refine awp_seq_k ?_
    intro K7 hK7
    refine awp_region' [] ?_
    intro K8 hK8
    simp (disch := omega) only [vmE, liE, eE, seval, deE, fxE, retOf, maskA, setVals, getVals, putA, stripAt, AVal.strip, stripL, rd, hc6]
    refine hK8 _ _ (kPost_normal (hK7 _ _ ?_))
    refine awp_ret ?_
    refine kPost_ret (hR _ _ _ (retPost_r (by simp (disch := omega) only [Try.results54, vmE, liE, eE, seval, deE, fxE, retOf, maskA, setVals, getVals, putA, stripAt, AVal.strip, stripL, rd, hc6]; rfl) (.cons _ (.cons _ (List.Sublist.refl _))) ?_))
    cases h
    refine ⟨?_, ?_⟩
    · simp (disch := omega) only [vmE, liE, eE, seval, deE, fxE, retOf, maskA, setVals, getVals, putA, stripAt, AVal.strip, stripL, rd, hc6]
    · rfl
  · refine awp_cond_f rfl hc6 ?_
    refine awp_skip ?_
    refine kPost_normal (hK3 _ _ ?_)
    refine awp_seq_k ?_
    intro K9 hK9
    replace h := joinK_some h
    rcases h with ⟨k11, hk11, h⟩
    refine awp_join [5, 6, 11, 12, 13, 14, 15, 16, 17, 18, 19, 20, 21, 22, 23, 24, 25, 26, 27, 28, 29, 30, 31, 32, 33, 34, 35, 36] [] (fun vs st' => ∃ j10 : Unit, vs = [] ∧ st'.m = ((n + 1), [.int .i64 0, .str [], .slice 1 (List.map AVal.str []) true, .slice 4 (List.map encApiValue []) true]) :: (n, [.int .i64 a0.kind, .str a0.text, .slice 1 (List.map AVal.str a0.keys) false, .slice 4 (List.map encApiValue a0.items) false]) :: m ∧ k11 j10 = some r) hK9 ?_ ?_
    · clear h
      rintro _ ⟨m12, n13⟩ ⟨j10, rfl, hm, h⟩
      simp only [] at hm
      replace hm := hm.symm
      subst hm
      replace h := hk11 _ _ h
      clear hk11 k11
      refine AWp.known fun _ hkl => ?_
      simp only [] at hkl
      obtain ⟨_, hkl⟩ := keysLt_cons hkl
      obtain ⟨_, hkl⟩ := keysLt_cons hkl
      clear hkl
      refine AWp.congr (by simp (disch := omega) only [vmE, liE, eE, seval, deE, fxE, retOf, maskA, setVals, getVals, putA, stripAt, AVal.strip, stripL, rd]; rfl) ?_
      refine awp_seq_k ?_
      intro K44 hK44
      refine awp_region' [] ?_
      intro K45 hK45
      simp (disch := omega) only [vmE, liE, eE, seval, deE, fxE, retOf, maskA, setVals, getVals, putA, stripAt, AVal.strip, stripL, rd, hc6]
      refine hK45 _ _ (kPost_normal (hK44 _ _ ?_))
      refine awp_ret ?_
      refine hR _ _ _ (retPost_r (by simp (disch := omega) only [Try.results54, vmE, liE, eE, seval, deE, fxE, retOf, maskA, setVals, getVals, putA, stripAt, AVal.strip, stripL, rd, hc6]; rfl) (.cons _ (.cons _ (List.Sublist.refl _))) ?_)
      cases h
      refine ⟨?_, ?_⟩
      · simp (disch := omega) only [vmE, liE, eE, seval, deE, fxE, retOf, maskA, setVals, getVals, putA, stripAt, AVal.strip, stripL, rd, hc6]
      · rfl
    · intro J46 hJ46
      refine awp_seq_k ?_
      intro K14 hK14
      refine awp_region' [] ?_
      intro K15 hK15
      simp (disch := omega) only [vmE, liE, eE, seval, deE, fxE, retOf, maskA, setVals, getVals, putA, stripAt, AVal.strip, stripL, rd, hc6]
      refine hK15 _ _ (kPost_normal (hK14 _ _ ?_))
      refine awp_block_k ?_
      intro K16 hK16
      refine awp_loop_v [5, 6, 15, 16, 17, 18, 19, 20, 21, 22, 23, 24, 25, 26, 27, 28, 29, 30, 31, 32, 33, 34, 35, 36] [14] (fun k vs st' => ∃ (s14 : Int), vs = [.int .i64 s14] ∧ st'.m = ((n + 1), [.int .i64 0, .str [], .slice 1 (List.map AVal.str []) true, .slice 4 (List.map encApiValue []) true]) :: (n, [.int .i64 a0.kind, .str a0.text, .slice 1 (List.map AVal.str a0.keys) false, .slice 4 (List.map encApiValue a0.items) false]) :: m ∧ ref14_Get_L1 N a0 a1 k11 k s14 = some r) N ⟨0, ?_, ?_, h⟩ ?_
      · simp (disch := omega) only [vmE, liE, eE, seval, deE, fxE, retOf, maskA, setVals, getVals, putA, stripAt, AVal.strip, stripL, rd, hc6]
      · simp (disch := omega) only [vmE, liE, eE, seval, deE, fxE, retOf, maskA, setVals, getVals, putA, stripAt, AVal.strip, stripL, rd, hc6]
      · clear h
        rintro k17 _ ⟨m43, nL0_1⟩ ⟨s14, rfl, hm, h⟩ J42 hJ42
        simp only [] at hm
        replace hm := hm.symm
        subst hm
        rcases k17 with _ | k17
        · simp only [ref14_Get_L1, reduceCtorEq] at h
        rw [ref14_Get_L1] at h
        refine AWp.known fun _ hkl => ?_
        simp only [] at hkl
        obtain ⟨_, hkl⟩ := keysLt_cons hkl
        obtain ⟨_, hkl⟩ := keysLt_cons hkl
        clear hkl
        refine AWp.congr (by simp (disch := omega) only [vmE, liE, eE, seval, deE, fxE, retOf, maskA, setVals, getVals, putA, stripAt, AVal.strip, stripL, rd]; rfl) ?_
        refine awp_seq_k ?_
        intro K18 hK18
        refine awp_region' [] ?_
        intro K19 hK19
        simp (disch := omega) only [vmE, liE, eE, seval, deE, fxE, retOf, maskA, setVals, getVals, putA, stripAt, AVal.strip, stripL, rd, hc6]
        refine hK19 _ _ (kPost_normal (hK18 _ _ ?_))
        refine awp_seq_k ?_
        intro K20 hK20
        replace h := ite_some h
        rcases h with ⟨hc21, h⟩ | ⟨hc21, h⟩
        · refine awp_cond_t rfl hc21 ?_
          refine awp_skip ?_
          refine kPost_normal (hK20 _ _ ?_)
          refine awp_seq_k ?_
          intro K22 hK22
          refine awp_block_k ?_
          intro K23 hK23
          refine awp_seq_k ?_
          intro K24 hK24
          refine awp_region' [] ?_
          intro K25 hK25
          simp (disch := omega) only [vmE, liE, eE, seval, deE, fxE, retOf, maskA, setVals, getVals, putA, stripAt, AVal.strip, stripL, rd, hc6, hc21]
          refine hK25 _ _ (kPost_normal (hK24 _ _ ?_))
          refine awp_seq_k ?_
          intro K26 hK26
          replace h := joinK_some h
          rcases h with ⟨k28, hk28, h⟩
          refine awp_join [17, 18, 19, 20, 21, 22, 23, 24, 25, 26, 27, 28, 29] [30] (fun vs st' => ∃ j27 : Bool, vs = [.bool j27] ∧ st'.m = ((n + 1), [.int .i64 0, .str [], .slice 1 (List.map AVal.str []) true, .slice 4 (List.map encApiValue []) true]) :: (n, [.int .i64 a0.kind, .str a0.text, .slice 1 (List.map AVal.str a0.keys) false, .slice 4 (List.map encApiValue a0.items) false]) :: m ∧ k28 j27 = some r) hK26 ?_ ?_
          · clear h
            rintro _ ⟨m29, n30⟩ ⟨j27, rfl, hm, h⟩
            simp only [] at hm
            replace hm := hm.symm
            subst hm
            replace h := hk28 _ _ h
            clear hk28 k28
            refine AWp.known fun _ hkl => ?_
            simp only [] at hkl
            obtain ⟨_, hkl⟩ := keysLt_cons hkl
            obtain ⟨_, hkl⟩ := keysLt_cons hkl
            clear hkl
            refine AWp.congr (by simp (disch := omega) only [vmE, liE, eE, seval, deE, fxE, retOf, maskA, setVals, getVals, putA, stripAt, AVal.strip, stripL, rd]; rfl) ?_
            replace h := ite_some h
            rcases h with ⟨hc35, h⟩ | ⟨hc35, h⟩
            · refine awp_cond_t rfl hc35 ?_
              refine awp_seq_k ?_
              intro K36 hK36
              replace h := bind_some h
              rcases h with ⟨x38, hx39, h⟩
              refine awp_region' [] ?_
              intro K37 hK37
              simp (disch := omega) only [vmE, liE, eE, seval, deE, fxE, retOf, maskA, setVals, getVals, putA, stripAt, AVal.strip, stripL, rd, hc6, hc21, hc35, hx39]
              refine hK37 _ _ (kPost_normal (hK36 _ _ ?_))
              refine awp_ret ?_
              refine bPost_ret (kPost_ret (kPost_ret (bPost_ret (kPost_ret (hR _ _ _ (retPost_r (by simp (disch := omega) only [Try.results54, vmE, liE, eE, seval, deE, fxE, retOf, maskA, setVals, getVals, putA, stripAt, AVal.strip, stripL, rd, hc6, hc21, hc35, hx39]; rfl) (.cons _ (.cons _ (List.Sublist.refl _))) ?_))))))
              cases h
              refine ⟨?_, ?_⟩
              · simp (disch := omega) only [vmE, liE, eE, seval, deE, fxE, retOf, maskA, setVals, getVals, putA, stripAt, AVal.strip, stripL, rd, hc6, hc21, hc35, hx39]
              · rfl
            · refine awp_cond_f rfl hc35 ?_
              refine awp_skip ?_
              refine bPost_normal (hK23 _ _ (kPost_normal (hK22 _ _ ?_)))
              refine awp_region' [] ?_
              intro K40 hK40
              simp (disch := omega) only [vmE, liE, eE, seval, deE, fxE, retOf, maskA, setVals, getVals, putA, stripAt, AVal.strip, stripL, rd, hc6, hc21, hc35]
              refine hK40 _ _ (kPost_normal (hJ42 k17 _ _ _ (Nat.lt_succ_self _) (List.Sublist.refl _) ?_ ⟨(wr .i64 (s14 + 1)), ?_, ?_, h⟩)) <;> simp (disch := omega) only [vmE, liE, eE, seval, deE, fxE, retOf, maskA, setVals, getVals, putA, stripAt, AVal.strip, stripL, rd, hc6, hc21, hc35]
          · intro J41 hJ41
            replace h := bind_some h
            rcases h with ⟨x32, hx33, h⟩
            replace h := ite_some h
            rcases h with ⟨hc34, h⟩ | ⟨hc34, h⟩
            · refine awp_region' [] ?_
              intro K31 hK31
              simp (disch := omega) only [vmE, liE, eE, seval, deE, fxE, retOf, maskA, setVals, getVals, putA, stripAt, AVal.strip, stripL, rd, hc6, hc21, hx33, hc34]
              refine hK31 _ _ (kPost_normal (hJ41 _ _ _ (List.Sublist.refl _) ?_ ⟨(decide (s14 < (a0.items.length : Int))), ?_, ?_, h⟩)) <;> simp (disch := omega) only [vmE, liE, eE, seval, deE, fxE, retOf, maskA, setVals, getVals, putA, stripAt, AVal.strip, stripL, rd, hc6, hc21, hx33, hc34]
            · refine awp_region' [] ?_
              intro K31 hK31
              simp (disch := omega) only [vmE, liE, eE, seval, deE, fxE, retOf, maskA, setVals, getVals, putA, stripAt, AVal.strip, stripL, rd, hc6, hc21, hx33, hc34]
              refine hK31 _ _ (kPost_normal (hJ41 _ _ _ (List.Sublist.refl _) ?_ ⟨false, ?_, ?_, h⟩)) <;> simp (disch := omega) only [vmE, liE, eE, seval, deE, fxE, retOf, maskA, setVals, getVals, putA, stripAt, AVal.strip, stripL, rd, hc6, hc21, hx33, hc34]
        · refine awp_cond_f rfl hc21 ?_
          refine awp_exit ?_
          refine kPost_exit (kPost_exit (bPost_here (hK16 _ _ (kPost_normal (hJ46 _ _ _ (List.Sublist.refl _) ?_ ⟨(), ?_, ?_, h⟩))))) <;> simp (disch := omega) only [vmE, liE, eE, seval, deE, fxE, retOf, maskA, setVals, getVals, putA, stripAt, AVal.strip, stripL, rd, hc6, hc21]
theorem jrd_decoder_fail_w {N : Nat} {a0 : JrdDecoder} {a1 : Int} {r : JrdDecoder} (h : jrd_decoder_fail N a0 a1 = some r) {n : Nat} {m : List (Nat × List AVal)} {i0 : Nat} (hi0 : mget m i0 = some [.int .i64 a0.e]) :
    ACall vE 52 [.ptr i0 0, .int .i64 a1] ⟨m, n⟩ fun r' st => r' = .tuple [] ∧ st.m = mset m i0 [.int .i64 r.e] := by
  rw [jrd_decoder_fail] at h
  refine ACall.front hi0 ?_
  intro hin
  refine acall_k Try.func52 rfl ?_
  intro R hR
  refine AWp.congr (by simp only [Try.ntmps52, liE, seval]; rfl) ?_
  refine awp_seq_k ?_
  intro K1 hK1
  refine awp_region' [] ?_
  intro K2 hK2
  simp (disch := omega) only [vmE, liE, eE, seval, deE, fxE, retOf, maskA, setVals, getVals, putA, stripAt, AVal.strip, stripL, rd]
  refine hK2 _ _ (kPost_normal (hK1 _ _ ?_))
  replace h := ite_some h
  rcases h with ⟨hc3, h⟩ | ⟨hc3, h⟩
  · refine awp_cond_t rfl hc3 ?_
    refine awp_region' [] ?_
    intro K4 hK4
    simp (disch := omega) only [vmE, liE, eE, seval, deE, fxE, retOf, maskA, setVals, getVals, putA, stripAt, AVal.strip, stripL, rd, hc3]
    refine hK4 _ _ (hR _ _ _ (retPost_n (by simp (disch := omega) only [Try.results52, vmE, liE, eE, seval, deE, fxE, retOf, maskA, setVals, getVals, putA, stripAt, AVal.strip, stripL, rd, hc3]; rfl) (List.Sublist.refl _) ?_))
    cases h
    refine ⟨_, rfl, ?_, ?_⟩
    · simp (disch := omega) only [vmE, liE, eE, seval, deE, fxE, retOf, maskA, setVals, getVals, putA, stripAt, AVal.strip, stripL, rd, hc3]
    · simp (disch := omega) only [vmE, liE, eE, seval, deE, fxE, retOf, maskA, setVals, getVals, putA, stripAt, AVal.strip, stripL, rd, hc3]
  · refine awp_cond_f rfl hc3 ?_
    refine awp_skip ?_
    refine hR _ _ _ (retPost_n (by simp (disch := omega) only [Try.results52, vmE, liE, eE, seval, deE, fxE, retOf, maskA, setVals, getVals, putA, stripAt, AVal.strip, stripL, rd, hc3]; rfl) (List.Sublist.refl _) ?_)
    cases h
    refine ⟨_, rfl, ?_, ?_⟩
    · simp (disch := omega) only [vmE, liE, eE, seval, deE, fxE, retOf, maskA, setVals, getVals, putA, stripAt, AVal.strip, stripL, rd, hc3]
    · simp (disch := omega) only [vmE, liE, eE, seval, deE, fxE, retOf, maskA, setVals, getVals, putA, stripAt, AVal.strip, stripL, rd, hc3]
theorem jsondoc_Get_w {N : Nat} {a0 : ApiValue} {a1 : (List UInt8)} {r : ApiValue × Bool} (h : jsondoc_Get N a0 a1 = some r) {n : Nat} {m : List (Nat × List AVal)} :
    ACall vE 51 [.agg [.int .i64 a0.kind, .str a0.text, .slice 1 (List.map AVal.str a0.keys) false, .slice 4 (List.map encApiValue a0.items) false], .str a1] ⟨m, n⟩ fun r' st => r' = .tuple [.agg [.int .i64 r.1.kind, .str r.1.text, .slice 1 (List.map AVal.str r.1.keys) false, .slice 4 (List.map encApiValue r.1.items) false], .bool r.2] ∧ st.m = m := by
  rw [jsondoc_Get] at h
  refine ACall.strip ?_
  refine acall_k Try.func51 rfl ?_
  intro R hR
  refine AWp.congr (by simp only [Try.ntmps51, liE, seval]; rfl) ?_
  refine awp_seq_k ?_
  intro K1 hK1
  refine awp_region' [] ?_
  intro K2 hK2
  simp (disch := omega) only [vmE, liE, eE, seval, deE, fxE, retOf, maskA, setVals, getVals, putA, stripAt, AVal.strip, stripL, rd]
  refine hK2 _ _ (kPost_normal (hK1 _ _ ?_))
  refine awp_seq_k ?_
  intro K3 hK3
  replace h := joinK_some h
  rcases h with ⟨k5, hk5, h⟩
  refine awp_join [5, 6, 7, 8, 9, 10, 11, 12, 13, 14, 15, 16, 17, 18, 19, 20, 21, 22, 23, 24, 25, 26, 27, 28, 29, 30, 31, 32, 33, 34, 35, 36] [] (fun vs st' => ∃ j4 : Unit, vs = [] ∧ st'.m = ((n + 1), [.int .i64 0, .str [], .slice 1 (List.map AVal.str []) true, .slice 4 (List.map encApiValue []) true]) :: (n, [.int .i64 a0.kind, .str a0.text, .slice 1 (List.map AVal.str a0.keys) false, .slice 4 (List.map encApiValue a0.items) false]) :: m ∧ k5 j4 = some r) hK3 ?_ ?_
  · clear h
    rintro _ ⟨m6, n7⟩ ⟨j4, rfl, hm, h⟩
    simp only [] at hm
    replace hm := hm.symm
    subst hm
    replace h := hk5 _ _ h
    clear hk5 k5
    refine AWp.known fun _ hkl => ?_
    simp only [] at hkl
    obtain ⟨_, hkl⟩ := keysLt_cons hkl
    obtain ⟨_, hkl⟩ := keysLt_cons hkl
    clear hkl
    refine AWp.congr (by simp (disch := omega) only [vmE, liE, eE, seval, deE, fxE, retOf, maskA, setVals, getVals, putA, stripAt, AVal.strip, stripL, rd]; rfl) ?_
    refine awp_seq_k ?_
    intro K39 hK39
    refine awp_region' [] ?_
    intro K40 hK40
    simp (disch := omega) only [vmE, liE, eE, seval, deE, fxE, retOf, maskA, setVals, getVals, putA, stripAt, AVal.strip, stripL, rd]
    refine hK40 _ _ (kPost_normal (hK39 _ _ ?_))
    refine awp_ret ?_
    refine hR _ _ _ (retPost_r (by simp (disch := omega) only [Try.results51, vmE, liE, eE, seval, deE, fxE, retOf, maskA, setVals, getVals, putA, stripAt, AVal.strip, stripL, rd]; rfl) (.cons _ (.cons _ (List.Sublist.refl _))) ?_)
    cases h
    refine ⟨?_, ?_⟩
    · simp (disch := omega) only [vmE, liE, eE, seval, deE, fxE, retOf, maskA, setVals, getVals, putA, stripAt, AVal.strip, stripL, rd]
    · rfl
  · intro J41 hJ41
    refine awp_seq_k ?_
    intro K8 hK8
    refine awp_region' [] ?_
    intro K9 hK9
    simp (disch := omega) only [vmE, liE, eE, seval, deE, fxE, retOf, maskA, setVals, getVals, putA, stripAt, AVal.strip, stripL, rd]
    refine hK9 _ _ (kPost_normal (hK8 _ _ ?_))
    refine awp_block_k ?_
    intro K10 hK10
    refine awp_loop_v [5, 6, 7, 12, 13, 14, 15, 16, 17, 18, 19, 20, 21, 22, 23, 24, 25, 26, 27, 28, 29, 30, 31, 32, 33, 34, 35, 36] [11] (fun k vs st' => ∃ (s11 : Int), vs = [.int .i64 s11] ∧ st'.m = ((n + 1), [.int .i64 0, .str [], .slice 1 (List.map AVal.str []) true, .slice 4 (List.map encApiValue []) true]) :: (n, [.int .i64 a0.kind, .str a0.text, .slice 1 (List.map AVal.str a0.keys) false, .slice 4 (List.map encApiValue a0.items) false]) :: m ∧ jsondoc_Get_L1 N a0 a1 k5 k s11 = some r) N ⟨0, ?_, ?_, h⟩ ?_
    · simp (disch := omega) only [vmE, liE, eE, seval, deE, fxE, retOf, maskA, setVals, getVals, putA, stripAt, AVal.strip, stripL, rd]
    · simp (disch := omega) only [vmE, liE, eE, seval, deE, fxE, retOf, maskA, setVals, getVals, putA, stripAt, AVal.strip, stripL, rd]
    · clear h
      rintro k11 _ ⟨m38, nL0_1⟩ ⟨s11, rfl, hm, h⟩ J37 hJ37
      simp only [] at hm
      replace hm := hm.symm
      subst hm
      rcases k11 with _ | k11
      · simp only [jsondoc_Get_L1, reduceCtorEq] at h
      rw [jsondoc_Get_L1] at h
      refine AWp.known fun _ hkl => ?_
      simp only [] at hkl
      obtain ⟨_, hkl⟩ := keysLt_cons hkl
      obtain ⟨_, hkl⟩ := keysLt_cons hkl
      clear hkl
      refine AWp.congr (by simp (disch := omega) only [vmE, liE, eE, seval, deE, fxE, retOf, maskA, setVals, getVals, putA, stripAt, AVal.strip, stripL, rd]; rfl) ?_
      refine awp_seq_k ?_
      intro K12 hK12
      refine awp_region' [] ?_
      intro K13 hK13
      simp (disch := omega) only [vmE, liE, eE, seval, deE, fxE, retOf, maskA, setVals, getVals, putA, stripAt, AVal.strip, stripL, rd]
      refine hK13 _ _ (kPost_normal (hK12 _ _ ?_))
      refine awp_seq_k ?_
      intro K14 hK14
      replace h := ite_some h
      rcases h with ⟨hc15, h⟩ | ⟨hc15, h⟩
      · refine awp_cond_t rfl hc15 ?_
        refine awp_skip ?_
        refine kPost_normal (hK14 _ _ ?_)
        refine awp_seq_k ?_
        intro K16 hK16
        refine awp_block_k ?_
        intro K17 hK17
        refine awp_seq_k ?_
        intro K18 hK18
        replace h := bind_some h
        rcases h with ⟨x20, hx21, h⟩
        refine awp_region' [] ?_
        intro K19 hK19
        simp (disch := omega) only [vmE, liE, eE, seval, deE, fxE, retOf, maskA, setVals, getVals, putA, stripAt, AVal.strip, stripL, rd, hc15, hx21]
        refine hK19 _ _ (kPost_normal (hK18 _ _ ?_))
        refine awp_seq_k ?_
        intro K22 hK22
        replace h := joinK_some h
        rcases h with ⟨k24, hk24, h⟩
        refine awp_join [16, 17, 18, 19, 20, 21, 22, 23, 24, 25, 26, 27, 28, 29] [30] (fun vs st' => ∃ j23 : Bool, vs = [.bool j23] ∧ st'.m = ((n + 1), [.int .i64 0, .str [], .slice 1 (List.map AVal.str []) true, .slice 4 (List.map encApiValue []) true]) :: (n, [.int .i64 a0.kind, .str a0.text, .slice 1 (List.map AVal.str a0.keys) false, .slice 4 (List.map encApiValue a0.items) false]) :: m ∧ k24 j23 = some r) hK22 ?_ ?_
        · clear h
          rintro _ ⟨m25, n26⟩ ⟨j23, rfl, hm, h⟩
          simp only [] at hm
          replace hm := hm.symm
          subst hm
          replace h := hk24 _ _ h
          clear hk24 k24
          refine AWp.known fun _ hkl => ?_
          simp only [] at hkl
          obtain ⟨_, hkl⟩ := keysLt_cons hkl
          obtain ⟨_, hkl⟩ := keysLt_cons hkl
          clear hkl
          refine AWp.congr (by simp (disch := omega) only [vmE, liE, eE, seval, deE, fxE, retOf, maskA, setVals, getVals, putA, stripAt, AVal.strip, stripL, rd]; rfl) ?_
          replace h := ite_some h
          rcases h with ⟨hc30, h⟩ | ⟨hc30, h⟩
          · refine awp_cond_t rfl hc30 ?_
            refine awp_seq_k ?_
            intro K31 hK31
            replace h := bind_some h
            rcases h with ⟨x33, hx34, h⟩
            refine awp_region' [] ?_
            intro K32 hK32
            simp (disch := omega) only [vmE, liE, eE, seval, deE, fxE, retOf, maskA, setVals, getVals, putA, stripAt, AVal.strip, stripL, rd, hc15, hx21, hc30, hx34]
            refine hK32 _ _ (kPost_normal (hK31 _ _ ?_))
            refine awp_ret ?_
            refine bPost_ret (kPost_ret (kPost_ret (bPost_ret (kPost_ret (hR _ _ _ (retPost_r (by simp (disch := omega) only [Try.results51, vmE, liE, eE, seval, deE, fxE, retOf, maskA, setVals, getVals, putA, stripAt, AVal.strip, stripL, rd, hc15, hx21, hc30, hx34]; rfl) (.cons _ (.cons _ (List.Sublist.refl _))) ?_))))))
            cases h
            refine ⟨?_, ?_⟩
            · simp (disch := omega) only [vmE, liE, eE, seval, deE, fxE, retOf, maskA, setVals, getVals, putA, stripAt, AVal.strip, stripL, rd, hc15, hx21, hc30, hx34]
            · rfl
          · refine awp_cond_f rfl hc30 ?_
            refine awp_skip ?_
            refine bPost_normal (hK17 _ _ (kPost_normal (hK16 _ _ ?_)))
            refine awp_region' [] ?_
            intro K35 hK35
            simp (disch := omega) only [vmE, liE, eE, seval, deE, fxE, retOf, maskA, setVals, getVals, putA, stripAt, AVal.strip, stripL, rd, hc15, hx21, hc30]
            refine hK35 _ _ (kPost_normal (hJ37 k11 _ _ _ (Nat.lt_succ_self _) (List.Sublist.refl _) ?_ ⟨(wr .i64 (s11 + 1)), ?_, ?_, h⟩)) <;> simp (disch := omega) only [vmE, liE, eE, seval, deE, fxE, retOf, maskA, setVals, getVals, putA, stripAt, AVal.strip, stripL, rd, hc15, hx21, hc30]
        · intro J36 hJ36
          replace h := ite_some h
          rcases h with ⟨hc28, h⟩ | ⟨hc28, h⟩
          · replace h := ite_some h
            rcases h with ⟨hc29, h⟩ | ⟨hc29, h⟩
            · refine awp_region' [] ?_
              intro K27 hK27
              simp (disch := omega) only [vmE, liE, eE, seval, deE, fxE, retOf, maskA, setVals, getVals, putA, stripAt, AVal.strip, stripL, rd, hc15, hx21, hc28, hc29]
              refine hK27 _ _ (kPost_normal (hJ36 _ _ _ (List.Sublist.refl _) ?_ ⟨(x20 == a1), ?_, ?_, h⟩)) <;> simp (disch := omega) only [vmE, liE, eE, seval, deE, fxE, retOf, maskA, setVals, getVals, putA, stripAt, AVal.strip, stripL, rd, hc15, hx21, hc28, hc29]
            · refine awp_region' [] ?_
              intro K27 hK27
              simp (disch := omega) only [vmE, liE, eE, seval, deE, fxE, retOf, maskA, setVals, getVals, putA, stripAt, AVal.strip, stripL, rd, hc15, hx21, hc28, hc29]
              refine hK27 _ _ (kPost_normal (hJ36 _ _ _ (List.Sublist.refl _) ?_ ⟨false, ?_, ?_, h⟩)) <;> simp (disch := omega) only [vmE, liE, eE, seval, deE, fxE, retOf, maskA, setVals, getVals, putA, stripAt, AVal.strip, stripL, rd, hc15, hx21, hc28, hc29]
          · refine awp_region' [] ?_
            intro K27 hK27
            simp (disch := omega) only [vmE, liE, eE, seval, deE, fxE, retOf, maskA, setVals, getVals, putA, stripAt, AVal.strip, stripL, rd, hc15, hx21, hc28]
            refine hK27 _ _ (kPost_normal (hJ36 _ _ _ (List.Sublist.refl _) ?_ ⟨false, ?_, ?_, h⟩)) <;> simp (disch := omega) only [vmE, liE, eE, seval, deE, fxE, retOf, maskA, setVals, getVals, putA, stripAt, AVal.strip, stripL, rd, hc15, hx21, hc28]
      · refine awp_cond_f rfl hc15 ?_
        refine awp_exit ?_
        refine kPost_exit (kPost_exit (bPost_here (hK10 _ _ (kPost_normal (hJ41 _ _ _ (List.Sublist.refl _) ?_ ⟨(), ?_, ?_, h⟩))))) <;> simp (disch := omega) only [vmE, liE, eE, seval, deE, fxE, retOf, maskA, setVals, getVals, putA, stripAt, AVal.strip, stripL, rd, hc15]
theorem jrd_count_w {N : Nat} {a0 : ApiValue} {r : Int} (h : jrd_count N a0 = some r) {n : Nat} {m : List (Nat × List AVal)} :
    ACall vE 53 [.agg [.int .i64 a0.kind, .str a0.text, .slice 1 (List.map AVal.str a0.keys) false, .slice 4 (List.map encApiValue a0.items) false]] ⟨m, n⟩ fun r' st => r' = .int .i64 r ∧ st.m = m := by
  rw [jrd_count] at h
  refine acall_k Try.func53 rfl ?_
  intro R hR
  refine AWp.congr (by simp only [Try.ntmps53, liE, seval]; rfl) ?_
  refine awp_seq_k ?_
  intro K1 hK1
  refine awp_region' [] ?_
  intro K2 hK2
  simp (disch := omega) only [vmE, liE, eE, seval, deE, fxE, retOf, maskA, setVals, getVals, putA, stripAt, AVal.strip, stripL, rd]
  refine hK2 _ _ (kPost_normal (hK1 _ _ ?_))
  refine awp_seq_k ?_
  intro K3 hK3
  refine awp_seq_k ?_
  intro K4 hK4
  refine awp_region' [] ?_
  intro K5 hK5
  simp (disch := omega) only [vmE, liE, eE, seval, deE, fxE, retOf, maskA, setVals, getVals, putA, stripAt, AVal.strip, stripL, rd]
  refine hK5 _ _ (kPost_normal (hK4 _ _ ?_))
  replace h := ite_some h
  rcases h with ⟨hc6, h⟩ | ⟨hc6, h⟩
  · refine awp_cond_t rfl hc6 ?_
    refine awp_seq_k ?_
    intro K7 hK7
    refine awp_region' [] ?_
    intro K8 hK8
    simp (disch := omega) only [vmE, liE, eE, seval, deE, fxE, retOf, maskA, setVals, getVals, putA, stripAt, AVal.strip, stripL, rd, hc6]
    refine hK8 _ _ (kPost_normal (hK7 _ _ ?_))
    refine awp_ret ?_
    refine kPost_ret (hR _ _ _ (retPost_r (by simp (disch := omega) only [Try.results53, vmE, liE, eE, seval, deE, fxE, retOf, maskA, setVals, getVals, putA, stripAt, AVal.strip, stripL, rd, hc6]; rfl) (.cons _ (List.Sublist.refl _)) ?_))
    cases h
    refine ⟨?_, ?_⟩
    · simp (disch := omega) only [vmE, liE, eE, seval, deE, fxE, retOf, maskA, setVals, getVals, putA, stripAt, AVal.strip, stripL, rd, hc6]
    · rfl
  · refine awp_cond_f rfl hc6 ?_
    refine awp_skip ?_
    refine kPost_normal (hK3 _ _ ?_)
    refine awp_seq_k ?_
    intro K9 hK9
    refine awp_region' [] ?_
    intro K10 hK10
    simp (disch := omega) only [vmE, liE, eE, seval, deE, fxE, retOf, maskA, setVals, getVals, putA, stripAt, AVal.strip, stripL, rd, hc6]
    refine hK10 _ _ (kPost_normal (hK9 _ _ ?_))
    refine awp_ret ?_
    refine hR _ _ _ (retPost_r (by simp (disch := omega) only [Try.results53, vmE, liE, eE, seval, deE, fxE, retOf, maskA, setVals, getVals, putA, stripAt, AVal.strip, stripL, rd, hc6]; rfl) (.cons _ (List.Sublist.refl _)) ?_)
    cases h
    refine ⟨?_, ?_⟩
    · simp (disch := omega) only [vmE, liE, eE, seval, deE, fxE, retOf, maskA, setVals, getVals, putA, stripAt, AVal.strip, stripL, rd, hc6]
    · rfl
theorem jrd_Find_w {N : Nat} {a0 : ApiJRD} {a1 : (List UInt8)} {r : (List ApiLink)} (h : jrd_Find N a0 a1 = some r) {n : Nat} {m : List (Nat × List AVal)} :
    ACall vE 17 [.agg [.str a0.subject, .slice 1 (List.map AVal.str a0.aliases) false, .slice 3 (List.map encApiProperty a0.properties) false, .slice 6 (List.map encApiLink a0.links) false], .str a1] ⟨m, n⟩ fun r' st => r' = .slice 6 (List.map encApiLink r) false ∧ st.m = m := by
  rw [jrd_Find] at h
  refine acall_k Try.func17 rfl ?_
  intro R hR
  refine AWp.congr (by simp only [Try.ntmps17, liE, seval]; rfl) ?_
  refine awp_seq_k ?_
  intro K1 hK1
  refine awp_region' [] ?_
  intro K2 hK2
  simp (disch := omega) only [vmE, liE, eE, seval, deE, fxE, retOf, maskA, setVals, getVals, putA, stripAt, AVal.strip, stripL, rd]
  refine hK2 _ _ (kPost_normal (hK1 _ _ ?_))
  refine awp_seq_k ?_
  intro K3 hK3
  refine awp_region' [] ?_
  intro K4 hK4
  simp (disch := omega) only [vmE, liE, eE, seval, deE, fxE, retOf, maskA, setVals, getVals, putA, stripAt, AVal.strip, stripL, rd]
  refine hK4 _ _ (kPost_normal (hK3 _ _ ?_))
  refine awp_seq_k ?_
  intro K5 hK5
  replace h := joinK_some h
  rcases h with ⟨k7, hk7, h⟩
  refine awp_join [7, 8, 9, 10, 11, 12, 13, 14, 15, 16, 17, 18, 19, 20, 21, 22, 23, 24, 25, 26, 27, 28, 29, 30, 31] [5] (fun vs st' => ∃ j6 : (List ApiLink), vs = [.slice 6 (List.map encApiLink j6) true] ∧ st'.m = (n, [.str a0.subject, .slice 1 (List.map AVal.str a0.aliases) false, .slice 3 (List.map encApiProperty a0.properties) false, .slice 6 (List.map encApiLink a0.links) false]) :: m ∧ k7 j6 = some r) hK5 ?_ ?_
  · clear h
    rintro _ ⟨m8, n9⟩ ⟨j6, rfl, hm, h⟩
    simp only [] at hm
    replace hm := hm.symm
    subst hm
    replace h := hk7 _ _ h
    clear hk7 k7
    refine AWp.known fun _ hkl => ?_
    simp only [] at hkl
    obtain ⟨_, hkl⟩ := keysLt_cons hkl
    clear hkl
    refine AWp.congr (by simp (disch := omega) only [vmE, liE, eE, seval, deE, fxE, retOf, maskA, setVals, getVals, putA, stripAt, AVal.strip, stripL, rd]; rfl) ?_
    refine awp_seq_k ?_
    intro K43 hK43
    refine awp_region' [] ?_
    intro K44 hK44
    simp (disch := omega) only [vmE, liE, eE, seval, deE, fxE, retOf, maskA, setVals, getVals, putA, stripAt, AVal.strip, stripL, rd]
    refine hK44 _ _ (kPost_normal (hK43 _ _ ?_))
    refine awp_ret ?_
    refine hR _ _ _ (retPost_r (by simp (disch := omega) only [Try.results17, vmE, liE, eE, seval, deE, fxE, retOf, maskA, setVals, getVals, putA, stripAt, AVal.strip, stripL, rd]; rfl) (.cons _ (List.Sublist.refl _)) ?_)
    cases h
    refine ⟨?_, ?_⟩
    · simp (disch := omega) only [vmE, liE, eE, seval, deE, fxE, retOf, maskA, setVals, getVals, putA, stripAt, AVal.strip, stripL, rd]
    · rfl
  · intro J45 hJ45
    refine awp_seq_k ?_
    intro K10 hK10
    refine awp_region' [] ?_
    intro K11 hK11
    simp (disch := omega) only [vmE, liE, eE, seval, deE, fxE, retOf, maskA, setVals, getVals, putA, stripAt, AVal.strip, stripL, rd]
    refine hK11 _ _ (kPost_normal (hK10 _ _ ?_))
    refine awp_block_k ?_
    intro K12 hK12
    refine awp_loop_v [7, 12, 13, 14, 15, 16, 17, 18, 19, 20, 21, 22, 23, 24, 25, 26, 27, 28, 29, 30, 31] [5, 11] (fun k vs st' => ∃ (s5 : (List ApiLink)) (s11 : Int), vs = [.slice 6 (List.map encApiLink s5) true, .int .i64 s11] ∧ st'.m = (n, [.str a0.subject, .slice 1 (List.map AVal.str a0.aliases) false, .slice 3 (List.map encApiProperty a0.properties) false, .slice 6 (List.map encApiLink a0.links) false]) :: m ∧ jrd_Find_L1 N a0 a1 k7 k s5 s11 = some r) N ⟨[], 0, ?_, ?_, h⟩ ?_
    · simp (disch := omega) only [vmE, liE, eE, seval, deE, fxE, retOf, maskA, setVals, getVals, putA, stripAt, AVal.strip, stripL, rd]
    · simp (disch := omega) only [vmE, liE, eE, seval, deE, fxE, retOf, maskA, setVals, getVals, putA, stripAt, AVal.strip, stripL, rd]
    · clear h
      rintro k13 _ ⟨m42, nL0_1⟩ ⟨s5, s11, rfl, hm, h⟩ J41 hJ41
      simp only [] at hm
      replace hm := hm.symm
      subst hm
      rcases k13 with _ | k13
      · simp only [jrd_Find_L1, reduceCtorEq] at h
      rw [jrd_Find_L1] at h
      refine AWp.known fun _ hkl => ?_
      simp only [] at hkl
      obtain ⟨_, hkl⟩ := keysLt_cons hkl
      clear hkl
      refine AWp.congr (by simp (disch := omega) only [vmE, liE, eE, seval, deE, fxE, retOf, maskA, setVals, getVals, putA, stripAt, AVal.strip, stripL, rd]; rfl) ?_
      refine awp_seq_k ?_
      intro K14 hK14
      refine awp_region' [] ?_
      intro K15 hK15
      simp (disch := omega) only [vmE, liE, eE, seval, deE, fxE, retOf, maskA, setVals, getVals, putA, stripAt, AVal.strip, stripL, rd]
      refine hK15 _ _ (kPost_normal (hK14 _ _ ?_))
      refine awp_seq_k ?_
      intro K16 hK16
      replace h := ite_some h
      rcases h with ⟨hc17, h⟩ | ⟨hc17, h⟩
      · refine awp_cond_t rfl hc17 ?_
        refine awp_skip ?_
        refine kPost_normal (hK16 _ _ ?_)
        refine awp_seq_k ?_
        intro K18 hK18
        replace h := joinK_some h
        rcases h with ⟨k20, hk20, h⟩
        refine awp_join [7, 13, 14, 15, 16, 17, 18, 19, 20, 21, 22, 23, 24, 25, 26, 27, 28, 29, 30] [5] (fun vs st' => ∃ j19 : (List ApiLink), vs = [.slice 6 (List.map encApiLink j19) true] ∧ st'.m = (n, [.str a0.subject, .slice 1 (List.map AVal.str a0.aliases) false, .slice 3 (List.map encApiProperty a0.properties) false, .slice 6 (List.map encApiLink a0.links) false]) :: m ∧ k20 j19 = some r) hK18 ?_ ?_
        · clear h
          rintro _ ⟨m21, n22⟩ ⟨j19, rfl, hm, h⟩
          simp only [] at hm
          replace hm := hm.symm
          subst hm
          replace h := hk20 _ _ h
          clear hk20 k20
          refine AWp.known fun _ hkl => ?_
          simp only [] at hkl
          obtain ⟨_, hkl⟩ := keysLt_cons hkl
          clear hkl
          refine AWp.congr (by simp (disch := omega) only [vmE, liE, eE, seval, deE, fxE, retOf, maskA, setVals, getVals, putA, stripAt, AVal.strip, stripL, rd]; rfl) ?_
          refine awp_region' [] ?_
          intro K39 hK39
          simp (disch := omega) only [vmE, liE, eE, seval, deE, fxE, retOf, maskA, setVals, getVals, putA, stripAt, AVal.strip, stripL, rd, hc17]
          refine hK39 _ _ (kPost_normal (hJ41 k13 _ _ _ (Nat.lt_succ_self _) (List.Sublist.refl _) ?_ ⟨j19, (wr .i64 (s11 + 1)), ?_, ?_, h⟩)) <;> simp (disch := omega) only [vmE, liE, eE, seval, deE, fxE, retOf, maskA, setVals, getVals, putA, stripAt, AVal.strip, stripL, rd, hc17]
        · intro J40 hJ40
          refine awp_block_k ?_
          intro K23 hK23
          refine awp_seq_k ?_
          intro K24 hK24
          replace h := bind_some h
          rcases h with ⟨x26, hx27, h⟩
          refine awp_region' [] ?_
          intro K25 hK25
          simp (disch := omega) only [vmE, liE, eE, seval, deE, fxE, retOf, maskA, setVals, getVals, putA, stripAt, AVal.strip, stripL, rd, hc17, hx27]
          refine hK25 _ _ (kPost_normal (hK24 _ _ ?_))
          refine awp_seq_k ?_
          intro K28 hK28
          refine awp_region' [] ?_
          intro K29 hK29
          simp (disch := omega) only [vmE, liE, eE, seval, deE, fxE, retOf, maskA, setVals, getVals, putA, stripAt, AVal.strip, stripL, rd, hc17, hx27]
          refine hK29 _ _ (kPost_normal (hK28 _ _ ?_))
          replace h := ite_some h
          rcases h with ⟨hc30, h⟩ | ⟨hc30, h⟩
          · refine awp_cond_t rfl hc30 ?_
            refine awp_seq_k ?_
            intro K31 hK31
            replace h := grd_some h
            rcases h with ⟨hg33, h⟩
            try simp only [liE, seval] at hg33
            refine awp_region' [] ?_
            intro K32 hK32
            simp (disch := omega) only [vmE, liE, eE, seval, deE, fxE, retOf, maskA, setVals, getVals, putA, stripAt, AVal.strip, stripL, rd, hc17, hx27, hc30, hg33]
            refine hK32 _ _ (kPost_normal (hK31 _ _ ?_))
            refine awp_seq_k ?_
            intro K34 hK34
            replace h := grd_some h
            rcases h with ⟨hg36, h⟩
            try simp only [liE, seval] at hg36
            refine awp_region' [] ?_
            intro K35 hK35
            simp (disch := omega) only [vmE, liE, eE, seval, deE, fxE, retOf, maskA, setVals, getVals, putA, stripAt, AVal.strip, stripL, rd, hc17, hx27, hc30, hg33, hg36]
            refine hK35 _ _ (kPost_normal (hK34 _ _ ?_))
            replace h := grd_some h
            rcases h with ⟨hg38, h⟩
            try simp only [liE, seval] at hg38
            refine awp_region' [27] ?_
            intro K37 hK37
            simp (disch := omega) only [vmE, liE, eE, seval, deE, fxE, retOf, maskA, setVals, getVals, putA, stripAt, AVal.strip, stripL, rd, hc17, hx27, hc30, hg33, hg36, hg38]
            refine hK37 _ _ (bPost_normal (hK23 _ _ (kPost_normal (hJ40 _ _ _ (.cons _ (List.Sublist.refl _)) ?_ ⟨(s5 ++ [x26]), ?_, ?_, h⟩)))) <;> simp (disch := omega) only [vmE, liE, eE, seval, deE, fxE, retOf, maskA, setVals, getVals, putA, stripAt, AVal.strip, stripL, rd, hc17, hx27, hc30, hg33, hg36, hg38]
          · refine awp_cond_f rfl hc30 ?_
            refine awp_skip ?_
            refine bPost_normal (hK23 _ _ (kPost_normal (hJ40 _ _ _ (.cons _ (List.Sublist.refl _)) ?_ ⟨s5, ?_, ?_, h⟩))) <;> simp (disch := omega) only [vmE, liE, eE, seval, deE, fxE, retOf, maskA, setVals, getVals, putA, stripAt, AVal.strip, stripL, rd, hc17, hx27, hc30]
      · refine awp_cond_f rfl hc17 ?_
        refine awp_exit ?_
        refine kPost_exit (kPost_exit (bPost_here (hK12 _ _ (kPost_normal (hJ45 _ _ _ (List.Sublist.refl _) ?_ ⟨s5, ?_, ?_, h⟩))))) <;> simp (disch := omega) only [vmE, liE, eE, seval, deE, fxE, retOf, maskA, setVals, getVals, putA, stripAt, AVal.strip, stripL, rd, hc17]
end Go.Proofs.Ytdbeiialamganaa
