/- That the code computes these functions; written by decomp.py. -/
import Derived.Test.YtdbeiialamganaaVmFacts
import Derived.Test.YtdbeiialamganaaDefs
import Derived.Test.YtdbeiialamganaaVMSets
set_option linter.unusedVariables false
set_option linter.unusedSimpArgs false
set_option maxHeartbeats 4000000
set_option maxRecDepth 100000
set_option linter.defProp false
namespace Go.Proofs.Ytdbeiialamganaa
open Go.VM
theorem ref14_parser_stop_w {N : Nat} {a0 : Ref14Parser} {a1 : Int} {a2 : Int} {r : Ref14Parser} (h : ref14_parser_stop N a0 a1 a2 = some r) {n : Nat} {m : List (Nat × List AVal)} {i0 : Nat} (hi0 : mget m i0 = some [.str a0.s, .int .i64 a0.at_, .int .i64 a0.nodes, .int .i64 a0.fail, .int .i64 a0.where_]) :
    ACall vE 25 [.ptr i0 0, .int .i64 a1, .int .i64 a2] ⟨m, n⟩ fun r' st => r' = .tuple [] ∧ st.m = mset m i0 [.str r.s, .int .i64 r.at_, .int .i64 r.nodes, .int .i64 r.fail, .int .i64 r.where_] := by
  rw [ref14_parser_stop] at h
  refine ACall.front hi0 ?_
  intro hin
  refine acall_k Try.func25 rfl ?_
  intro R hR
  refine AWp.congr (by simp only [Try.ntmps25, liE, seval]; rfl) ?_
  refine awp_seq_k ?_
  intro K1 hK1
  refine awp_region' [] ?_
  intro K2 hK2
  simp (disch := omega) only [vmE, liE, eE, seval, deE, fxE, retOf, maskA, setVals, getVals, putA, stripAt, AVal.strip, stripL, rd]
  refine hK2 _ _ (kPost_normal (hK1 _ _ ?_))
  replace h := ite_some h
  rcases h with ⟨hc3, h⟩ | ⟨hc3, h⟩
  · refine awp_cond_t rfl hc3 ?_
    refine awp_region' [] ?_
    intro K4 hK4
    simp (disch := omega) only [vmE, liE, eE, seval, deE, fxE, retOf, maskA, setVals, getVals, putA, stripAt, AVal.strip, stripL, rd, hc3]
    refine hK4 _ _ (hR _ _ _ (retPost_n (by simp (disch := omega) only [Try.results25, vmE, liE, eE, seval, deE, fxE, retOf, maskA, setVals, getVals, putA, stripAt, AVal.strip, stripL, rd, hc3]; rfl) (List.Sublist.refl _) ?_))
    cases h
    refine ⟨_, rfl, ?_, ?_⟩
    · simp (disch := omega) only [vmE, liE, eE, seval, deE, fxE, retOf, maskA, setVals, getVals, putA, stripAt, AVal.strip, stripL, rd, hc3]
    · simp (disch := omega) only [vmE, liE, eE, seval, deE, fxE, retOf, maskA, setVals, getVals, putA, stripAt, AVal.strip, stripL, rd, hc3]
  · refine awp_cond_f rfl hc3 ?_
    refine awp_skip ?_
    refine hR _ _ _ (retPost_n (by simp (disch := omega) only [Try.results25, vmE, liE, eE, seval, deE, fxE, retOf, maskA, setVals, getVals, putA, stripAt, AVal.strip, stripL, rd, hc3]; rfl) (List.Sublist.refl _) ?_)
    cases h
    refine ⟨_, rfl, ?_, ?_⟩
    · simp (disch := omega) only [vmE, liE, eE, seval, deE, fxE, retOf, maskA, setVals, getVals, putA, stripAt, AVal.strip, stripL, rd, hc3]
    · simp (disch := omega) only [vmE, liE, eE, seval, deE, fxE, retOf, maskA, setVals, getVals, putA, stripAt, AVal.strip, stripL, rd, hc3]
theorem ref14_is_w {N : Nat} {a0 : ApiToken} {a1 : (List UInt8)} {r : Bool} (h : ref14_is N a0 a1 = some r) {n : Nat} {m : List (Nat × List AVal)} :
    ACall vE 45 [.agg [.int .i64 a0.kind, .str a0.text, .int .i64 a0.at_], .str a1] ⟨m, n⟩ fun r' st => r' = .bool r ∧ st.m = m := by
  rw [ref14_is] at h
  refine acall_k Try.func45 rfl ?_
  intro R hR
  refine AWp.congr (by simp only [Try.ntmps45, liE, seval]; rfl) ?_
  refine awp_seq_k ?_
  intro K1 hK1
  refine awp_region' [] ?_
  intro K2 hK2
  simp (disch := omega) only [vmE, liE, eE, seval, deE, fxE, retOf, maskA, setVals, getVals, putA, stripAt, AVal.strip, stripL, rd]
  refine hK2 _ _ (kPost_normal (hK1 _ _ ?_))
  refine awp_seq_k ?_
  intro K3 hK3
  replace h := ite_some h
  rcases h with ⟨hc5, h⟩ | ⟨hc5, h⟩
  · refine awp_region' [] ?_
    intro K4 hK4
    simp (disch := omega) only [vmE, liE, eE, seval, deE, fxE, retOf, maskA, setVals, getVals, putA, stripAt, AVal.strip, stripL, rd, hc5]
    refine hK4 _ _ (kPost_normal (hK3 _ _ ?_))
    refine awp_ret ?_
    refine hR _ _ _ (retPost_r (by simp (disch := omega) only [Try.results45, vmE, liE, eE, seval, deE, fxE, retOf, maskA, setVals, getVals, putA, stripAt, AVal.strip, stripL, rd, hc5]; rfl) (.cons _ (List.Sublist.refl _)) ?_)
    cases h
    refine ⟨?_, ?_⟩
    · simp (disch := omega) only [vmE, liE, eE, seval, deE, fxE, retOf, maskA, setVals, getVals, putA, stripAt, AVal.strip, stripL, rd, hc5]
    · rfl
  · refine awp_region' [] ?_
    intro K4 hK4
    simp (disch := omega) only [vmE, liE, eE, seval, deE, fxE, retOf, maskA, setVals, getVals, putA, stripAt, AVal.strip, stripL, rd, hc5]
    refine hK4 _ _ (kPost_normal (hK3 _ _ ?_))
    refine awp_ret ?_
    refine hR _ _ _ (retPost_r (by simp (disch := omega) only [Try.results45, vmE, liE, eE, seval, deE, fxE, retOf, maskA, setVals, getVals, putA, stripAt, AVal.strip, stripL, rd, hc5]; rfl) (.cons _ (List.Sublist.refl _)) ?_)
    cases h
    refine ⟨?_, ?_⟩
    · simp (disch := omega) only [vmE, liE, eE, seval, deE, fxE, retOf, maskA, setVals, getVals, putA, stripAt, AVal.strip, stripL, rd, hc5]
    · rfl
theorem ref13_tail_w {N : Nat} {a0 : (List UInt8)} {a1 : Int} {r : (List UInt8)} (h : ref13_tail N a0 a1 = some r) {n : Nat} {m : List (Nat × List AVal)} :
    ACall vE 58 [.str a0, .int .i64 a1] ⟨m, n⟩ fun r' st => r' = .str r ∧ st.m = m := by
  rw [ref13_tail] at h
  refine acall_k Try.func58 rfl ?_
  intro R hR
  refine AWp.congr (by simp only [Try.ntmps58, liE, seval]; rfl) ?_
  refine awp_seq_k ?_
  intro K1 hK1
  refine awp_region' [] ?_
  intro K2 hK2
  simp (disch := omega) only [vmE, liE, eE, seval, deE, fxE, retOf, maskA, setVals, getVals, putA, stripAt, AVal.strip, stripL, rd]
  refine hK2 _ _ (kPost_normal (hK1 _ _ ?_))
  refine awp_seq_k ?_
  intro K3 hK3
  refine awp_seq_k ?_
  intro K4 hK4
  refine awp_region' [] ?_
  intro K5 hK5
  simp (disch := omega) only [vmE, liE, eE, seval, deE, fxE, retOf, maskA, setVals, getVals, putA, stripAt, AVal.strip, stripL, rd]
  refine hK5 _ _ (kPost_normal (hK4 _ _ ?_))
  replace h := ite_some h
  rcases h with ⟨hc6, h⟩ | ⟨hc6, h⟩
  · refine awp_cond_t rfl hc6 ?_
    refine awp_seq_k ?_
    intro K7 hK7
    refine awp_region' [] ?_
    intro K8 hK8
    simp (disch := omega) only [vmE, liE, eE, seval, deE, fxE, retOf, maskA, setVals, getVals, putA, stripAt, AVal.strip, stripL, rd, hc6]
    refine hK8 _ _ (kPost_normal (hK7 _ _ ?_))
    refine awp_ret ?_
    refine kPost_ret (hR _ _ _ (retPost_r (by simp (disch := omega) only [Try.results58, vmE, liE, eE, seval, deE, fxE, retOf, maskA, setVals, getVals, putA, stripAt, AVal.strip, stripL, rd, hc6]; rfl) (List.Sublist.refl _) ?_))
    cases h
    refine ⟨?_, ?_⟩
    · simp (disch := omega) only [vmE, liE, eE, seval, deE, fxE, retOf, maskA, setVals, getVals, putA, stripAt, AVal.strip, stripL, rd, hc6]
    · rfl
  · refine awp_cond_f rfl hc6 ?_
    refine awp_skip ?_
    refine kPost_normal (hK3 _ _ ?_)
    refine awp_seq_k ?_
    intro K9 hK9
    replace h := bind_some h
    rcases h with ⟨x11, hx12, h⟩
    refine awp_region' [] ?_
    intro K10 hK10
    simp (disch := omega) only [vmE, liE, eE, seval, deE, fxE, retOf, maskA, setVals, getVals, putA, stripAt, AVal.strip, stripL, rd, hc6, hx12]
    refine hK10 _ _ (kPost_normal (hK9 _ _ ?_))
    refine awp_ret ?_
    refine hR _ _ _ (retPost_r (by simp (disch := omega) only [Try.results58, vmE, liE, eE, seval, deE, fxE, retOf, maskA, setVals, getVals, putA, stripAt, AVal.strip, stripL, rd, hc6, hx12]; rfl) (List.Sublist.refl _) ?_)
    cases h
    refine ⟨?_, ?_⟩
    · simp (disch := omega) only [vmE, liE, eE, seval, deE, fxE, retOf, maskA, setVals, getVals, putA, stripAt, AVal.strip, stripL, rd, hc6, hx12]
    · rfl
theorem ref01_In_w {N : Nat} {a0 : Int} {a1 : (List UInt8)} {r : Bool} (h : ref01_In N a0 a1 = some r) {n : Nat} {m : List (Nat × List AVal)} :
    ACall vE 61 [.int .u8 a0, .str a1] ⟨m, n⟩ fun r' st => r' = .bool r ∧ st.m = m := by
  rw [ref01_In] at h
  refine acall_k Try.func61 rfl ?_
  intro R hR
  refine AWp.congr (by simp only [Try.ntmps61, liE, seval]; rfl) ?_
  refine awp_seq_k ?_
  intro K1 hK1
  refine awp_region' [] ?_
  intro K2 hK2
  simp (disch := omega) only [vmE, liE, eE, seval, deE, fxE, retOf, maskA, setVals, getVals, putA, stripAt, AVal.strip, stripL, rd]
  refine hK2 _ _ (kPost_normal (hK1 _ _ ?_))
  refine awp_seq_k ?_
  intro K3 hK3
  replace h := joinK_some h
  rcases h with ⟨k5, hk5, h⟩
  refine awp_join [4, 5, 6, 7, 8, 9, 10, 11, 12, 13, 14, 15, 16] [] (fun vs st' => ∃ j4 : Unit, vs = [] ∧ st'.m = m ∧ k5 j4 = some r) hK3 ?_ ?_
  · clear h
    rintro _ ⟨m6, n7⟩ ⟨j4, rfl, hm, h⟩
    simp only [] at hm
    replace hm := hm.symm
    subst hm
    replace h := hk5 _ _ h
    clear hk5 k5
    refine AWp.congr (by simp (disch := omega) only [vmE, liE, eE, seval, deE, fxE, retOf, maskA, setVals, getVals, putA, stripAt, AVal.strip, stripL, rd]; rfl) ?_
    refine awp_seq_k ?_
    intro K28 hK28
    refine awp_region' [] ?_
    intro K29 hK29
    simp (disch := omega) only [vmE, liE, eE, seval, deE, fxE, retOf, maskA, setVals, getVals, putA, stripAt, AVal.strip, stripL, rd]
    refine hK29 _ _ (kPost_normal (hK28 _ _ ?_))
    refine awp_ret ?_
    refine hR _ _ _ (retPost_r (by simp (disch := omega) only [Try.results61, vmE, liE, eE, seval, deE, fxE, retOf, maskA, setVals, getVals, putA, stripAt, AVal.strip, stripL, rd]; rfl) (List.Sublist.refl _) ?_)
    cases h
    refine ⟨?_, ?_⟩
    · simp (disch := omega) only [vmE, liE, eE, seval, deE, fxE, retOf, maskA, setVals, getVals, putA, stripAt, AVal.strip, stripL, rd]
    · rfl
  · intro J30 hJ30
    refine awp_seq_k ?_
    intro K8 hK8
    refine awp_region' [] ?_
    intro K9 hK9
    simp (disch := omega) only [vmE, liE, eE, seval, deE, fxE, retOf, maskA, setVals, getVals, putA, stripAt, AVal.strip, stripL, rd]
    refine hK9 _ _ (kPost_normal (hK8 _ _ ?_))
    refine awp_block_k ?_
    intro K10 hK10
    refine awp_loop_v [4, 6, 7, 8, 9, 10, 11, 12, 13, 14, 15, 16] [5] (fun k vs st' => ∃ (s5 : Int), vs = [.int .i64 s5] ∧ st'.m = m ∧ ref01_In_L1 N a0 a1 k5 k s5 = some r) N ⟨0, ?_, ?_, h⟩ ?_
    · simp (disch := omega) only [vmE, liE, eE, seval, deE, fxE, retOf, maskA, setVals, getVals, putA, stripAt, AVal.strip, stripL, rd]
    · simp (disch := omega) only [vmE, liE, eE, seval, deE, fxE, retOf, maskA, setVals, getVals, putA, stripAt, AVal.strip, stripL, rd]
    · clear h
      rintro k11 _ ⟨m27, nL0_1⟩ ⟨s5, rfl, hm, h⟩ J26 hJ26
      simp only [] at hm
      replace hm := hm.symm
      subst hm
      rcases k11 with _ | k11
      · simp only [ref01_In_L1, reduceCtorEq] at h
      rw [ref01_In_L1] at h
      refine AWp.congr (by simp (disch := omega) only [vmE, liE, eE, seval, deE, fxE, retOf, maskA, setVals, getVals, putA, stripAt, AVal.strip, stripL, rd]; rfl) ?_
      refine awp_seq_k ?_
      intro K12 hK12
      refine awp_seq_k ?_
      intro K13 hK13
      refine awp_region' [] ?_
      intro K14 hK14
      simp (disch := omega) only [vmE, liE, eE, seval, deE, fxE, retOf, maskA, setVals, getVals, putA, stripAt, AVal.strip, stripL, rd]
      refine hK14 _ _ (kPost_normal (hK13 _ _ ?_))
      replace h := ite_some h
      rcases h with ⟨hc15, h⟩ | ⟨hc15, h⟩
      · refine awp_cond_t rfl hc15 ?_
        refine awp_skip ?_
        refine kPost_normal (hK12 _ _ ?_)
        refine awp_seq_k ?_
        intro K16 hK16
        refine awp_block_k ?_
        intro K17 hK17
        refine awp_seq_k ?_
        intro K18 hK18
        replace h := bind_some h
        rcases h with ⟨x20, hx21, h⟩
        refine awp_region' [] ?_
        intro K19 hK19
        simp (disch := omega) only [vmE, liE, eE, seval, deE, fxE, retOf, maskA, setVals, getVals, putA, stripAt, AVal.strip, stripL, rd, hc15, hx21]
        refine hK19 _ _ (kPost_normal (hK18 _ _ ?_))
        replace h := ite_some h
        rcases h with ⟨hc22, h⟩ | ⟨hc22, h⟩
        · refine awp_cond_t rfl hc22 ?_
          refine awp_seq_k ?_
          intro K23 hK23
          refine awp_region' [] ?_
          intro K24 hK24
          simp (disch := omega) only [vmE, liE, eE, seval, deE, fxE, retOf, maskA, setVals, getVals, putA, stripAt, AVal.strip, stripL, rd, hc15, hx21, hc22]
          refine hK24 _ _ (kPost_normal (hK23 _ _ ?_))
          refine awp_ret ?_
          refine bPost_ret (kPost_ret (kPost_ret (bPost_ret (kPost_ret (hR _ _ _ (retPost_r (by simp (disch := omega) only [Try.results61, vmE, liE, eE, seval, deE, fxE, retOf, maskA, setVals, getVals, putA, stripAt, AVal.strip, stripL, rd, hc15, hx21, hc22]; rfl) (List.Sublist.refl _) ?_))))))
          cases h
          refine ⟨?_, ?_⟩
          · simp (disch := omega) only [vmE, liE, eE, seval, deE, fxE, retOf, maskA, setVals, getVals, putA, stripAt, AVal.strip, stripL, rd, hc15, hx21, hc22]
          · rfl
        · refine awp_cond_f rfl hc22 ?_
          refine awp_skip ?_
          refine bPost_normal (hK17 _ _ (kPost_normal (hK16 _ _ ?_)))
          refine awp_region' [] ?_
          intro K25 hK25
          simp (disch := omega) only [vmE, liE, eE, seval, deE, fxE, retOf, maskA, setVals, getVals, putA, stripAt, AVal.strip, stripL, rd, hc15, hx21, hc22]
          refine hK25 _ _ (kPost_normal (hJ26 k11 _ _ _ (Nat.lt_succ_self _) (List.Sublist.refl _) ?_ ⟨(wr .i64 (s5 + 1)), ?_, ?_, h⟩)) <;> simp (disch := omega) only [vmE, liE, eE, seval, deE, fxE, retOf, maskA, setVals, getVals, putA, stripAt, AVal.strip, stripL, rd, hc15, hx21, hc22]
      · refine awp_cond_f rfl hc15 ?_
        refine awp_exit ?_
        refine kPost_exit (kPost_exit (bPost_here (hK10 _ _ (kPost_normal (hJ30 _ _ _ (List.Sublist.refl _) ?_ ⟨(), ?_, ?_, h⟩))))) <;> simp (disch := omega) only [vmE, liE, eE, seval, deE, fxE, retOf, maskA, setVals, getVals, putA, stripAt, AVal.strip, stripL, rd, hc15]
theorem ref01_IsDigit_w {N : Nat} {a0 : Int} {r : Bool} (h : ref01_IsDigit N a0 = some r) {n : Nat} {m : List (Nat × List AVal)} :
    ACall vE 63 [.int .u8 a0] ⟨m, n⟩ fun r' st => r' = .bool r ∧ st.m = m := by
  rw [ref01_IsDigit] at h
  refine acall_k Try.func63 rfl ?_
  intro R hR
  refine AWp.congr (by simp only [Try.ntmps63, liE, seval]; rfl) ?_
  refine awp_seq_k ?_
  intro K1 hK1
  refine awp_region' [] ?_
  intro K2 hK2
  simp (disch := omega) only [vmE, liE, eE, seval, deE, fxE, retOf, maskA, setVals, getVals, putA, stripAt, AVal.strip, stripL, rd]
  refine hK2 _ _ (kPost_normal (hK1 _ _ ?_))
  refine awp_seq_k ?_
  intro K3 hK3
  replace h := ite_some h
  rcases h with ⟨hc5, h⟩ | ⟨hc5, h⟩
  · refine awp_region' [] ?_
    intro K4 hK4
    simp (disch := omega) only [vmE, liE, eE, seval, deE, fxE, retOf, maskA, setVals, getVals, putA, stripAt, AVal.strip, stripL, rd, hc5]
    refine hK4 _ _ (kPost_normal (hK3 _ _ ?_))
    refine awp_ret ?_
    refine hR _ _ _ (retPost_r (by simp (disch := omega) only [Try.results63, vmE, liE, eE, seval, deE, fxE, retOf, maskA, setVals, getVals, putA, stripAt, AVal.strip, stripL, rd, hc5]; rfl) (List.Sublist.refl _) ?_)
    cases h
    refine ⟨?_, ?_⟩
    · simp (disch := omega) only [vmE, liE, eE, seval, deE, fxE, retOf, maskA, setVals, getVals, putA, stripAt, AVal.strip, stripL, rd, hc5]
    · rfl
  · refine awp_region' [] ?_
    intro K4 hK4
    simp (disch := omega) only [vmE, liE, eE, seval, deE, fxE, retOf, maskA, setVals, getVals, putA, stripAt, AVal.strip, stripL, rd, hc5]
    refine hK4 _ _ (kPost_normal (hK3 _ _ ?_))
    refine awp_ret ?_
    refine hR _ _ _ (retPost_r (by simp (disch := omega) only [Try.results63, vmE, liE, eE, seval, deE, fxE, retOf, maskA, setVals, getVals, putA, stripAt, AVal.strip, stripL, rd, hc5]; rfl) (List.Sublist.refl _) ?_)
    cases h
    refine ⟨?_, ?_⟩
    · simp (disch := omega) only [vmE, liE, eE, seval, deE, fxE, retOf, maskA, setVals, getVals, putA, stripAt, AVal.strip, stripL, rd, hc5]
    · rfl
theorem ref04_Format_w {N : Nat} {a0 : Int} {r : (List UInt8)} (h : ref04_Format N a0 = some r) {n : Nat} {m : List (Nat × List AVal)} :
    ACall vE 59 [.int .u64 a0] ⟨m, n⟩ fun r' st => r' = .str r ∧ st.m = m := by
  rw [ref04_Format] at h
  refine acall_k Try.func59 rfl ?_
  intro R hR
  refine AWp.congr (by simp only [Try.ntmps59, liE, seval]; rfl) ?_
  refine awp_seq_k ?_
  intro K1 hK1
  refine awp_region' [] ?_
  intro K2 hK2
  simp (disch := omega) only [vmE, liE, eE, seval, deE, fxE, retOf, maskA, setVals, getVals, putA, stripAt, AVal.strip, stripL, rd]
  refine hK2 _ _ (kPost_normal (hK1 _ _ ?_))
  refine awp_seq_k ?_
  intro K3 hK3
  refine awp_region' [] ?_
  intro K4 hK4
  simp (disch := omega) only [vmE, liE, eE, seval, deE, fxE, retOf, maskA, setVals, getVals, putA, stripAt, AVal.strip, stripL, rd]
  refine hK4 _ _ (kPost_normal (hK3 _ _ ?_))
  refine awp_block_k ?_
  intro K5 hK5
  refine awp_loop_v [2, 4, 5, 6, 7, 8, 9, 10, 11, 12, 13, 14, 15, 16] [0, 3] (fun k vs st' => ∃ (s0 : Int) (s3 : (List UInt8)), vs = [.int .u64 s0, .str s3] ∧ st'.m = m ∧ ref04_Format_L1 N k s0 s3 = some r) N ⟨a0, [], ?_, ?_, h⟩ ?_
  · simp (disch := omega) only [vmE, liE, eE, seval, deE, fxE, retOf, maskA, setVals, getVals, putA, stripAt, AVal.strip, stripL, rd]
  · simp (disch := omega) only [vmE, liE, eE, seval, deE, fxE, retOf, maskA, setVals, getVals, putA, stripAt, AVal.strip, stripL, rd]
  · clear h
    rintro k6 _ ⟨m19, nL0_1⟩ ⟨s0, s3, rfl, hm, h⟩ J18 hJ18
    simp only [] at hm
    replace hm := hm.symm
    subst hm
    rcases k6 with _ | k6
    · simp only [ref04_Format_L1, reduceCtorEq] at h
    rw [ref04_Format_L1] at h
    refine AWp.congr (by simp (disch := omega) only [vmE, liE, eE, seval, deE, fxE, retOf, maskA, setVals, getVals, putA, stripAt, AVal.strip, stripL, rd]; rfl) ?_
    refine awp_block_k ?_
    intro K7 hK7
    refine awp_seq_k ?_
    intro K8 hK8
    replace h := grd_some h
    rcases h with ⟨hg10, h⟩
    try simp only [liE, seval] at hg10
    refine awp_region' [] ?_
    intro K9 hK9
    simp (disch := omega) only [vmE, liE, eE, seval, deE, fxE, retOf, maskA, setVals, getVals, putA, stripAt, AVal.strip, stripL, rd, hg10]
    refine hK9 _ _ (kPost_normal (hK8 _ _ ?_))
    refine awp_seq_k ?_
    intro K11 hK11
    refine awp_region' [] ?_
    intro K12 hK12
    simp (disch := omega) only [vmE, liE, eE, seval, deE, fxE, retOf, maskA, setVals, getVals, putA, stripAt, AVal.strip, stripL, rd, hg10]
    refine hK12 _ _ (kPost_normal (hK11 _ _ ?_))
    refine awp_seq_k ?_
    intro K13 hK13
    refine awp_region' [] ?_
    intro K14 hK14
    simp (disch := omega) only [vmE, liE, eE, seval, deE, fxE, retOf, maskA, setVals, getVals, putA, stripAt, AVal.strip, stripL, rd, hg10]
    refine hK14 _ _ (kPost_normal (hK13 _ _ ?_))
    replace h := ite_some h
    rcases h with ⟨hc15, h⟩ | ⟨hc15, h⟩
    · refine awp_cond_t rfl hc15 ?_
      refine awp_seq_k ?_
      intro K16 hK16
      refine awp_region' [] ?_
      intro K17 hK17
      simp (disch := omega) only [vmE, liE, eE, seval, deE, fxE, retOf, maskA, setVals, getVals, putA, stripAt, AVal.strip, stripL, rd, hg10, hc15]
      refine hK17 _ _ (kPost_normal (hK16 _ _ ?_))
      refine awp_ret ?_
      refine bPost_ret (kPost_ret (bPost_ret (hR _ _ _ (retPost_r (by simp (disch := omega) only [Try.results59, vmE, liE, eE, seval, deE, fxE, retOf, maskA, setVals, getVals, putA, stripAt, AVal.strip, stripL, rd, hg10, hc15]; rfl) (List.Sublist.refl _) ?_))))
      cases h
      refine ⟨?_, ?_⟩
      · simp (disch := omega) only [vmE, liE, eE, seval, deE, fxE, retOf, maskA, setVals, getVals, putA, stripAt, AVal.strip, stripL, rd, hg10, hc15]
      · rfl
    · refine awp_cond_f rfl hc15 ?_
      refine awp_skip ?_
      refine bPost_normal (hK7 _ _ (kPost_normal (hJ18 k6 _ _ _ (Nat.lt_succ_self _) (List.Sublist.refl _) ?_ ⟨(wr .u64 (s0.tdiv 10)), ((List.map bchr [(wr .u8 (wr .u64 (48 + (s0.tmod 10))))]) ++ s3), ?_, ?_, h⟩))) <;> simp (disch := omega) only [vmE, liE, eE, seval, deE, fxE, retOf, maskA, setVals, getVals, putA, stripAt, AVal.strip, stripL, rd, hg10, hc15]
theorem ref14_word_w {N : Nat} {a0 : (List UInt8)} {r : Int} (h : ref14_word N a0 = some r) {n : Nat} {m : List (Nat × List AVal)} :
    ACall vE 47 [.str a0] ⟨m, n⟩ fun r' st => r' = .int .i64 r ∧ st.m = m := by
  rw [ref14_word] at h
  refine acall_k Try.func47 rfl ?_
  intro R hR
  refine AWp.congr (by simp only [Try.ntmps47, liE, seval]; rfl) ?_
  refine awp_seq_k ?_
  intro K1 hK1
  refine awp_region' [] ?_
  intro K2 hK2
  simp (disch := omega) only [vmE, liE, eE, seval, deE, fxE, retOf, maskA, setVals, getVals, putA, stripAt, AVal.strip, stripL, rd]
  refine hK2 _ _ (kPost_normal (hK1 _ _ ?_))
  refine awp_seq_k ?_
  intro K3 hK3
  refine awp_seq_k ?_
  intro K4 hK4
  refine awp_region' [] ?_
  intro K5 hK5
  simp (disch := omega) only [vmE, liE, eE, seval, deE, fxE, retOf, maskA, setVals, getVals, putA, stripAt, AVal.strip, stripL, rd]
  refine hK5 _ _ (kPost_normal (hK4 _ _ ?_))
  refine awp_block_k ?_
  intro K6 hK6
  refine awp_seq_k ?_
  intro K7 hK7
  refine awp_region' [] ?_
  intro K8 hK8
  simp (disch := omega) only [vmE, liE, eE, seval, deE, fxE, retOf, maskA, setVals, getVals, putA, stripAt, AVal.strip, stripL, rd]
  refine hK8 _ _ (kPost_normal (hK7 _ _ ?_))
  replace h := ite_some h
  rcases h with ⟨hc9, h⟩ | ⟨hc9, h⟩
  · refine awp_cond_t rfl hc9 ?_
    refine awp_seq_k ?_
    intro K10 hK10
    refine awp_region' [] ?_
    intro K11 hK11
    simp (disch := omega) only [vmE, liE, eE, seval, deE, fxE, retOf, maskA, setVals, getVals, putA, stripAt, AVal.strip, stripL, rd, hc9]
    refine hK11 _ _ (kPost_normal (hK10 _ _ ?_))
    refine awp_ret ?_
    refine bPost_ret (kPost_ret (hR _ _ _ (retPost_r (by simp (disch := omega) only [Try.results47, vmE, liE, eE, seval, deE, fxE, retOf, maskA, setVals, getVals, putA, stripAt, AVal.strip, stripL, rd, hc9]; rfl) (List.Sublist.refl _) ?_)))
    cases h
    refine ⟨?_, ?_⟩
    · simp (disch := omega) only [vmE, liE, eE, seval, deE, fxE, retOf, maskA, setVals, getVals, putA, stripAt, AVal.strip, stripL, rd, hc9]
    · rfl
  · refine awp_cond_f rfl hc9 ?_
    refine awp_seq_k ?_
    intro K12 hK12
    refine awp_region' [] ?_
    intro K13 hK13
    simp (disch := omega) only [vmE, liE, eE, seval, deE, fxE, retOf, maskA, setVals, getVals, putA, stripAt, AVal.strip, stripL, rd, hc9]
    refine hK13 _ _ (kPost_normal (hK12 _ _ ?_))
    replace h := ite_some h
    rcases h with ⟨hc14, h⟩ | ⟨hc14, h⟩
    · refine awp_cond_t rfl hc14 ?_
      refine awp_seq_k ?_
      intro K15 hK15
      refine awp_region' [] ?_
      intro K16 hK16
      simp (disch := omega) only [vmE, liE, eE, seval, deE, fxE, retOf, maskA, setVals, getVals, putA, stripAt, AVal.strip, stripL, rd, hc9, hc14]
      refine hK16 _ _ (kPost_normal (hK15 _ _ ?_))
      refine awp_ret ?_
      refine bPost_ret (kPost_ret (hR _ _ _ (retPost_r (by simp (disch := omega) only [Try.results47, vmE, liE, eE, seval, deE, fxE, retOf, maskA, setVals, getVals, putA, stripAt, AVal.strip, stripL, rd, hc9, hc14]; rfl) (List.Sublist.refl _) ?_)))
      cases h
      refine ⟨?_, ?_⟩
      · simp (disch := omega) only [vmE, liE, eE, seval, deE, fxE, retOf, maskA, setVals, getVals, putA, stripAt, AVal.strip, stripL, rd, hc9, hc14]
      · rfl
    · refine awp_cond_f rfl hc14 ?_
      refine awp_skip ?_
      refine bPost_normal (hK6 _ _ (kPost_normal (hK3 _ _ ?_)))
      refine awp_seq_k ?_
      intro K17 hK17
      refine awp_region' [] ?_
      intro K18 hK18
      simp (disch := omega) only [vmE, liE, eE, seval, deE, fxE, retOf, maskA, setVals, getVals, putA, stripAt, AVal.strip, stripL, rd, hc9, hc14]
      refine hK18 _ _ (kPost_normal (hK17 _ _ ?_))
      refine awp_ret ?_
      refine hR _ _ _ (retPost_r (by simp (disch := omega) only [Try.results47, vmE, liE, eE, seval, deE, fxE, retOf, maskA, setVals, getVals, putA, stripAt, AVal.strip, stripL, rd, hc9, hc14]; rfl) (List.Sublist.refl _) ?_)
      cases h
      refine ⟨?_, ?_⟩
      · simp (disch := omega) only [vmE, liE, eE, seval, deE, fxE, retOf, maskA, setVals, getVals, putA, stripAt, AVal.strip, stripL, rd, hc9, hc14]
      · rfl
theorem ref02_point_w {N : Nat} {a0 : Int} {r : Bool} (h : ref02_point N a0 = some r) {n : Nat} {m : List (Nat × List AVal)} :
    ACall vE 72 [.int .i64 a0] ⟨m, n⟩ fun r' st => r' = .bool r ∧ st.m = m := by
  rw [ref02_point] at h
  refine acall_k Try.func72 rfl ?_
  intro R hR
  refine AWp.congr (by simp only [Try.ntmps72, liE, seval]; rfl) ?_
  refine awp_seq_k ?_
  intro K1 hK1
  refine awp_region' [] ?_
  intro K2 hK2
  simp (disch := omega) only [vmE, liE, eE, seval, deE, fxE, retOf, maskA, setVals, getVals, putA, stripAt, AVal.strip, stripL, rd]
  refine hK2 _ _ (kPost_normal (hK1 _ _ ?_))
  refine awp_seq_k ?_
  intro K3 hK3
  replace h := ite_some h
  rcases h with ⟨hc5, h⟩ | ⟨hc5, h⟩
  · replace h := ite_some h
    rcases h with ⟨hc6, h⟩ | ⟨hc6, h⟩
    · replace h := ite_some h
      rcases h with ⟨hc7, h⟩ | ⟨hc7, h⟩
      · refine awp_region' [] ?_
        intro K4 hK4
        simp (disch := omega) only [vmE, liE, eE, seval, deE, fxE, retOf, maskA, setVals, getVals, putA, stripAt, AVal.strip, stripL, rd, hc5, hc6, hc7]
        refine hK4 _ _ (kPost_normal (hK3 _ _ ?_))
        refine awp_ret ?_
        refine hR _ _ _ (retPost_r (by simp (disch := omega) only [Try.results72, vmE, liE, eE, seval, deE, fxE, retOf, maskA, setVals, getVals, putA, stripAt, AVal.strip, stripL, rd, hc5, hc6, hc7]; rfl) (List.Sublist.refl _) ?_)
        cases h
        refine ⟨?_, ?_⟩
        · simp (disch := omega) only [vmE, liE, eE, seval, deE, fxE, retOf, maskA, setVals, getVals, putA, stripAt, AVal.strip, stripL, rd, hc5, hc6, hc7]
        · rfl
      · refine awp_region' [] ?_
        intro K4 hK4
        simp (disch := omega) only [vmE, liE, eE, seval, deE, fxE, retOf, maskA, setVals, getVals, putA, stripAt, AVal.strip, stripL, rd, hc5, hc6, hc7]
        refine hK4 _ _ (kPost_normal (hK3 _ _ ?_))
        refine awp_ret ?_
        refine hR _ _ _ (retPost_r (by simp (disch := omega) only [Try.results72, vmE, liE, eE, seval, deE, fxE, retOf, maskA, setVals, getVals, putA, stripAt, AVal.strip, stripL, rd, hc5, hc6, hc7]; rfl) (List.Sublist.refl _) ?_)
        cases h
        refine ⟨?_, ?_⟩
        · simp (disch := omega) only [vmE, liE, eE, seval, deE, fxE, retOf, maskA, setVals, getVals, putA, stripAt, AVal.strip, stripL, rd, hc5, hc6, hc7]
        · rfl
    · refine awp_region' [] ?_
      intro K4 hK4
      simp (disch := omega) only [vmE, liE, eE, seval, deE, fxE, retOf, maskA, setVals, getVals, putA, stripAt, AVal.strip, stripL, rd, hc5, hc6]
      refine hK4 _ _ (kPost_normal (hK3 _ _ ?_))
      refine awp_ret ?_
      refine hR _ _ _ (retPost_r (by simp (disch := omega) only [Try.results72, vmE, liE, eE, seval, deE, fxE, retOf, maskA, setVals, getVals, putA, stripAt, AVal.strip, stripL, rd, hc5, hc6]; rfl) (List.Sublist.refl _) ?_)
      cases h
      refine ⟨?_, ?_⟩
      · simp (disch := omega) only [vmE, liE, eE, seval, deE, fxE, retOf, maskA, setVals, getVals, putA, stripAt, AVal.strip, stripL, rd, hc5, hc6]
      · rfl
  · refine awp_region' [] ?_
    intro K4 hK4
    simp (disch := omega) only [vmE, liE, eE, seval, deE, fxE, retOf, maskA, setVals, getVals, putA, stripAt, AVal.strip, stripL, rd, hc5]
    refine hK4 _ _ (kPost_normal (hK3 _ _ ?_))
    refine awp_ret ?_
    refine hR _ _ _ (retPost_r (by simp (disch := omega) only [Try.results72, vmE, liE, eE, seval, deE, fxE, retOf, maskA, setVals, getVals, putA, stripAt, AVal.strip, stripL, rd, hc5]; rfl) (List.Sublist.refl _) ?_)
    cases h
    refine ⟨?_, ?_⟩
    · simp (disch := omega) only [vmE, liE, eE, seval, deE, fxE, retOf, maskA, setVals, getVals, putA, stripAt, AVal.strip, stripL, rd, hc5]
    · rfl
theorem ref02_value_w {N : Nat} {a0 : (List UInt8)} {r : Int} (h : ref02_value N a0 = some r) {n : Nat} {m : List (Nat × List AVal)} :
    ACall vE 70 [.str a0] ⟨m, n⟩ fun r' st => r' = .int .i64 r ∧ st.m = m := by
  rw [ref02_value] at h
  refine acall_k Try.func70 rfl ?_
  intro R hR
  refine AWp.congr (by simp only [Try.ntmps70, liE, seval]; rfl) ?_
  refine awp_seq_k ?_
  intro K1 hK1
  refine awp_region' [] ?_
  intro K2 hK2
  simp (disch := omega) only [vmE, liE, eE, seval, deE, fxE, retOf, maskA, setVals, getVals, putA, stripAt, AVal.strip, stripL, rd]
  refine hK2 _ _ (kPost_normal (hK1 _ _ ?_))
  refine awp_seq_k ?_
  intro K3 hK3
  refine awp_seq_k ?_
  intro K4 hK4
  refine awp_region' [] ?_
  intro K5 hK5
  simp (disch := omega) only [vmE, liE, eE, seval, deE, fxE, retOf, maskA, setVals, getVals, putA, stripAt, AVal.strip, stripL, rd]
  refine hK5 _ _ (kPost_normal (hK4 _ _ ?_))
  replace h := ite_some h
  rcases h with ⟨hc6, h⟩ | ⟨hc6, h⟩
  · refine awp_cond_t rfl hc6 ?_
    refine awp_seq_k ?_
    intro K7 hK7
    replace h := bind_some h
    rcases h with ⟨x9, hx10, h⟩
    refine awp_region' [] ?_
    intro K8 hK8
    simp (disch := omega) only [vmE, liE, eE, seval, deE, fxE, retOf, maskA, setVals, getVals, putA, stripAt, AVal.strip, stripL, rd, hc6, hx10]
    refine hK8 _ _ (kPost_normal (hK7 _ _ ?_))
    refine awp_ret ?_
    refine kPost_ret (hR _ _ _ (retPost_r (by simp (disch := omega) only [Try.results70, vmE, liE, eE, seval, deE, fxE, retOf, maskA, setVals, getVals, putA, stripAt, AVal.strip, stripL, rd, hc6, hx10]; rfl) (List.Sublist.refl _) ?_))
    cases h
    refine ⟨?_, ?_⟩
    · simp (disch := omega) only [vmE, liE, eE, seval, deE, fxE, retOf, maskA, setVals, getVals, putA, stripAt, AVal.strip, stripL, rd, hc6, hx10]
    · rfl
  · refine awp_cond_f rfl hc6 ?_
    refine awp_skip ?_
    refine kPost_normal (hK3 _ _ ?_)
    refine awp_seq_k ?_
    intro K11 hK11
    replace h := bind_some h
    rcases h with ⟨x13, hx14, h⟩
    replace h := grd_some h
    rcases h with ⟨hg15, h⟩
    try simp only [liE, seval] at hg15
    refine awp_draw' [] (.take 0 (.take 1 (.take 2 (.take 3 (.take 4 (.take 5 (.take 6 (.take 7 (.take 8 (.alt 9 [] (.done) (.stop))))))))))) vE_mixed (by kernel_rfl) ?_
    intro K12 hK12
    simp (disch := omega) only [vmE, liE, eE, seval, deE, fxE, retOf, maskA, setVals, getVals, putA, stripAt, AVal.strip, stripL, rd, hc6, hx14, hg15]
    refine hK12 _ _ (kPost_normal (hK11 _ _ ?_))
    refine awp_seq_k ?_
    intro K16 hK16
    replace h := joinK_some h
    rcases h with ⟨k18, hk18, h⟩
    refine awp_join [4, 20, 21, 22, 23, 24, 25, 26, 27, 28, 29, 30, 31, 32, 33] [3] (fun vs st' => ∃ j17 : Int, vs = [.int .i64 j17] ∧ st'.m = m ∧ k18 j17 = some r) hK16 ?_ ?_
    · clear h
      rintro _ ⟨m19, n20⟩ ⟨j17, rfl, hm, h⟩
      simp only [] at hm
      replace hm := hm.symm
      subst hm
      replace h := hk18 _ _ h
      clear hk18 k18
      refine AWp.congr (by simp (disch := omega) only [vmE, liE, eE, seval, deE, fxE, retOf, maskA, setVals, getVals, putA, stripAt, AVal.strip, stripL, rd]; rfl) ?_
      refine awp_seq_k ?_
      intro K37 hK37
      refine awp_region' [] ?_
      intro K38 hK38
      simp (disch := omega) only [vmE, liE, eE, seval, deE, fxE, retOf, maskA, setVals, getVals, putA, stripAt, AVal.strip, stripL, rd, hc6, hx14, hg15]
      refine hK38 _ _ (kPost_normal (hK37 _ _ ?_))
      refine awp_ret ?_
      refine hR _ _ _ (retPost_r (by simp (disch := omega) only [Try.results70, vmE, liE, eE, seval, deE, fxE, retOf, maskA, setVals, getVals, putA, stripAt, AVal.strip, stripL, rd, hc6, hx14, hg15]; rfl) (List.Sublist.refl _) ?_)
      cases h
      refine ⟨?_, ?_⟩
      · simp (disch := omega) only [vmE, liE, eE, seval, deE, fxE, retOf, maskA, setVals, getVals, putA, stripAt, AVal.strip, stripL, rd, hc6, hx14, hg15]
      · rfl
    · intro J39 hJ39
      refine awp_seq_k ?_
      intro K21 hK21
      refine awp_region' [] ?_
      intro K22 hK22
      simp (disch := omega) only [vmE, liE, eE, seval, deE, fxE, retOf, maskA, setVals, getVals, putA, stripAt, AVal.strip, stripL, rd, hc6, hx14, hg15]
      refine hK22 _ _ (kPost_normal (hK21 _ _ ?_))
      refine awp_block_k ?_
      intro K23 hK23
      refine awp_loop_v [20, 21, 22, 23, 24, 25, 26, 27, 28, 29, 30, 31, 32, 33] [3, 4] (fun k vs st' => ∃ (s3 : Int) (s4 : Int), vs = [.int .i64 s3, .int .i64 s4] ∧ st'.m = m ∧ ref02_value_L1 N a0 k18 k s3 s4 = some r) N ⟨(bandI .i64 (wr .i64 (bord x13)) (wr .i64 ((shlI .i64 1 (wr .i64 (7 - (a0.length : Int)))) - 1))), 1, ?_, ?_, h⟩ ?_
      · simp (disch := omega) only [vmE, liE, eE, seval, deE, fxE, retOf, maskA, setVals, getVals, putA, stripAt, AVal.strip, stripL, rd, hc6, hx14, hg15]
      · simp (disch := omega) only [vmE, liE, eE, seval, deE, fxE, retOf, maskA, setVals, getVals, putA, stripAt, AVal.strip, stripL, rd, hc6, hx14, hg15]
      · clear h
        rintro k24 _ ⟨m36, nL0_1⟩ ⟨s3, s4, rfl, hm, h⟩ J35 hJ35
        simp only [] at hm
        replace hm := hm.symm
        subst hm
        rcases k24 with _ | k24
        · simp only [ref02_value_L1, reduceCtorEq] at h
        rw [ref02_value_L1] at h
        refine AWp.congr (by simp (disch := omega) only [vmE, liE, eE, seval, deE, fxE, retOf, maskA, setVals, getVals, putA, stripAt, AVal.strip, stripL, rd]; rfl) ?_
        refine awp_seq_k ?_
        intro K25 hK25
        refine awp_seq_k ?_
        intro K26 hK26
        refine awp_region' [] ?_
        intro K27 hK27
        simp (disch := omega) only [vmE, liE, eE, seval, deE, fxE, retOf, maskA, setVals, getVals, putA, stripAt, AVal.strip, stripL, rd, hc6, hx14, hg15]
        refine hK27 _ _ (kPost_normal (hK26 _ _ ?_))
        replace h := ite_some h
        rcases h with ⟨hc28, h⟩ | ⟨hc28, h⟩
        · refine awp_cond_t rfl hc28 ?_
          refine awp_skip ?_
          refine kPost_normal (hK25 _ _ ?_)
          refine awp_seq_k ?_
          intro K29 hK29
          refine awp_block_k ?_
          intro K30 hK30
          replace h := bind_some h
          rcases h with ⟨x32, hx33, h⟩
          refine awp_region' [] ?_
          intro K31 hK31
          simp (disch := omega) only [vmE, liE, eE, seval, deE, fxE, retOf, maskA, setVals, getVals, putA, stripAt, AVal.strip, stripL, rd, hc6, hx14, hg15, hc28, hx33]
          refine hK31 _ _ (bPost_normal (hK30 _ _ (kPost_normal (hK29 _ _ ?_))))
          refine awp_region' [] ?_
          intro K34 hK34
          simp (disch := omega) only [vmE, liE, eE, seval, deE, fxE, retOf, maskA, setVals, getVals, putA, stripAt, AVal.strip, stripL, rd, hc6, hx14, hg15, hc28, hx33]
          refine hK34 _ _ (kPost_normal (hJ35 k24 _ _ _ (Nat.lt_succ_self _) (List.Sublist.refl _) ?_ ⟨(borI .i64 (shlI .i64 s3 6) (bandI .i64 (wr .i64 (bord x32)) 63)), (wr .i64 (s4 + 1)), ?_, ?_, h⟩)) <;> simp (disch := omega) only [vmE, liE, eE, seval, deE, fxE, retOf, maskA, setVals, getVals, putA, stripAt, AVal.strip, stripL, rd, hc6, hx14, hg15, hc28, hx33]
        · refine awp_cond_f rfl hc28 ?_
          refine awp_exit ?_
          refine kPost_exit (kPost_exit (bPost_here (hK23 _ _ (kPost_normal (hJ39 _ _ _ (List.Sublist.refl _) ?_ ⟨s3, ?_, ?_, h⟩))))) <;> simp (disch := omega) only [vmE, liE, eE, seval, deE, fxE, retOf, maskA, setVals, getVals, putA, stripAt, AVal.strip, stripL, rd, hc6, hx14, hg15, hc28]
theorem ref01_IsAlpha_w {N : Nat} {a0 : Int} {r : Bool} (h : ref01_IsAlpha N a0 = some r) {n : Nat} {m : List (Nat × List AVal)} :
    ACall vE 64 [.int .u8 a0] ⟨m, n⟩ fun r' st => r' = .bool r ∧ st.m = m := by
  rw [ref01_IsAlpha] at h
  refine acall_k Try.func64 rfl ?_
  intro R hR
  refine AWp.congr (by simp only [Try.ntmps64, liE, seval]; rfl) ?_
  refine awp_seq_k ?_
  intro K1 hK1
  refine awp_region' [] ?_
  intro K2 hK2
  simp (disch := omega) only [vmE, liE, eE, seval, deE, fxE, retOf, maskA, setVals, getVals, putA, stripAt, AVal.strip, stripL, rd]
  refine hK2 _ _ (kPost_normal (hK1 _ _ ?_))
  refine awp_seq_k ?_
  intro K3 hK3
  replace h := ite_some h
  rcases h with ⟨hc5, h⟩ | ⟨hc5, h⟩
  · replace h := ite_some h
    rcases h with ⟨hc6, h⟩ | ⟨hc6, h⟩
    · refine awp_region' [] ?_
      intro K4 hK4
      simp (disch := omega) only [vmE, liE, eE, seval, deE, fxE, retOf, maskA, setVals, getVals, putA, stripAt, AVal.strip, stripL, rd, hc5, hc6]
      refine hK4 _ _ (kPost_normal (hK3 _ _ ?_))
      refine awp_ret ?_
      refine hR _ _ _ (retPost_r (by simp (disch := omega) only [Try.results64, vmE, liE, eE, seval, deE, fxE, retOf, maskA, setVals, getVals, putA, stripAt, AVal.strip, stripL, rd, hc5, hc6]; rfl) (List.Sublist.refl _) ?_)
      cases h
      refine ⟨?_, ?_⟩
      · simp (disch := omega) only [vmE, liE, eE, seval, deE, fxE, retOf, maskA, setVals, getVals, putA, stripAt, AVal.strip, stripL, rd, hc5, hc6]
      · rfl
    · replace h := ite_some h
      rcases h with ⟨hc7, h⟩ | ⟨hc7, h⟩
      · refine awp_region' [] ?_
        intro K4 hK4
        simp (disch := omega) only [vmE, liE, eE, seval, deE, fxE, retOf, maskA, setVals, getVals, putA, stripAt, AVal.strip, stripL, rd, hc5, hc6, hc7]
        refine hK4 _ _ (kPost_normal (hK3 _ _ ?_))
        refine awp_ret ?_
        refine hR _ _ _ (retPost_r (by simp (disch := omega) only [Try.results64, vmE, liE, eE, seval, deE, fxE, retOf, maskA, setVals, getVals, putA, stripAt, AVal.strip, stripL, rd, hc5, hc6, hc7]; rfl) (List.Sublist.refl _) ?_)
        cases h
        refine ⟨?_, ?_⟩
        · simp (disch := omega) only [vmE, liE, eE, seval, deE, fxE, retOf, maskA, setVals, getVals, putA, stripAt, AVal.strip, stripL, rd, hc5, hc6, hc7]
        · rfl
      · refine awp_region' [] ?_
        intro K4 hK4
        simp (disch := omega) only [vmE, liE, eE, seval, deE, fxE, retOf, maskA, setVals, getVals, putA, stripAt, AVal.strip, stripL, rd, hc5, hc6, hc7]
        refine hK4 _ _ (kPost_normal (hK3 _ _ ?_))
        refine awp_ret ?_
        refine hR _ _ _ (retPost_r (by simp (disch := omega) only [Try.results64, vmE, liE, eE, seval, deE, fxE, retOf, maskA, setVals, getVals, putA, stripAt, AVal.strip, stripL, rd, hc5, hc6, hc7]; rfl) (List.Sublist.refl _) ?_)
        cases h
        refine ⟨?_, ?_⟩
        · simp (disch := omega) only [vmE, liE, eE, seval, deE, fxE, retOf, maskA, setVals, getVals, putA, stripAt, AVal.strip, stripL, rd, hc5, hc6, hc7]
        · rfl
  · replace h := ite_some h
    rcases h with ⟨hc8, h⟩ | ⟨hc8, h⟩
    · refine awp_region' [] ?_
      intro K4 hK4
      simp (disch := omega) only [vmE, liE, eE, seval, deE, fxE, retOf, maskA, setVals, getVals, putA, stripAt, AVal.strip, stripL, rd, hc5, hc8]
      refine hK4 _ _ (kPost_normal (hK3 _ _ ?_))
      refine awp_ret ?_
      refine hR _ _ _ (retPost_r (by simp (disch := omega) only [Try.results64, vmE, liE, eE, seval, deE, fxE, retOf, maskA, setVals, getVals, putA, stripAt, AVal.strip, stripL, rd, hc5, hc8]; rfl) (List.Sublist.refl _) ?_)
      cases h
      refine ⟨?_, ?_⟩
      · simp (disch := omega) only [vmE, liE, eE, seval, deE, fxE, retOf, maskA, setVals, getVals, putA, stripAt, AVal.strip, stripL, rd, hc5, hc8]
      · rfl
    · refine awp_region' [] ?_
      intro K4 hK4
      simp (disch := omega) only [vmE, liE, eE, seval, deE, fxE, retOf, maskA, setVals, getVals, putA, stripAt, AVal.strip, stripL, rd, hc5, hc8]
      refine hK4 _ _ (kPost_normal (hK3 _ _ ?_))
      refine awp_ret ?_
      refine hR _ _ _ (retPost_r (by simp (disch := omega) only [Try.results64, vmE, liE, eE, seval, deE, fxE, retOf, maskA, setVals, getVals, putA, stripAt, AVal.strip, stripL, rd, hc5, hc8]; rfl) (List.Sublist.refl _) ?_)
      cases h
      refine ⟨?_, ?_⟩
      · simp (disch := omega) only [vmE, liE, eE, seval, deE, fxE, retOf, maskA, setVals, getVals, putA, stripAt, AVal.strip, stripL, rd, hc5, hc8]
      · rfl
end Go.Proofs.Ytdbeiialamganaa
