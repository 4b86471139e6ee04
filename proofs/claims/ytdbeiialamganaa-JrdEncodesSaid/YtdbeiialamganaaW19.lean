/- That the code computes these functions; written by decomp.py. -/
import Derived.Test.YtdbeiialamganaaVmFacts
import Derived.Test.YtdbeiialamganaaDefs
import Derived.Test.YtdbeiialamganaaVMSets
import Derived.Test.YtdbeiialamganaaW0
import Derived.Test.YtdbeiialamganaaW18
set_option linter.unusedVariables false
set_option linter.unusedSimpArgs false
set_option maxHeartbeats 4000000
set_option maxRecDepth 100000
set_option linter.defProp false
namespace Go.Proofs.Ytdbeiialamganaa
open Go.VM
theorem ref14_parser_next_w {N : Nat} {a0 : Ref14Parser} {r : ApiToken × Ref14Parser} (h : ref14_parser_next N a0 = some r) {n : Nat} {m : List (Nat × List AVal)} {i0 : Nat} (hi0 : mget m i0 = some [.str a0.s, .int .i64 a0.at_, .int .i64 a0.nodes, .int .i64 a0.fail, .int .i64 a0.where_]) :
    ACall vE 24 [.ptr i0 0] ⟨m, n⟩ fun r' st => r' = .agg [.int .i64 r.1.kind, .str r.1.text, .int .i64 r.1.at_] ∧ st.m = mset m i0 [.str r.2.s, .int .i64 r.2.at_, .int .i64 r.2.nodes, .int .i64 r.2.fail, .int .i64 r.2.where_] := by
  rw [ref14_parser_next] at h
  refine ACall.front hi0 ?_
  intro hin
  refine acall_k Try.func24 rfl ?_
  intro R hR
  refine AWp.congr (by simp only [Try.ntmps24, liE, seval]; rfl) ?_
  refine awp_seq_k ?_
  intro K1 hK1
  refine awp_region' [] ?_
  intro K2 hK2
  simp (disch := omega) only [vmE, liE, eE, seval, deE, fxE, retOf, maskA, setVals, getVals, putA, stripAt, AVal.strip, stripL, rd]
  refine hK2 _ _ (kPost_normal (hK1 _ _ ?_))
  refine awp_seq_k ?_
  intro K3 hK3
  refine awp_seq_k ?_
  intro K4 hK4
  refine awp_region' [] ?_
  intro K5 hK5
  simp (disch := omega) only [vmE, liE, eE, seval, deE, fxE, retOf, maskA, setVals, getVals, putA, stripAt, AVal.strip, stripL, rd]
  refine hK5 _ _ (kPost_normal (hK4 _ _ ?_))
  replace h := ite_some h
  rcases h with ⟨hc6, h⟩ | ⟨hc6, h⟩
  · refine awp_cond_t rfl hc6 ?_
    refine awp_seq_k ?_
    intro K7 hK7
    refine awp_region' [] ?_
    intro K8 hK8
    simp (disch := omega) only [vmE, liE, eE, seval, deE, fxE, retOf, maskA, setVals, getVals, putA, stripAt, AVal.strip, stripL, rd, hc6]
    refine hK8 _ _ (kPost_normal (hK7 _ _ ?_))
    refine awp_ret ?_
    refine kPost_ret (hR _ _ _ (retPost_r (by simp (disch := omega) only [Try.results24, vmE, liE, eE, seval, deE, fxE, retOf, maskA, setVals, getVals, putA, stripAt, AVal.strip, stripL, rd, hc6]; rfl) (.cons _ (List.Sublist.refl _)) ?_))
    cases h
    refine ⟨_, rfl, ?_, ?_⟩
    · simp (disch := omega) only [vmE, liE, eE, seval, deE, fxE, retOf, maskA, setVals, getVals, putA, stripAt, AVal.strip, stripL, rd, hc6]
    · simp (disch := omega) only [vmE, liE, eE, seval, deE, fxE, retOf, maskA, setVals, getVals, putA, stripAt, AVal.strip, stripL, rd, hc6]
  · refine awp_cond_f rfl hc6 ?_
    refine awp_skip ?_
    refine kPost_normal (hK3 _ _ ?_)
    refine awp_seq_k ?_
    intro K9 hK9
    replace h := joinK_some h
    rcases h with ⟨k12, hk12, h⟩
    refine awp_join [12, 13, 14, 15, 16, 17, 18, 19, 20, 21, 22, 23, 24] [3, 4, 5] (fun vs st' => ∃ j11 : Int × Int × ApiToken, ∃ q10 : Nat, vs = [.ptr q10 0, .int .i64 j11.1, .int .i64 j11.2.1] ∧ st'.m = (q10, [.int .i64 j11.2.2.kind, .str j11.2.2.text, .int .i64 j11.2.2.at_]) :: (n, [.int .i64 0, .str [], .int .i64 0]) :: (i0, [.str a0.s, .int .i64 a0.at_, .int .i64 a0.nodes, .int .i64 a0.fail, .int .i64 a0.where_]) :: mdel m i0 ∧ k12 j11 = some r) hK9 ?_ ?_
    · clear h
      rintro _ ⟨m13, n14⟩ ⟨j11, q10, rfl, hm, h⟩
      simp only [] at hm
      replace hm := hm.symm
      subst hm
      replace h := hk12 _ _ h
      clear hk12 k12
      refine AWp.nodup fun hnd => ?_
      simp only [List.map_cons, List.nodup_cons, List.mem_cons, not_or] at hnd
      refine AWp.known fun _ hkl => ?_
      simp only [] at hkl
      obtain ⟨_, hkl⟩ := keysLt_cons hkl
      obtain ⟨_, hkl⟩ := keysLt_cons hkl
      obtain ⟨_, hkl⟩ := keysLt_cons hkl
      clear hkl
      refine AWp.congr (by simp (disch := omega) only [vmE, liE, eE, seval, deE, fxE, retOf, maskA, setVals, getVals, putA, stripAt, AVal.strip, stripL, rd]; rfl) ?_
      refine awp_seq_k ?_
      intro K20 hK20
      refine awp_seq_k ?_
      intro K21 hK21
      refine awp_region' [] ?_
      intro K22 hK22
      simp (disch := omega) only [vmE, liE, eE, seval, deE, fxE, retOf, maskA, setVals, getVals, putA, stripAt, AVal.strip, stripL, rd, hc6]
      refine hK22 _ _ (kPost_normal (hK21 _ _ ?_))
      replace h := ite_some h
      rcases h with ⟨hc23, h⟩ | ⟨hc23, h⟩
      · refine awp_cond_t rfl hc23 ?_
        refine awp_seq_k ?_
        intro K24 hK24
        replace h := bind_some h
        rcases h with ⟨y26, hy27, h⟩
        refine awp_region' [] ?_
        intro K25 hK25
        simp (disch := omega) only [vmE, liE, eE, seval, deE, fxE, retOf, maskA, setVals, getVals, putA, stripAt, AVal.strip, stripL, rd, hc6, hc23]
        refine ACall.of (ref14_parser_stop_w hy27 (i0 := i0) (by simp (disch := omega) only [vmE, liE, eE, seval, deE, fxE, retOf, maskA, setVals, getVals, putA, stripAt, AVal.strip, stripL, rd])) ?_ ?_
        · first | (simp (disch := omega) only [vmE, liE, eE, seval, deE, fxE, retOf, maskA, setVals, getVals, putA, stripAt, AVal.strip, stripL, rd, hc6, hc23]) | rfl
        rintro _ ⟨m29, n28⟩ hn28 ⟨rfl, hm⟩
        simp (disch := omega) only [vmE, liE, eE, seval] at hn28 hm
        replace hm := hm.symm
        subst hm
        simp (disch := omega) only [vmE, liE, eE, seval, deE, fxE, retOf, maskA, setVals, getVals, putA, stripAt, AVal.strip, stripL, rd, hc6, hc23]
        refine hK25 _ _ (kPost_normal (hK24 _ _ ?_))
        refine awp_seq_k ?_
        intro K30 hK30
        refine awp_region' [] ?_
        intro K31 hK31
        simp (disch := omega) only [vmE, liE, eE, seval, deE, fxE, retOf, maskA, setVals, getVals, putA, stripAt, AVal.strip, stripL, rd, hc6, hc23]
        refine hK31 _ _ (kPost_normal (hK30 _ _ ?_))
        refine awp_ret ?_
        refine kPost_ret (hR _ _ _ (retPost_r (by simp (disch := omega) only [Try.results24, vmE, liE, eE, seval, deE, fxE, retOf, maskA, setVals, getVals, putA, stripAt, AVal.strip, stripL, rd, hc6, hc23]; rfl) (.cons _ (.cons _ (List.Sublist.refl _))) ?_))
        cases h
        refine ⟨_, rfl, ?_, ?_⟩
        · simp (disch := omega) only [vmE, liE, eE, seval, deE, fxE, retOf, maskA, setVals, getVals, putA, stripAt, AVal.strip, stripL, rd, hc6, hc23]
        · simp (disch := omega) only [vmE, liE, eE, seval, deE, fxE, retOf, maskA, setVals, getVals, putA, stripAt, AVal.strip, stripL, rd, hc6, hc23]
      · refine awp_cond_f rfl hc23 ?_
        refine awp_skip ?_
        refine kPost_normal (hK20 _ _ ?_)
        refine awp_seq_k ?_
        intro K32 hK32
        refine awp_region' [] ?_
        intro K33 hK33
        simp (disch := omega) only [vmE, liE, eE, seval, deE, fxE, retOf, maskA, setVals, getVals, putA, stripAt, AVal.strip, stripL, rd, hc6, hc23]
        refine hK33 _ _ (kPost_normal (hK32 _ _ ?_))
        refine awp_seq_k ?_
        intro K34 hK34
        refine awp_region' [] ?_
        intro K35 hK35
        simp (disch := omega) only [vmE, liE, eE, seval, deE, fxE, retOf, maskA, setVals, getVals, putA, stripAt, AVal.strip, stripL, rd, hc6, hc23]
        refine hK35 _ _ (kPost_normal (hK34 _ _ ?_))
        refine awp_ret ?_
        refine hR _ _ _ (retPost_r (by simp (disch := omega) only [Try.results24, vmE, liE, eE, seval, deE, fxE, retOf, maskA, setVals, getVals, putA, stripAt, AVal.strip, stripL, rd, hc6, hc23]; rfl) (.cons _ (.cons _ (List.Sublist.refl _))) ?_)
        cases h
        refine ⟨_, rfl, ?_, ?_⟩
        · simp (disch := omega) only [vmE, liE, eE, seval, deE, fxE, retOf, maskA, setVals, getVals, putA, stripAt, AVal.strip, stripL, rd, hc6, hc23]
        · simp (disch := omega) only [vmE, liE, eE, seval, deE, fxE, retOf, maskA, setVals, getVals, putA, stripAt, AVal.strip, stripL, rd, hc6, hc23]
    · intro J36 hJ36
      replace h := bind_some h
      rcases h with ⟨y16, hy17, h⟩
      refine awp_draw' [] (.take 0 (.take 1 (.take 2 (.take 3 (.take 4 (.take 5 (.take 6 (.take 7 (.alt 8 [6, 5, 4, 2, 1, 0] (.take 9 (.alt 10 [7, 6, 5, 4, 3, 2, 1, 0] (.alt 11 [7, 6, 5, 4, 3, 2, 1, 0] (.alt 12 [7, 6, 5, 4, 3, 2, 1, 0] (.alt 13 [9, 7, 6, 5, 4, 3, 2, 1, 0] (.alt 14 [] (.alt 15 [] (.alt 16 [] (.done) (.stop)) (.stop)) (.stop)) (.stop)) (.alt 13 [9, 7, 6, 5, 4, 3, 2, 1, 0] (.alt 12 [7, 6, 5, 4, 3, 2, 1, 0] (.alt 14 [] (.alt 15 [] (.alt 16 [] (.done) (.stop)) (.stop)) (.stop)) (.alt 14 [] (.alt 12 [7, 6, 5, 4, 3, 2, 1, 0] (.alt 15 [] (.alt 16 [] (.done) (.stop)) (.stop)) (.alt 15 [] (.alt 12 [7, 6, 5, 4, 3, 2, 1, 0] (.alt 16 [] (.done) (.stop)) (.stop)) (.stop))) (.stop))) (.stop))) (.alt 12 [7, 6, 5, 4, 3, 2, 1, 0] (.alt 11 [7, 6, 5, 4, 3, 2, 1, 0] (.alt 13 [9, 7, 6, 5, 4, 3, 2, 1, 0] (.alt 14 [] (.alt 15 [] (.alt 16 [] (.done) (.stop)) (.stop)) (.stop)) (.stop)) (.alt 13 [9, 7, 6, 5, 4, 3, 2, 1, 0] (.alt 11 [7, 6, 5, 4, 3, 2, 1, 0] (.alt 14 [] (.alt 15 [] (.alt 16 [] (.done) (.stop)) (.stop)) (.stop)) (.alt 14 [] (.alt 11 [7, 6, 5, 4, 3, 2, 1, 0] (.alt 15 [] (.alt 16 [] (.done) (.stop)) (.stop)) (.stop)) (.stop))) (.stop))) (.alt 13 [9, 7, 6, 5, 4, 3, 2, 1, 0] (.alt 11 [7, 6, 5, 4, 3, 2, 1, 0] (.alt 12 [7, 6, 5, 4, 3, 2, 1, 0] (.alt 14 [] (.alt 15 [] (.alt 16 [] (.done) (.stop)) (.stop)) (.stop)) (.alt 14 [] (.alt 12 [7, 6, 5, 4, 3, 2, 1, 0] (.alt 15 [] (.alt 16 [] (.done) (.stop)) (.stop)) (.alt 15 [] (.alt 12 [7, 6, 5, 4, 3, 2, 1, 0] (.alt 16 [] (.done) (.stop)) (.stop)) (.stop))) (.stop))) (.alt 12 [7, 6, 5, 4, 3, 2, 1, 0] (.alt 11 [7, 6, 5, 4, 3, 2, 1, 0] (.alt 14 [] (.alt 15 [] (.alt 16 [] (.done) (.stop)) (.stop)) (.stop)) (.alt 14 [] (.alt 11 [7, 6, 5, 4, 3, 2, 1, 0] (.alt 15 [] (.alt 16 [] (.done) (.stop)) (.stop)) (.stop)) (.stop))) (.alt 14 [] (.alt 11 [7, 6, 5, 4, 3, 2, 1, 0] (.alt 12 [7, 6, 5, 4, 3, 2, 1, 0] (.alt 15 [] (.alt 16 [] (.done) (.stop)) (.stop)) (.alt 15 [] (.alt 12 [7, 6, 5, 4, 3, 2, 1, 0] (.alt 16 [] (.done) (.stop)) (.stop)) (.stop))) (.alt 12 [7, 6, 5, 4, 3, 2, 1, 0] (.alt 11 [7, 6, 5, 4, 3, 2, 1, 0] (.alt 15 [] (.alt 16 [] (.done) (.stop)) (.stop)) (.stop)) (.stop))) (.stop)))) (.stop)))) (.alt 11 [7, 6, 5, 4, 3, 2, 1, 0] (.alt 10 [7, 6, 5, 4, 3, 2, 1, 0] (.alt 12 [7, 6, 5, 4, 3, 2, 1, 0] (.alt 13 [9, 7, 6, 5, 4, 3, 2, 1, 0] (.alt 14 [] (.alt 15 [] (.alt 16 [] (.done) (.stop)) (.stop)) (.stop)) (.stop)) (.alt 13 [9, 7, 6, 5, 4, 3, 2, 1, 0] (.alt 12 [7, 6, 5, 4, 3, 2, 1, 0] (.alt 14 [] (.alt 15 [] (.alt 16 [] (.done) (.stop)) (.stop)) (.stop)) (.alt 14 [] (.alt 12 [7, 6, 5, 4, 3, 2, 1, 0] (.alt 15 [] (.alt 16 [] (.done) (.stop)) (.stop)) (.alt 15 [] (.alt 12 [7, 6, 5, 4, 3, 2, 1, 0] (.alt 16 [] (.done) (.stop)) (.stop)) (.stop))) (.stop))) (.stop))) (.alt 12 [7, 6, 5, 4, 3, 2, 1, 0] (.alt 10 [7, 6, 5, 4, 3, 2, 1, 0] (.alt 13 [9, 7, 6, 5, 4, 3, 2, 1, 0] (.alt 14 [] (.alt 15 [] (.alt 16 [] (.done) (.stop)) (.stop)) (.stop)) (.stop)) (.alt 13 [9, 7, 6, 5, 4, 3, 2, 1, 0] (.alt 10 [7, 6, 5, 4, 3, 2, 1, 0] (.alt 14 [] (.alt 15 [] (.alt 16 [] (.done) (.stop)) (.stop)) (.stop)) (.stop)) (.stop))) (.alt 13 [9, 7, 6, 5, 4, 3, 2, 1, 0] (.alt 10 [7, 6, 5, 4, 3, 2, 1, 0] (.alt 12 [7, 6, 5, 4, 3, 2, 1, 0] (.alt 14 [] (.alt 15 [] (.alt 16 [] (.done) (.stop)) (.stop)) (.stop)) (.alt 14 [] (.alt 12 [7, 6, 5, 4, 3, 2, 1, 0] (.alt 15 [] (.alt 16 [] (.done) (.stop)) (.stop)) (.alt 15 [] (.alt 12 [7, 6, 5, 4, 3, 2, 1, 0] (.alt 16 [] (.done) (.stop)) (.stop)) (.stop))) (.stop))) (.alt 12 [7, 6, 5, 4, 3, 2, 1, 0] (.alt 10 [7, 6, 5, 4, 3, 2, 1, 0] (.alt 14 [] (.alt 15 [] (.alt 16 [] (.done) (.stop)) (.stop)) (.stop)) (.stop)) (.stop))) (.stop)))) (.alt 12 [7, 6, 5, 4, 3, 2, 1, 0] (.alt 10 [7, 6, 5, 4, 3, 2, 1, 0] (.alt 11 [7, 6, 5, 4, 3, 2, 1, 0] (.alt 13 [9, 7, 6, 5, 4, 3, 2, 1, 0] (.alt 14 [] (.alt 15 [] (.alt 16 [] (.done) (.stop)) (.stop)) (.stop)) (.stop)) (.alt 13 [9, 7, 6, 5, 4, 3, 2, 1, 0] (.alt 11 [7, 6, 5, 4, 3, 2, 1, 0] (.alt 14 [] (.alt 15 [] (.alt 16 [] (.done) (.stop)) (.stop)) (.stop)) (.alt 14 [] (.alt 11 [7, 6, 5, 4, 3, 2, 1, 0] (.alt 15 [] (.alt 16 [] (.done) (.stop)) (.stop)) (.stop)) (.stop))) (.stop))) (.alt 11 [7, 6, 5, 4, 3, 2, 1, 0] (.alt 10 [7, 6, 5, 4, 3, 2, 1, 0] (.alt 13 [9, 7, 6, 5, 4, 3, 2, 1, 0] (.alt 14 [] (.alt 15 [] (.alt 16 [] (.done) (.stop)) (.stop)) (.stop)) (.stop)) (.alt 13 [9, 7, 6, 5, 4, 3, 2, 1, 0] (.alt 10 [7, 6, 5, 4, 3, 2, 1, 0] (.alt 14 [] (.alt 15 [] (.alt 16 [] (.done) (.stop)) (.stop)) (.stop)) (.stop)) (.stop))) (.alt 13 [9, 7, 6, 5, 4, 3, 2, 1, 0] (.alt 10 [7, 6, 5, 4, 3, 2, 1, 0] (.alt 11 [7, 6, 5, 4, 3, 2, 1, 0] (.alt 14 [] (.alt 15 [] (.alt 16 [] (.done) (.stop)) (.stop)) (.stop)) (.alt 14 [] (.alt 11 [7, 6, 5, 4, 3, 2, 1, 0] (.alt 15 [] (.alt 16 [] (.done) (.stop)) (.stop)) (.stop)) (.stop))) (.alt 11 [7, 6, 5, 4, 3, 2, 1, 0] (.alt 10 [7, 6, 5, 4, 3, 2, 1, 0] (.alt 14 [] (.alt 15 [] (.alt 16 [] (.done) (.stop)) (.stop)) (.stop)) (.stop)) (.stop))) (.stop)))) (.alt 13 [9, 7, 6, 5, 4, 3, 2, 1, 0] (.alt 10 [7, 6, 5, 4, 3, 2, 1, 0] (.alt 11 [7, 6, 5, 4, 3, 2, 1, 0] (.alt 12 [7, 6, 5, 4, 3, 2, 1, 0] (.alt 14 [] (.alt 15 [] (.alt 16 [] (.done) (.stop)) (.stop)) (.stop)) (.alt 14 [] (.alt 12 [7, 6, 5, 4, 3, 2, 1, 0] (.alt 15 [] (.alt 16 [] (.done) (.stop)) (.stop)) (.alt 15 [] (.alt 12 [7, 6, 5, 4, 3, 2, 1, 0] (.alt 16 [] (.done) (.stop)) (.stop)) (.stop))) (.stop))) (.alt 12 [7, 6, 5, 4, 3, 2, 1, 0] (.alt 11 [7, 6, 5, 4, 3, 2, 1, 0] (.alt 14 [] (.alt 15 [] (.alt 16 [] (.done) (.stop)) (.stop)) (.stop)) (.alt 14 [] (.alt 11 [7, 6, 5, 4, 3, 2, 1, 0] (.alt 15 [] (.alt 16 [] (.done) (.stop)) (.stop)) (.stop)) (.stop))) (.alt 14 [] (.alt 11 [7, 6, 5, 4, 3, 2, 1, 0] (.alt 12 [7, 6, 5, 4, 3, 2, 1, 0] (.alt 15 [] (.alt 16 [] (.done) (.stop)) (.stop)) (.alt 15 [] (.alt 12 [7, 6, 5, 4, 3, 2, 1, 0] (.alt 16 [] (.done) (.stop)) (.stop)) (.stop))) (.alt 12 [7, 6, 5, 4, 3, 2, 1, 0] (.alt 11 [7, 6, 5, 4, 3, 2, 1, 0] (.alt 15 [] (.alt 16 [] (.done) (.stop)) (.stop)) (.stop)) (.stop))) (.stop)))) (.alt 11 [7, 6, 5, 4, 3, 2, 1, 0] (.alt 10 [7, 6, 5, 4, 3, 2, 1, 0] (.alt 12 [7, 6, 5, 4, 3, 2, 1, 0] (.alt 14 [] (.alt 15 [] (.alt 16 [] (.done) (.stop)) (.stop)) (.stop)) (.alt 14 [] (.alt 12 [7, 6, 5, 4, 3, 2, 1, 0] (.alt 15 [] (.alt 16 [] (.done) (.stop)) (.stop)) (.alt 15 [] (.alt 12 [7, 6, 5, 4, 3, 2, 1, 0] (.alt 16 [] (.done) (.stop)) (.stop)) (.stop))) (.stop))) (.alt 12 [7, 6, 5, 4, 3, 2, 1, 0] (.alt 10 [7, 6, 5, 4, 3, 2, 1, 0] (.alt 14 [] (.alt 15 [] (.alt 16 [] (.done) (.stop)) (.stop)) (.stop)) (.stop)) (.stop))) (.alt 12 [7, 6, 5, 4, 3, 2, 1, 0] (.alt 10 [7, 6, 5, 4, 3, 2, 1, 0] (.alt 11 [7, 6, 5, 4, 3, 2, 1, 0] (.alt 14 [] (.alt 15 [] (.alt 16 [] (.done) (.stop)) (.stop)) (.stop)) (.alt 14 [] (.alt 11 [7, 6, 5, 4, 3, 2, 1, 0] (.alt 15 [] (.alt 16 [] (.done) (.stop)) (.stop)) (.stop)) (.stop))) (.alt 11 [7, 6, 5, 4, 3, 2, 1, 0] (.alt 10 [7, 6, 5, 4, 3, 2, 1, 0] (.alt 14 [] (.alt 15 [] (.alt 16 [] (.done) (.stop)) (.stop)) (.stop)) (.stop)) (.stop))) (.stop)))) (.stop)))))) (.alt 13 [7, 6, 5, 4, 3, 2, 1, 0] (.alt 8 [6, 5, 4, 2, 1, 0] (.take 9 (.alt 10 [7, 6, 5, 4, 3, 2, 1, 0] (.alt 11 [7, 6, 5, 4, 3, 2, 1, 0] (.alt 12 [7, 6, 5, 4, 3, 2, 1, 0] (.alt 14 [] (.alt 15 [] (.alt 16 [] (.done) (.stop)) (.stop)) (.stop)) (.alt 14 [] (.alt 12 [7, 6, 5, 4, 3, 2, 1, 0] (.alt 15 [] (.alt 16 [] (.done) (.stop)) (.stop)) (.alt 15 [] (.alt 12 [7, 6, 5, 4, 3, 2, 1, 0] (.alt 16 [] (.done) (.stop)) (.stop)) (.stop))) (.stop))) (.alt 12 [7, 6, 5, 4, 3, 2, 1, 0] (.alt 11 [7, 6, 5, 4, 3, 2, 1, 0] (.alt 14 [] (.alt 15 [] (.alt 16 [] (.done) (.stop)) (.stop)) (.stop)) (.alt 14 [] (.alt 11 [7, 6, 5, 4, 3, 2, 1, 0] (.alt 15 [] (.alt 16 [] (.done) (.stop)) (.stop)) (.stop)) (.stop))) (.alt 14 [] (.alt 11 [7, 6, 5, 4, 3, 2, 1, 0] (.alt 12 [7, 6, 5, 4, 3, 2, 1, 0] (.alt 15 [] (.alt 16 [] (.done) (.stop)) (.stop)) (.alt 15 [] (.alt 12 [7, 6, 5, 4, 3, 2, 1, 0] (.alt 16 [] (.done) (.stop)) (.stop)) (.stop))) (.alt 12 [7, 6, 5, 4, 3, 2, 1, 0] (.alt 11 [7, 6, 5, 4, 3, 2, 1, 0] (.alt 15 [] (.alt 16 [] (.done) (.stop)) (.stop)) (.stop)) (.stop))) (.stop)))) (.alt 11 [7, 6, 5, 4, 3, 2, 1, 0] (.alt 10 [7, 6, 5, 4, 3, 2, 1, 0] (.alt 12 [7, 6, 5, 4, 3, 2, 1, 0] (.alt 14 [] (.alt 15 [] (.alt 16 [] (.done) (.stop)) (.stop)) (.stop)) (.alt 14 [] (.alt 12 [7, 6, 5, 4, 3, 2, 1, 0] (.alt 15 [] (.alt 16 [] (.done) (.stop)) (.stop)) (.alt 15 [] (.alt 12 [7, 6, 5, 4, 3, 2, 1, 0] (.alt 16 [] (.done) (.stop)) (.stop)) (.stop))) (.stop))) (.alt 12 [7, 6, 5, 4, 3, 2, 1, 0] (.alt 10 [7, 6, 5, 4, 3, 2, 1, 0] (.alt 14 [] (.alt 15 [] (.alt 16 [] (.done) (.stop)) (.stop)) (.stop)) (.stop)) (.stop))) (.alt 12 [7, 6, 5, 4, 3, 2, 1, 0] (.alt 10 [7, 6, 5, 4, 3, 2, 1, 0] (.alt 11 [7, 6, 5, 4, 3, 2, 1, 0] (.alt 14 [] (.alt 15 [] (.alt 16 [] (.done) (.stop)) (.stop)) (.stop)) (.alt 14 [] (.alt 11 [7, 6, 5, 4, 3, 2, 1, 0] (.alt 15 [] (.alt 16 [] (.done) (.stop)) (.stop)) (.stop)) (.stop))) (.alt 11 [7, 6, 5, 4, 3, 2, 1, 0] (.alt 10 [7, 6, 5, 4, 3, 2, 1, 0] (.alt 14 [] (.alt 15 [] (.alt 16 [] (.done) (.stop)) (.stop)) (.stop)) (.stop)) (.stop))) (.stop))))) (.stop)) (.stop))))))))))) vE_mixed (by kernel_rfl) ?_
      intro K15 hK15
      all_goals
       simp (disch := omega) only [vmE, liE, eE, seval, deE, fxE, retOf, maskA, setVals, getVals, putA, stripAt, AVal.strip, stripL, rd, hc6]
       repeat' apply And.intro
       all_goals
        refine ACall.of (ref13_Next_w hy17) ?_ ?_
        · first | (simp (disch := omega) only [vmE, liE, eE, seval, deE, fxE, retOf, maskA, setVals, getVals, putA, stripAt, AVal.strip, stripL, rd, hc6]) | rfl
        rintro _ ⟨m19, n18⟩ hn18 ⟨rfl, hm⟩
        simp (disch := omega) only [vmE, liE, eE, seval] at hn18 hm
        replace hm := hm.symm
        subst hm
        simp (disch := omega) only [vmE, liE, eE, seval, deE, fxE, retOf, maskA, setVals, getVals, putA, stripAt, AVal.strip, stripL, rd, hc6]
        refine hK15 _ _ (kPost_normal (hJ36 _ _ _ (List.Sublist.refl _) (by simp (disch := omega) only [vmE, liE, eE, seval, deE, fxE, retOf, maskA, setVals, getVals, putA, stripAt, AVal.strip, stripL, rd, hc6]) ⟨(y16.2.1, y16.2.2, y16.1), _, (by simp (disch := omega) only [vmE, liE, eE, seval, deE, fxE, retOf, maskA, setVals, getVals, putA, stripAt, AVal.strip, stripL, rd, hc6]; rfl), (by simp (disch := omega) only [vmE, liE, eE, seval, deE, fxE, retOf, maskA, setVals, getVals, putA, stripAt, AVal.strip, stripL, rd, hc6]), h⟩))
end Go.Proofs.Ytdbeiialamganaa
