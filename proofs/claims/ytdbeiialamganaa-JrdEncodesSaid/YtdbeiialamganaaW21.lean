/- That the code computes these functions; written by decomp.py. -/
import Derived.Test.YtdbeiialamganaaVmFacts
import Derived.Test.YtdbeiialamganaaDefs
import Derived.Test.YtdbeiialamganaaVMSets
import Derived.Test.YtdbeiialamganaaW0
import Derived.Test.YtdbeiialamganaaW19
import Derived.Test.YtdbeiialamganaaW20
set_option linter.unusedVariables false
set_option linter.unusedSimpArgs false
set_option maxHeartbeats 4000000
set_option maxRecDepth 100000
set_option linter.defProp false
namespace Go.Proofs.Ytdbeiialamganaa
open Go.VM
theorem ref14_Parse_w {N : Nat} {a0 : (List UInt8)} {r : ApiValue × Int × Int} (h : ref14_Parse N a0 = some r) {n : Nat} {m : List (Nat × List AVal)} :
    ACall vE 10 [.str a0] ⟨m, n⟩ fun r' st => r' = .tuple [.agg [.int .i64 r.1.kind, .str r.1.text, .slice 1 (List.map AVal.str r.1.keys) false, .slice 4 (List.map encApiValue r.1.items) false], .int .i64 r.2.1, .int .i64 r.2.2] ∧ st.m = m := by
  rw [ref14_Parse] at h
  refine ACall.strip ?_
  refine acall_k Try.func10 rfl ?_
  intro R hR
  refine AWp.congr (by simp only [Try.ntmps10, liE, seval]; rfl) ?_
  refine awp_seq_k ?_
  intro K1 hK1
  refine awp_region' [] ?_
  intro K2 hK2
  simp (disch := omega) only [vmE, liE, eE, seval, deE, fxE, retOf, maskA, setVals, getVals, putA, stripAt, AVal.strip, stripL, rd]
  refine hK2 _ _ (kPost_normal (hK1 _ _ ?_))
  refine awp_seq_k ?_
  intro K3 hK3
  refine awp_seq_k ?_
  intro K4 hK4
  refine awp_region' [] ?_
  intro K5 hK5
  simp (disch := omega) only [vmE, liE, eE, seval, deE, fxE, retOf, maskA, setVals, getVals, putA, stripAt, AVal.strip, stripL, rd]
  refine hK5 _ _ (kPost_normal (hK4 _ _ ?_))
  replace h := ite_some h
  rcases h with ⟨hc6, h⟩ | ⟨hc6, h⟩
  · refine awp_cond_t rfl hc6 ?_
    refine awp_seq_k ?_
    intro K7 hK7
    refine awp_region' [] ?_
    intro K8 hK8
    simp (disch := omega) only [vmE, liE, eE, seval, deE, fxE, retOf, maskA, setVals, getVals, putA, stripAt, AVal.strip, stripL, rd, hc6]
    refine hK8 _ _ (kPost_normal (hK7 _ _ ?_))
    refine awp_ret ?_
    refine kPost_ret (hR _ _ _ (retPost_r (by simp (disch := omega) only [Try.results10, vmE, liE, eE, seval, deE, fxE, retOf, maskA, setVals, getVals, putA, stripAt, AVal.strip, stripL, rd, hc6]; rfl) (.cons _ (List.Sublist.refl _)) ?_))
    cases h
    refine ⟨?_, ?_⟩
    · simp (disch := omega) only [vmE, liE, eE, seval, deE, fxE, retOf, maskA, setVals, getVals, putA, stripAt, AVal.strip, stripL, rd, hc6]
    · rfl
  · refine awp_cond_f rfl hc6 ?_
    refine awp_skip ?_
    refine kPost_normal (hK3 _ _ ?_)
    refine awp_seq_k ?_
    intro K9 hK9
    refine awp_region' [] ?_
    intro K10 hK10
    simp (disch := omega) only [vmE, liE, eE, seval, deE, fxE, retOf, maskA, setVals, getVals, putA, stripAt, AVal.strip, stripL, rd, hc6]
    refine hK10 _ _ (kPost_normal (hK9 _ _ ?_))
    refine awp_seq_k ?_
    intro K11 hK11
    replace h := bind_some h
    rcases h with ⟨y13, hy14, h⟩
    replace h := bind_some h
    rcases h with ⟨y17, hy18, h⟩
    refine awp_region' [] ?_
    intro K12 hK12
    simp (disch := omega) only [vmE, liE, eE, seval, deE, fxE, retOf, maskA, setVals, getVals, putA, stripAt, AVal.strip, stripL, rd, hc6]
    refine ACall.of (ref14_parser_next_w hy14 (i0 := (n + 1)) (by simp (disch := omega) only [vmE, liE, eE, seval, deE, fxE, retOf, maskA, setVals, getVals, putA, stripAt, AVal.strip, stripL, rd])) ?_ ?_
    · first | (simp (disch := omega) only [vmE, liE, eE, seval, deE, fxE, retOf, maskA, setVals, getVals, putA, stripAt, AVal.strip, stripL, rd, hc6]) | rfl
    rintro _ ⟨m16, n15⟩ hn15 ⟨rfl, hm⟩
    simp (disch := omega) only [vmE, liE, eE, seval] at hn15 hm
    replace hm := hm.symm
    subst hm
    simp (disch := omega) only [vmE, liE, eE, seval, deE, fxE, retOf, maskA, setVals, getVals, putA, stripAt, AVal.strip, stripL, rd, hc6]
    refine ACall.of (ref14_parser_value_w hy18 (i0 := (n + 1)) (by simp (disch := omega) only [vmE, liE, eE, seval, deE, fxE, retOf, maskA, setVals, getVals, putA, stripAt, AVal.strip, stripL, rd])) ?_ ?_
    · first | (simp (disch := omega) only [vmE, liE, eE, seval, deE, fxE, retOf, maskA, setVals, getVals, putA, stripAt, AVal.strip, stripL, rd, hc6]) | rfl
    rintro _ ⟨m20, n19⟩ hn19 ⟨rfl, hm⟩
    simp (disch := omega) only [vmE, liE, eE, seval] at hn19 hm
    replace hm := hm.symm
    subst hm
    simp (disch := omega) only [vmE, liE, eE, seval, deE, fxE, retOf, maskA, setVals, getVals, putA, stripAt, AVal.strip, stripL, rd, hc6]
    refine hK12 _ _ (kPost_normal (hK11 _ _ ?_))
    refine awp_seq_k ?_
    intro K21 hK21
    replace h := joinK_some h
    rcases h with ⟨k23, hk23, h⟩
    refine awp_join [7, 19, 20, 21, 22, 23, 24, 25, 26, 27, 28, 29, 30, 31, 32, 33, 34] [] (fun vs st' => ∃ j22 : Ref14Parser, vs = [] ∧ st'.m = (n19, [.int .i64 y17.1.kind, .str y17.1.text, .slice 1 (List.map AVal.str y17.1.keys) false, .slice 4 (List.map encApiValue y17.1.items) false]) :: ((n + 1), [.str j22.s, .int .i64 j22.at_, .int .i64 j22.nodes, .int .i64 j22.fail, .int .i64 j22.where_]) :: (n, [.int .i64 0, .str [], .slice 1 (List.map AVal.str []) true, .slice 4 (List.map encApiValue []) true]) :: m ∧ k23 j22 = some r) hK21 ?_ ?_
    · clear h
      rintro _ ⟨m24, n25⟩ ⟨j22, rfl, hm, h⟩
      simp only [] at hm
      replace hm := hm.symm
      subst hm
      replace h := hk23 _ _ h
      clear hk23 k23
      refine AWp.known fun _ hkl => ?_
      simp only [] at hkl
      obtain ⟨_, hkl⟩ := keysLt_cons hkl
      obtain ⟨_, hkl⟩ := keysLt_cons hkl
      obtain ⟨_, hkl⟩ := keysLt_cons hkl
      clear hkl
      refine AWp.congr (by simp (disch := omega) only [vmE, liE, eE, seval, deE, fxE, retOf, maskA, setVals, getVals, putA, stripAt, AVal.strip, stripL, rd]; rfl) ?_
      refine awp_seq_k ?_
      intro K46 hK46
      refine awp_seq_k ?_
      intro K47 hK47
      refine awp_region' [] ?_
      intro K48 hK48
      simp (disch := omega) only [vmE, liE, eE, seval, deE, fxE, retOf, maskA, setVals, getVals, putA, stripAt, AVal.strip, stripL, rd, hc6]
      refine hK48 _ _ (kPost_normal (hK47 _ _ ?_))
      replace h := ite_some h
      rcases h with ⟨hc49, h⟩ | ⟨hc49, h⟩
      · refine awp_cond_t rfl hc49 ?_
        refine awp_seq_k ?_
        intro K50 hK50
        refine awp_draw' [] (.take 1 (.take 2 (.take 3 (.take 4 (.take 5 (.take 6 (.take 7 (.take 8 (.alt 0 [8, 7, 6, 5, 4, 3, 2, 1] (.alt 9 [8, 7, 6, 5, 4, 3, 2, 1] (.alt 10 [8, 7, 6, 5] (.alt 11 [] (.done) (.stop)) (.stop)) (.stop)) (.stop)))))))))) vE_mixed (by kernel_rfl) ?_
        intro K51 hK51
        simp (disch := omega) only [vmE, liE, eE, seval, deE, fxE, retOf, maskA, setVals, getVals, putA, stripAt, AVal.strip, stripL, rd, hc6, hc49]
        refine hK51 _ _ (kPost_normal (hK50 _ _ ?_))
        refine awp_ret ?_
        refine kPost_ret (hR _ _ _ (retPost_r (by simp (disch := omega) only [Try.results10, vmE, liE, eE, seval, deE, fxE, retOf, maskA, setVals, getVals, putA, stripAt, AVal.strip, stripL, rd, hc6, hc49]; rfl) (.cons _ (.cons _ (.cons _ (List.Sublist.refl _)))) ?_))
        cases h
        refine ⟨?_, ?_⟩
        · simp (disch := omega) only [vmE, liE, eE, seval, deE, fxE, retOf, maskA, setVals, getVals, putA, stripAt, AVal.strip, stripL, rd, hc6, hc49]
        · rfl
      · refine awp_cond_f rfl hc49 ?_
        refine awp_skip ?_
        refine kPost_normal (hK46 _ _ ?_)
        refine awp_seq_k ?_
        intro K52 hK52
        refine awp_region' [] ?_
        intro K53 hK53
        simp (disch := omega) only [vmE, liE, eE, seval, deE, fxE, retOf, maskA, setVals, getVals, putA, stripAt, AVal.strip, stripL, rd, hc6, hc49]
        refine hK53 _ _ (kPost_normal (hK52 _ _ ?_))
        refine awp_ret ?_
        refine hR _ _ _ (retPost_r (by simp (disch := omega) only [Try.results10, vmE, liE, eE, seval, deE, fxE, retOf, maskA, setVals, getVals, putA, stripAt, AVal.strip, stripL, rd, hc6, hc49]; rfl) (.cons _ (.cons _ (.cons _ (List.Sublist.refl _)))) ?_)
        cases h
        refine ⟨?_, ?_⟩
        · simp (disch := omega) only [vmE, liE, eE, seval, deE, fxE, retOf, maskA, setVals, getVals, putA, stripAt, AVal.strip, stripL, rd, hc6, hc49]
        · rfl
    · intro J54 hJ54
      refine awp_seq_k ?_
      intro K26 hK26
      replace h := bind_some h
      rcases h with ⟨y28, hy29, h⟩
      refine awp_region' [] ?_
      intro K27 hK27
      simp (disch := omega) only [vmE, liE, eE, seval, deE, fxE, retOf, maskA, setVals, getVals, putA, stripAt, AVal.strip, stripL, rd, hc6]
      refine ACall.of (ref14_parser_next_w hy29 (i0 := (n + 1)) (by simp (disch := omega) only [vmE, liE, eE, seval, deE, fxE, retOf, maskA, setVals, getVals, putA, stripAt, AVal.strip, stripL, rd])) ?_ ?_
      · first | (simp (disch := omega) only [vmE, liE, eE, seval, deE, fxE, retOf, maskA, setVals, getVals, putA, stripAt, AVal.strip, stripL, rd, hc6]) | rfl
      rintro _ ⟨m31, n30⟩ hn30 ⟨rfl, hm⟩
      simp (disch := omega) only [vmE, liE, eE, seval] at hn30 hm
      replace hm := hm.symm
      subst hm
      simp (disch := omega) only [vmE, liE, eE, seval, deE, fxE, retOf, maskA, setVals, getVals, putA, stripAt, AVal.strip, stripL, rd, hc6]
      refine hK27 _ _ (kPost_normal (hK26 _ _ ?_))
      refine awp_seq_k ?_
      intro K32 hK32
      replace h := joinK_some h
      rcases h with ⟨k34, hk34, h⟩
      refine awp_join [21, 22, 23, 24, 25, 26, 27, 28, 29] [30] (fun vs st' => ∃ j33 : Bool, vs = [.bool j33] ∧ st'.m = (n30, [.int .i64 y28.1.kind, .str y28.1.text, .int .i64 y28.1.at_]) :: (n19, [.int .i64 y17.1.kind, .str y17.1.text, .slice 1 (List.map AVal.str y17.1.keys) false, .slice 4 (List.map encApiValue y17.1.items) false]) :: ((n + 1), [.str y28.2.s, .int .i64 y28.2.at_, .int .i64 y28.2.nodes, .int .i64 y28.2.fail, .int .i64 y28.2.where_]) :: (n, [.int .i64 0, .str [], .slice 1 (List.map AVal.str []) true, .slice 4 (List.map encApiValue []) true]) :: m ∧ k34 j33 = some r) hK32 ?_ ?_
      · clear h
        rintro _ ⟨m35, n36⟩ ⟨j33, rfl, hm, h⟩
        simp only [] at hm
        replace hm := hm.symm
        subst hm
        replace h := hk34 _ _ h
        clear hk34 k34
        refine AWp.known fun _ hkl => ?_
        simp only [] at hkl
        obtain ⟨_, hkl⟩ := keysLt_cons hkl
        obtain ⟨_, hkl⟩ := keysLt_cons hkl
        obtain ⟨_, hkl⟩ := keysLt_cons hkl
        obtain ⟨_, hkl⟩ := keysLt_cons hkl
        clear hkl
        refine AWp.congr (by simp (disch := omega) only [vmE, liE, eE, seval, deE, fxE, retOf, maskA, setVals, getVals, putA, stripAt, AVal.strip, stripL, rd]; rfl) ?_
        replace h := ite_some h
        rcases h with ⟨hc39, h⟩ | ⟨hc39, h⟩
        · refine awp_cond_t rfl hc39 ?_
          replace h := bind_some h
          rcases h with ⟨y41, hy42, h⟩
          refine awp_region' [] ?_
          intro K40 hK40
          simp (disch := omega) only [vmE, liE, eE, seval, deE, fxE, retOf, maskA, setVals, getVals, putA, stripAt, AVal.strip, stripL, rd, hc6, hc39]
          refine ACall.of (ref14_parser_stop_w hy42 (i0 := (n + 1)) (by simp (disch := omega) only [vmE, liE, eE, seval, deE, fxE, retOf, maskA, setVals, getVals, putA, stripAt, AVal.strip, stripL, rd])) ?_ ?_
          · first | (simp (disch := omega) only [vmE, liE, eE, seval, deE, fxE, retOf, maskA, setVals, getVals, putA, stripAt, AVal.strip, stripL, rd, hc6, hc39]) | rfl
          rintro _ ⟨m44, n43⟩ hn43 ⟨rfl, hm⟩
          simp (disch := omega) only [vmE, liE, eE, seval] at hn43 hm
          replace hm := hm.symm
          subst hm
          simp (disch := omega) only [vmE, liE, eE, seval, deE, fxE, retOf, maskA, setVals, getVals, putA, stripAt, AVal.strip, stripL, rd, hc6, hc39]
          refine hK40 _ _ (kPost_normal (hJ54 _ _ _ (.cons _ (List.Sublist.refl _)) ?_ ⟨y41, ?_, ?_, h⟩)) <;> simp (disch := omega) only [vmE, liE, eE, seval, deE, fxE, retOf, maskA, setVals, getVals, putA, stripAt, AVal.strip, stripL, rd, hc6, hc39]
        · refine awp_cond_f rfl hc39 ?_
          refine awp_skip ?_
          refine kPost_normal (hJ54 _ _ _ (.cons _ (List.Sublist.refl _)) ?_ ⟨y28.2, ?_, ?_, h⟩) <;> simp (disch := omega) only [vmE, liE, eE, seval, deE, fxE, retOf, maskA, setVals, getVals, putA, stripAt, AVal.strip, stripL, rd, hc6, hc39]
      · intro J45 hJ45
        replace h := ite_some h
        rcases h with ⟨hc38, h⟩ | ⟨hc38, h⟩
        · refine awp_region' [] ?_
          intro K37 hK37
          simp (disch := omega) only [vmE, liE, eE, seval, deE, fxE, retOf, maskA, setVals, getVals, putA, stripAt, AVal.strip, stripL, rd, hc6, hc38]
          refine hK37 _ _ (kPost_normal (hJ45 _ _ _ (List.Sublist.refl _) ?_ ⟨(y28.1.kind != 1), ?_, ?_, h⟩)) <;> simp (disch := omega) only [vmE, liE, eE, seval, deE, fxE, retOf, maskA, setVals, getVals, putA, stripAt, AVal.strip, stripL, rd, hc6, hc38]
        · refine awp_region' [] ?_
          intro K37 hK37
          simp (disch := omega) only [vmE, liE, eE, seval, deE, fxE, retOf, maskA, setVals, getVals, putA, stripAt, AVal.strip, stripL, rd, hc6, hc38]
          refine hK37 _ _ (kPost_normal (hJ45 _ _ _ (List.Sublist.refl _) ?_ ⟨false, ?_, ?_, h⟩)) <;> simp (disch := omega) only [vmE, liE, eE, seval, deE, fxE, retOf, maskA, setVals, getVals, putA, stripAt, AVal.strip, stripL, rd, hc6, hc38]
end Go.Proofs.Ytdbeiialamganaa
