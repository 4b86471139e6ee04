/- That the code computes these functions; written by decomp.py. -/
import Derived.Test.YtdbeiialamganaaVmFacts
import Derived.Test.YtdbeiialamganaaDefs
import Derived.Test.YtdbeiialamganaaVMSets
import Derived.Test.YtdbeiialamganaaW10
import Derived.Test.YtdbeiialamganaaW16
set_option linter.unusedVariables false
set_option linter.unusedSimpArgs false
set_option maxHeartbeats 4000000
set_option maxRecDepth 100000
set_option linter.defProp false
namespace Go.Proofs.Ytdbeiialamganaa
open Go.VM
theorem ref13_text_w {N : Nat} {a0 : (List UInt8)} {a1 : Int} {r : (List UInt8) × Int × Int} (h : ref13_text N a0 a1 = some r) {n : Nat} {m : List (Nat × List AVal)} :
    ACall vE 62 [.str a0, .int .i64 a1] ⟨m, n⟩ fun r' st => r' = .tuple [.str r.1, .int .i64 r.2.1, .int .i64 r.2.2] ∧ st.m = m := by
  rw [ref13_text] at h
  refine acall_k Try.func62 rfl ?_
  intro R hR
  refine AWp.congr (by simp only [Try.ntmps62, liE, seval]; rfl) ?_
  refine awp_seq_k ?_
  intro K1 hK1
  refine awp_region' [] ?_
  intro K2 hK2
  simp (disch := omega) only [vmE, liE, eE, seval, deE, fxE, retOf, maskA, setVals, getVals, putA, stripAt, AVal.strip, stripL, rd]
  refine hK2 _ _ (kPost_normal (hK1 _ _ ?_))
  refine awp_seq_k ?_
  intro K3 hK3
  refine awp_region' [] ?_
  intro K4 hK4
  simp (disch := omega) only [vmE, liE, eE, seval, deE, fxE, retOf, maskA, setVals, getVals, putA, stripAt, AVal.strip, stripL, rd]
  refine hK4 _ _ (kPost_normal (hK3 _ _ ?_))
  refine awp_seq_k ?_
  intro K5 hK5
  replace h := joinK_some h
  rcases h with ⟨k7, hk7, h⟩
  refine awp_join [4, 5, 6, 7, 8, 9, 10, 11, 12, 13, 14, 15, 16, 17, 18, 19, 20, 21, 22, 23, 24, 25, 26, 27, 28, 29, 30, 31, 32, 33, 34, 35, 36, 37, 38, 39, 40, 41, 42, 43, 44, 45, 46, 47, 48, 49, 50, 51, 52, 53, 54, 55, 56, 57, 58, 59, 60, 61, 62, 63, 64, 65, 66, 67, 68, 69] [] (fun vs st' => ∃ j6 : Unit, vs = [] ∧ st'.m = m ∧ k7 j6 = some r) hK5 ?_ ?_
  · clear h
    rintro _ ⟨m8, n9⟩ ⟨j6, rfl, hm, h⟩
    simp only [] at hm
    replace hm := hm.symm
    subst hm
    replace h := hk7 _ _ h
    clear hk7 k7
    refine AWp.congr (by simp (disch := omega) only [vmE, liE, eE, seval, deE, fxE, retOf, maskA, setVals, getVals, putA, stripAt, AVal.strip, stripL, rd]; rfl) ?_
    refine awp_seq_k ?_
    intro K67 hK67
    refine awp_region' [] ?_
    intro K68 hK68
    simp (disch := omega) only [vmE, liE, eE, seval, deE, fxE, retOf, maskA, setVals, getVals, putA, stripAt, AVal.strip, stripL, rd]
    refine hK68 _ _ (kPost_normal (hK67 _ _ ?_))
    refine awp_ret ?_
    refine hR _ _ _ (retPost_r (by simp (disch := omega) only [Try.results62, vmE, liE, eE, seval, deE, fxE, retOf, maskA, setVals, getVals, putA, stripAt, AVal.strip, stripL, rd]; rfl) (List.Sublist.refl _) ?_)
    cases h
    refine ⟨?_, ?_⟩
    · simp (disch := omega) only [vmE, liE, eE, seval, deE, fxE, retOf, maskA, setVals, getVals, putA, stripAt, AVal.strip, stripL, rd]
    · rfl
  · intro J69 hJ69
    refine awp_seq_k ?_
    intro K10 hK10
    refine awp_region' [] ?_
    intro K11 hK11
    simp (disch := omega) only [vmE, liE, eE, seval, deE, fxE, retOf, maskA, setVals, getVals, putA, stripAt, AVal.strip, stripL, rd]
    refine hK11 _ _ (kPost_normal (hK10 _ _ ?_))
    refine awp_block_k ?_
    intro K12 hK12
    refine awp_loop_v [4, 5, 6, 9, 10, 11, 12, 13, 14, 17, 18, 19, 20, 21, 22, 23, 24, 25, 26, 27, 28, 29, 30, 31, 32, 33, 34, 35, 36, 37, 38, 39, 40, 41, 42, 43, 44, 45, 46, 47, 48, 49, 50, 51, 52, 53, 54, 55, 56, 57, 58, 59, 60, 61, 62, 63, 64, 65, 66, 67, 68, 69] [7, 8] (fun k vs st' => ∃ (s7 : (List UInt8)) (s8 : Int), vs = [.str s7, .int .i64 s8] ∧ st'.m = m ∧ ref13_text_L1 N a0 k7 k s7 s8 = some r) N ⟨[], (wr .i64 (a1 + 1)), ?_, ?_, h⟩ ?_
    · simp (disch := omega) only [vmE, liE, eE, seval, deE, fxE, retOf, maskA, setVals, getVals, putA, stripAt, AVal.strip, stripL, rd]
    · simp (disch := omega) only [vmE, liE, eE, seval, deE, fxE, retOf, maskA, setVals, getVals, putA, stripAt, AVal.strip, stripL, rd]
    · clear h
      rintro k13 _ ⟨m66, nL0_1⟩ ⟨s7, s8, rfl, hm, h⟩ J65 hJ65
      simp only [] at hm
      replace hm := hm.symm
      subst hm
      rcases k13 with _ | k13
      · simp only [ref13_text_L1, reduceCtorEq] at h
      rw [ref13_text_L1] at h
      refine AWp.congr (by simp (disch := omega) only [vmE, liE, eE, seval, deE, fxE, retOf, maskA, setVals, getVals, putA, stripAt, AVal.strip, stripL, rd]; rfl) ?_
      refine awp_seq_k ?_
      intro K14 hK14
      refine awp_seq_k ?_
      intro K15 hK15
      refine awp_region' [] ?_
      intro K16 hK16
      simp (disch := omega) only [vmE, liE, eE, seval, deE, fxE, retOf, maskA, setVals, getVals, putA, stripAt, AVal.strip, stripL, rd]
      refine hK16 _ _ (kPost_normal (hK15 _ _ ?_))
      replace h := ite_some h
      rcases h with ⟨hc17, h⟩ | ⟨hc17, h⟩
      · refine awp_cond_t rfl hc17 ?_
        refine awp_skip ?_
        refine kPost_normal (hK14 _ _ ?_)
        refine awp_block_k ?_
        intro K18 hK18
        refine awp_block_k ?_
        intro K19 hK19
        refine awp_seq_k ?_
        intro K20 hK20
        replace h := bind_some h
        rcases h with ⟨x22, hx23, h⟩
        refine awp_region' [] ?_
        intro K21 hK21
        simp (disch := omega) only [vmE, liE, eE, seval, deE, fxE, retOf, maskA, setVals, getVals, putA, stripAt, AVal.strip, stripL, rd, hc17, hx23]
        refine hK21 _ _ (kPost_normal (hK20 _ _ ?_))
        replace h := ite_some h
        rcases h with ⟨hc24, h⟩ | ⟨hc24, h⟩
        · refine awp_cond_t rfl hc24 ?_
          refine awp_seq_k ?_
          intro K25 hK25
          refine awp_region' [] ?_
          intro K26 hK26
          simp (disch := omega) only [vmE, liE, eE, seval, deE, fxE, retOf, maskA, setVals, getVals, putA, stripAt, AVal.strip, stripL, rd, hc17, hx23, hc24]
          refine hK26 _ _ (kPost_normal (hK25 _ _ ?_))
          refine awp_ret ?_
          refine bPost_ret (bPost_ret (kPost_ret (bPost_ret (kPost_ret (hR _ _ _ (retPost_r (by simp (disch := omega) only [Try.results62, vmE, liE, eE, seval, deE, fxE, retOf, maskA, setVals, getVals, putA, stripAt, AVal.strip, stripL, rd, hc17, hx23, hc24]; rfl) (List.Sublist.refl _) ?_))))))
          cases h
          refine ⟨?_, ?_⟩
          · simp (disch := omega) only [vmE, liE, eE, seval, deE, fxE, retOf, maskA, setVals, getVals, putA, stripAt, AVal.strip, stripL, rd, hc17, hx23, hc24]
          · rfl
        · refine awp_cond_f rfl hc24 ?_
          refine awp_seq_k ?_
          intro K27 hK27
          refine awp_region' [] ?_
          intro K28 hK28
          simp (disch := omega) only [vmE, liE, eE, seval, deE, fxE, retOf, maskA, setVals, getVals, putA, stripAt, AVal.strip, stripL, rd, hc17, hx23, hc24]
          refine hK28 _ _ (kPost_normal (hK27 _ _ ?_))
          replace h := ite_some h
          rcases h with ⟨hc29, h⟩ | ⟨hc29, h⟩
          · refine awp_cond_t rfl hc29 ?_
            refine awp_seq_k ?_
            intro K30 hK30
            replace h := bind_some h
            rcases h with ⟨y32, hy33, h⟩
            refine awp_region' [] ?_
            intro K31 hK31
            simp (disch := omega) only [vmE, liE, eE, seval, deE, fxE, retOf, maskA, setVals, getVals, putA, stripAt, AVal.strip, stripL, rd, hc17, hx23, hc24, hc29]
            refine ACall.of (ref13_escape_w hy33) ?_ ?_
            · first | (simp (disch := omega) only [vmE, liE, eE, seval, deE, fxE, retOf, maskA, setVals, getVals, putA, stripAt, AVal.strip, stripL, rd, hc17, hx23, hc24, hc29]) | rfl
            rintro _ ⟨m35, n34⟩ hn34 ⟨rfl, hm⟩
            simp (disch := omega) only [vmE, liE, eE, seval] at hn34 hm
            replace hm := hm.symm
            subst hm
            simp (disch := omega) only [vmE, liE, eE, seval, deE, fxE, retOf, maskA, setVals, getVals, putA, stripAt, AVal.strip, stripL, rd, hc17, hx23, hc24, hc29]
            refine hK31 _ _ (kPost_normal (hK30 _ _ ?_))
            refine awp_seq_k ?_
            intro K36 hK36
            refine awp_seq_k ?_
            intro K37 hK37
            refine awp_region' [] ?_
            intro K38 hK38
            simp (disch := omega) only [vmE, liE, eE, seval, deE, fxE, retOf, maskA, setVals, getVals, putA, stripAt, AVal.strip, stripL, rd, hc17, hx23, hc24, hc29]
            refine hK38 _ _ (kPost_normal (hK37 _ _ ?_))
            replace h := ite_some h
            rcases h with ⟨hc39, h⟩ | ⟨hc39, h⟩
            · refine awp_cond_t rfl hc39 ?_
              refine awp_seq_k ?_
              intro K40 hK40
              refine awp_region' [] ?_
              intro K41 hK41
              simp (disch := omega) only [vmE, liE, eE, seval, deE, fxE, retOf, maskA, setVals, getVals, putA, stripAt, AVal.strip, stripL, rd, hc17, hx23, hc24, hc29, hc39]
              refine hK41 _ _ (kPost_normal (hK40 _ _ ?_))
              refine awp_ret ?_
              refine kPost_ret (bPost_ret (bPost_ret (kPost_ret (bPost_ret (kPost_ret (hR _ _ _ (retPost_r (by simp (disch := omega) only [Try.results62, vmE, liE, eE, seval, deE, fxE, retOf, maskA, setVals, getVals, putA, stripAt, AVal.strip, stripL, rd, hc17, hx23, hc24, hc29, hc39]; rfl) (List.Sublist.refl _) ?_)))))))
              cases h
              refine ⟨?_, ?_⟩
              · simp (disch := omega) only [vmE, liE, eE, seval, deE, fxE, retOf, maskA, setVals, getVals, putA, stripAt, AVal.strip, stripL, rd, hc17, hx23, hc24, hc29, hc39]
              · rfl
            · refine awp_cond_f rfl hc39 ?_
              refine awp_skip ?_
              refine kPost_normal (hK36 _ _ ?_)
              replace h := grd_some h
              rcases h with ⟨hg43, h⟩
              try simp only [liE, seval] at hg43
              refine awp_region' [] ?_
              intro K42 hK42
              simp (disch := omega) only [vmE, liE, eE, seval, deE, fxE, retOf, maskA, setVals, getVals, putA, stripAt, AVal.strip, stripL, rd, hc17, hx23, hc24, hc29, hc39, hg43]
              refine hK42 _ _ (bPost_normal (hK19 _ _ (bPost_normal (hK18 _ _ (kPost_normal (hJ65 k13 _ _ _ (Nat.lt_succ_self _) (List.Sublist.refl _) ?_ ⟨(s7 ++ y32.1), y32.2.1, ?_, ?_, h⟩)))))) <;> simp (disch := omega) only [vmE, liE, eE, seval, deE, fxE, retOf, maskA, setVals, getVals, putA, stripAt, AVal.strip, stripL, rd, hc17, hx23, hc24, hc29, hc39, hg43]
          · refine awp_cond_f rfl hc29 ?_
            refine awp_seq_k ?_
            intro K44 hK44
            refine awp_region' [] ?_
            intro K45 hK45
            simp (disch := omega) only [vmE, liE, eE, seval, deE, fxE, retOf, maskA, setVals, getVals, putA, stripAt, AVal.strip, stripL, rd, hc17, hx23, hc24, hc29]
            refine hK45 _ _ (kPost_normal (hK44 _ _ ?_))
            replace h := ite_some h
            rcases h with ⟨hc46, h⟩ | ⟨hc46, h⟩
            · refine awp_cond_t rfl hc46 ?_
              refine awp_seq_k ?_
              intro K47 hK47
              refine awp_region' [] ?_
              intro K48 hK48
              simp (disch := omega) only [vmE, liE, eE, seval, deE, fxE, retOf, maskA, setVals, getVals, putA, stripAt, AVal.strip, stripL, rd, hc17, hx23, hc24, hc29, hc46]
              refine hK48 _ _ (kPost_normal (hK47 _ _ ?_))
              refine awp_ret ?_
              refine bPost_ret (bPost_ret (kPost_ret (bPost_ret (kPost_ret (hR _ _ _ (retPost_r (by simp (disch := omega) only [Try.results62, vmE, liE, eE, seval, deE, fxE, retOf, maskA, setVals, getVals, putA, stripAt, AVal.strip, stripL, rd, hc17, hx23, hc24, hc29, hc46]; rfl) (List.Sublist.refl _) ?_))))))
              cases h
              refine ⟨?_, ?_⟩
              · simp (disch := omega) only [vmE, liE, eE, seval, deE, fxE, retOf, maskA, setVals, getVals, putA, stripAt, AVal.strip, stripL, rd, hc17, hx23, hc24, hc29, hc46]
              · rfl
            · refine awp_cond_f rfl hc46 ?_
              refine awp_seq_k ?_
              intro K49 hK49
              replace h := bind_some h
              rcases h with ⟨y51, hy52, h⟩
              refine awp_region' [] ?_
              intro K50 hK50
              simp (disch := omega) only [vmE, liE, eE, seval, deE, fxE, retOf, maskA, setVals, getVals, putA, stripAt, AVal.strip, stripL, rd, hc17, hx23, hc24, hc29, hc46]
              refine ACall.of (ref02_Decode_w hy52) ?_ ?_
              · first | (simp (disch := omega) only [vmE, liE, eE, seval, deE, fxE, retOf, maskA, setVals, getVals, putA, stripAt, AVal.strip, stripL, rd, hc17, hx23, hc24, hc29, hc46]) | rfl
              rintro _ ⟨m54, n53⟩ hn53 ⟨rfl, hm⟩
              simp (disch := omega) only [vmE, liE, eE, seval] at hn53 hm
              replace hm := hm.symm
              subst hm
              simp (disch := omega) only [vmE, liE, eE, seval, deE, fxE, retOf, maskA, setVals, getVals, putA, stripAt, AVal.strip, stripL, rd, hc17, hx23, hc24, hc29, hc46]
              refine hK50 _ _ (kPost_normal (hK49 _ _ ?_))
              refine awp_seq_k ?_
              intro K55 hK55
              refine awp_seq_k ?_
              intro K56 hK56
              refine awp_region' [] ?_
              intro K57 hK57
              simp (disch := omega) only [vmE, liE, eE, seval, deE, fxE, retOf, maskA, setVals, getVals, putA, stripAt, AVal.strip, stripL, rd, hc17, hx23, hc24, hc29, hc46]
              refine hK57 _ _ (kPost_normal (hK56 _ _ ?_))
              replace h := ite_some h
              rcases h with ⟨hc58, h⟩ | ⟨hc58, h⟩
              · refine awp_cond_t rfl hc58 ?_
                refine awp_seq_k ?_
                intro K59 hK59
                refine awp_region' [] ?_
                intro K60 hK60
                simp (disch := omega) only [vmE, liE, eE, seval, deE, fxE, retOf, maskA, setVals, getVals, putA, stripAt, AVal.strip, stripL, rd, hc17, hx23, hc24, hc29, hc46, hc58]
                refine hK60 _ _ (kPost_normal (hK59 _ _ ?_))
                refine awp_ret ?_
                refine kPost_ret (bPost_ret (bPost_ret (kPost_ret (bPost_ret (kPost_ret (hR _ _ _ (retPost_r (by simp (disch := omega) only [Try.results62, vmE, liE, eE, seval, deE, fxE, retOf, maskA, setVals, getVals, putA, stripAt, AVal.strip, stripL, rd, hc17, hx23, hc24, hc29, hc46, hc58]; rfl) (List.Sublist.refl _) ?_)))))))
                cases h
                refine ⟨?_, ?_⟩
                · simp (disch := omega) only [vmE, liE, eE, seval, deE, fxE, retOf, maskA, setVals, getVals, putA, stripAt, AVal.strip, stripL, rd, hc17, hx23, hc24, hc29, hc46, hc58]
                · rfl
              · refine awp_cond_f rfl hc58 ?_
                refine awp_skip ?_
                refine kPost_normal (hK55 _ _ ?_)
                replace h := bind_some h
                rcases h with ⟨x62, hx63, h⟩
                replace h := grd_some h
                rcases h with ⟨hg64, h⟩
                try simp only [liE, seval] at hg64
                refine awp_region' [] ?_
                intro K61 hK61
                simp (disch := omega) only [vmE, liE, eE, seval, deE, fxE, retOf, maskA, setVals, getVals, putA, stripAt, AVal.strip, stripL, rd, hc17, hx23, hc24, hc29, hc46, hc58, hx63, hg64]
                refine hK61 _ _ (bPost_normal (hK19 _ _ (bPost_normal (hK18 _ _ (kPost_normal (hJ65 k13 _ _ _ (Nat.lt_succ_self _) (List.Sublist.refl _) ?_ ⟨(s7 ++ x62), y51.2.1, ?_, ?_, h⟩)))))) <;> simp (disch := omega) only [vmE, liE, eE, seval, deE, fxE, retOf, maskA, setVals, getVals, putA, stripAt, AVal.strip, stripL, rd, hc17, hx23, hc24, hc29, hc46, hc58, hx63, hg64]
      · refine awp_cond_f rfl hc17 ?_
        refine awp_exit ?_
        refine kPost_exit (kPost_exit (bPost_here (hK12 _ _ (kPost_normal (hJ69 _ _ _ (List.Sublist.refl _) ?_ ⟨(), ?_, ?_, h⟩))))) <;> simp (disch := omega) only [vmE, liE, eE, seval, deE, fxE, retOf, maskA, setVals, getVals, putA, stripAt, AVal.strip, stripL, rd, hc17]
end Go.Proofs.Ytdbeiialamganaa
