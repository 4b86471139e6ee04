/- That the code computes these functions; written by decomp.py. -/
import Derived.Test.YtdbeiialamganaaVmFacts
import Derived.Test.YtdbeiialamganaaDefs
import Derived.Test.YtdbeiialamganaaVMSets
import Derived.Test.YtdbeiialamganaaW5
import Derived.Test.YtdbeiialamganaaW10
import Derived.Test.YtdbeiialamganaaW13
import Derived.Test.YtdbeiialamganaaW14
set_option linter.unusedVariables false
set_option linter.unusedSimpArgs false
set_option maxHeartbeats 4000000
set_option maxRecDepth 100000
set_option linter.defProp false
namespace Go.Proofs.Ytdbeiialamganaa
open Go.VM
theorem ref13_unit_w {N : Nat} {a0 : (List UInt8)} {a1 : Int} {r : Int × Bool} (h : ref13_unit N a0 a1 = some r) {n : Nat} {m : List (Nat × List AVal)} :
    ACall vE 68 [.str a0, .int .i64 a1] ⟨m, n⟩ fun r' st => r' = .tuple [.int .i64 r.1, .bool r.2] ∧ st.m = m := by
  rw [ref13_unit] at h
  refine acall_k Try.func68 rfl ?_
  intro R hR
  refine AWp.congr (by simp only [Try.ntmps68, liE, seval]; rfl) ?_
  refine awp_seq_k ?_
  intro K1 hK1
  refine awp_region' [] ?_
  intro K2 hK2
  simp (disch := omega) only [vmE, liE, eE, seval, deE, fxE, retOf, maskA, setVals, getVals, putA, stripAt, AVal.strip, stripL, rd]
  refine hK2 _ _ (kPost_normal (hK1 _ _ ?_))
  refine awp_seq_k ?_
  intro K3 hK3
  refine awp_seq_k ?_
  intro K4 hK4
  replace h := joinK_some h
  rcases h with ⟨k6, hk6, h⟩
  refine awp_join [8, 9, 10, 11, 12, 13, 14, 15, 16, 17, 18, 19, 20, 21, 22, 23, 24] [25] (fun vs st' => ∃ j5 : Bool, vs = [.bool j5] ∧ st'.m = m ∧ k6 j5 = some r) hK4 ?_ ?_
  · clear h
    rintro _ ⟨m7, n8⟩ ⟨j5, rfl, hm, h⟩
    simp only [] at hm
    replace hm := hm.symm
    subst hm
    replace h := hk6 _ _ h
    clear hk6 k6
    refine AWp.congr (by simp (disch := omega) only [vmE, liE, eE, seval, deE, fxE, retOf, maskA, setVals, getVals, putA, stripAt, AVal.strip, stripL, rd]; rfl) ?_
    replace h := ite_some h
    rcases h with ⟨hc16, h⟩ | ⟨hc16, h⟩
    · refine awp_cond_t rfl hc16 ?_
      refine awp_seq_k ?_
      intro K17 hK17
      refine awp_region' [] ?_
      intro K18 hK18
      simp (disch := omega) only [vmE, liE, eE, seval, deE, fxE, retOf, maskA, setVals, getVals, putA, stripAt, AVal.strip, stripL, rd, hc16]
      refine hK18 _ _ (kPost_normal (hK17 _ _ ?_))
      refine awp_ret ?_
      refine kPost_ret (hR _ _ _ (retPost_r (by simp (disch := omega) only [Try.results68, vmE, liE, eE, seval, deE, fxE, retOf, maskA, setVals, getVals, putA, stripAt, AVal.strip, stripL, rd, hc16]; rfl) (List.Sublist.refl _) ?_))
      cases h
      refine ⟨?_, ?_⟩
      · simp (disch := omega) only [vmE, liE, eE, seval, deE, fxE, retOf, maskA, setVals, getVals, putA, stripAt, AVal.strip, stripL, rd, hc16]
      · rfl
    · refine awp_cond_f rfl hc16 ?_
      refine awp_skip ?_
      refine kPost_normal (hK3 _ _ ?_)
      refine awp_seq_k ?_
      intro K19 hK19
      replace h := bind_some h
      rcases h with ⟨x21, hx22, h⟩
      replace h := bind_some h
      rcases h with ⟨y23, hy24, h⟩
      refine awp_region' [] ?_
      intro K20 hK20
      simp (disch := omega) only [vmE, liE, eE, seval, deE, fxE, retOf, maskA, setVals, getVals, putA, stripAt, AVal.strip, stripL, rd, hc16, hx22, hx22]
      refine ACall.of (ref04_Hex_w hy24) ?_ ?_
      · first | (simp (disch := omega) only [vmE, liE, eE, seval, deE, fxE, retOf, maskA, setVals, getVals, putA, stripAt, AVal.strip, stripL, rd, hc16, hx22, hx22]) | rfl
      rintro _ ⟨m26, n25⟩ hn25 ⟨rfl, hm⟩
      simp (disch := omega) only [vmE, liE, eE, seval] at hn25 hm
      replace hm := hm.symm
      subst hm
      simp (disch := omega) only [vmE, liE, eE, seval, deE, fxE, retOf, maskA, setVals, getVals, putA, stripAt, AVal.strip, stripL, rd, hc16, hx22]
      refine hK20 _ _ (kPost_normal (hK19 _ _ ?_))
      refine awp_seq_k ?_
      intro K27 hK27
      refine awp_region' [] ?_
      intro K28 hK28
      simp (disch := omega) only [vmE, liE, eE, seval, deE, fxE, retOf, maskA, setVals, getVals, putA, stripAt, AVal.strip, stripL, rd, hc16, hx22]
      refine hK28 _ _ (kPost_normal (hK27 _ _ ?_))
      refine awp_ret ?_
      refine hR _ _ _ (retPost_r (by simp (disch := omega) only [Try.results68, vmE, liE, eE, seval, deE, fxE, retOf, maskA, setVals, getVals, putA, stripAt, AVal.strip, stripL, rd, hc16, hx22]; rfl) (List.Sublist.refl _) ?_)
      cases h
      refine ⟨?_, ?_⟩
      · simp (disch := omega) only [vmE, liE, eE, seval, deE, fxE, retOf, maskA, setVals, getVals, putA, stripAt, AVal.strip, stripL, rd, hc16, hx22]
      · rfl
  · intro J29 hJ29
    replace h := ite_some h
    rcases h with ⟨hc10, h⟩ | ⟨hc10, h⟩
    · refine awp_region' [] ?_
      intro K9 hK9
      simp (disch := omega) only [vmE, liE, eE, seval, deE, fxE, retOf, maskA, setVals, getVals, putA, stripAt, AVal.strip, stripL, rd, hc10]
      refine hK9 _ _ (kPost_normal (hJ29 _ _ _ (List.Sublist.refl _) ?_ ⟨true, ?_, ?_, h⟩)) <;> simp (disch := omega) only [vmE, liE, eE, seval, deE, fxE, retOf, maskA, setVals, getVals, putA, stripAt, AVal.strip, stripL, rd, hc10]
    · replace h := bind_some h
      rcases h with ⟨x11, hx12, h⟩
      replace h := ite_some h
      rcases h with ⟨hc13, h⟩ | ⟨hc13, h⟩
      · refine awp_region' [] ?_
        intro K9 hK9
        simp (disch := omega) only [vmE, liE, eE, seval, deE, fxE, retOf, maskA, setVals, getVals, putA, stripAt, AVal.strip, stripL, rd, hc10, hx12, hc13]
        refine hK9 _ _ (kPost_normal (hJ29 _ _ _ (List.Sublist.refl _) ?_ ⟨true, ?_, ?_, h⟩)) <;> simp (disch := omega) only [vmE, liE, eE, seval, deE, fxE, retOf, maskA, setVals, getVals, putA, stripAt, AVal.strip, stripL, rd, hc10, hx12, hc13]
      · replace h := bind_some h
        rcases h with ⟨x14, hx15, h⟩
        refine awp_region' [] ?_
        intro K9 hK9
        simp (disch := omega) only [vmE, liE, eE, seval, deE, fxE, retOf, maskA, setVals, getVals, putA, stripAt, AVal.strip, stripL, rd, hc10, hx12, hc13, hx15]
        refine hK9 _ _ (kPost_normal (hJ29 _ _ _ (List.Sublist.refl _) ?_ ⟨((bord x14) != 117), ?_, ?_, h⟩)) <;> simp (disch := omega) only [vmE, liE, eE, seval, deE, fxE, retOf, maskA, setVals, getVals, putA, stripAt, AVal.strip, stripL, rd, hc10, hx12, hc13, hx15]
theorem jrd_Decode_w {N : Nat} {a0 : ApiValue} {r : ApiJRD × Int} (h : jrd_Decode N a0 = some r) {n : Nat} {m : List (Nat × List AVal)} :
    ACall vE 11 [.agg [.int .i64 a0.kind, .str a0.text, .slice 1 (List.map AVal.str a0.keys) false, .slice 4 (List.map encApiValue a0.items) false]] ⟨m, n⟩ fun r' st => r' = .tuple [.agg [.str r.1.subject, .slice 1 (List.map AVal.str r.1.aliases) false, .slice 3 (List.map encApiProperty r.1.properties) false, .slice 6 (List.map encApiLink r.1.links) false], .int .i64 r.2] ∧ st.m = m := by
  rw [jrd_Decode] at h
  refine ACall.strip ?_
  refine acall_k Try.func11 rfl ?_
  intro R hR
  refine AWp.congr (by simp only [Try.ntmps11, liE, seval]; rfl) ?_
  refine awp_seq_k ?_
  intro K1 hK1
  refine awp_region' [] ?_
  intro K2 hK2
  simp (disch := omega) only [vmE, liE, eE, seval, deE, fxE, retOf, maskA, setVals, getVals, putA, stripAt, AVal.strip, stripL, rd]
  refine hK2 _ _ (kPost_normal (hK1 _ _ ?_))
  refine awp_seq_k ?_
  intro K3 hK3
  refine awp_seq_k ?_
  intro K4 hK4
  refine awp_region' [] ?_
  intro K5 hK5
  simp (disch := omega) only [vmE, liE, eE, seval, deE, fxE, retOf, maskA, setVals, getVals, putA, stripAt, AVal.strip, stripL, rd]
  refine hK5 _ _ (kPost_normal (hK4 _ _ ?_))
  replace h := ite_some h
  rcases h with ⟨hc6, h⟩ | ⟨hc6, h⟩
  · refine awp_cond_t rfl hc6 ?_
    refine awp_seq_k ?_
    intro K7 hK7
    refine awp_region' [] ?_
    intro K8 hK8
    simp (disch := omega) only [vmE, liE, eE, seval, deE, fxE, retOf, maskA, setVals, getVals, putA, stripAt, AVal.strip, stripL, rd, hc6]
    refine hK8 _ _ (kPost_normal (hK7 _ _ ?_))
    refine awp_ret ?_
    refine kPost_ret (hR _ _ _ (retPost_r (by simp (disch := omega) only [Try.results11, vmE, liE, eE, seval, deE, fxE, retOf, maskA, setVals, getVals, putA, stripAt, AVal.strip, stripL, rd, hc6]; rfl) (.cons _ (.cons _ (List.Sublist.refl _))) ?_))
    cases h
    refine ⟨?_, ?_⟩
    · simp (disch := omega) only [vmE, liE, eE, seval, deE, fxE, retOf, maskA, setVals, getVals, putA, stripAt, AVal.strip, stripL, rd, hc6]
    · rfl
  · refine awp_cond_f rfl hc6 ?_
    refine awp_skip ?_
    refine kPost_normal (hK3 _ _ ?_)
    refine awp_seq_k ?_
    intro K9 hK9
    refine awp_region' [] ?_
    intro K10 hK10
    simp (disch := omega) only [vmE, liE, eE, seval, deE, fxE, retOf, maskA, setVals, getVals, putA, stripAt, AVal.strip, stripL, rd, hc6]
    refine hK10 _ _ (kPost_normal (hK9 _ _ ?_))
    refine awp_seq_k ?_
    intro K11 hK11
    refine awp_region' [] ?_
    intro K12 hK12
    simp (disch := omega) only [vmE, liE, eE, seval, deE, fxE, retOf, maskA, setVals, getVals, putA, stripAt, AVal.strip, stripL, rd, hc6]
    refine hK12 _ _ (kPost_normal (hK11 _ _ ?_))
    refine awp_seq_k ?_
    intro K13 hK13
    replace h := bind_some h
    rcases h with ⟨y15, hy16, h⟩
    refine awp_region' [] ?_
    intro K14 hK14
    simp (disch := omega) only [vmE, liE, eE, seval, deE, fxE, retOf, maskA, setVals, getVals, putA, stripAt, AVal.strip, stripL, rd, hc6]
    refine ACall.of (jrd_decoder_member_w hy16 (i0 := (n + 2)) (by simp (disch := omega) only [vmE, liE, eE, seval, deE, fxE, retOf, maskA, setVals, getVals, putA, stripAt, AVal.strip, stripL, rd])) ?_ ?_
    · first | (simp (disch := omega) only [vmE, liE, eE, seval, deE, fxE, retOf, maskA, setVals, getVals, putA, stripAt, AVal.strip, stripL, rd, hc6]) | rfl
    rintro _ ⟨m18, n17⟩ hn17 ⟨rfl, hm⟩
    simp (disch := omega) only [vmE, liE, eE, seval] at hn17 hm
    replace hm := hm.symm
    subst hm
    simp (disch := omega) only [vmE, liE, eE, seval, deE, fxE, retOf, maskA, setVals, getVals, putA, stripAt, AVal.strip, stripL, rd, hc6]
    refine hK14 _ _ (kPost_normal (hK13 _ _ ?_))
    refine awp_seq_k ?_
    intro K19 hK19
    replace h := joinK_some h
    rcases h with ⟨k21, hk21, h⟩
    refine awp_join [7, 17, 18, 19, 20, 21, 22, 23, 24, 25, 26, 27, 28, 29, 30, 31, 32] [] (fun vs st' => ∃ j20 : (List (List UInt8)) × JrdDecoder, vs = [] ∧ st'.m = ((n + 3), [.str y15.1, .slice 1 (List.map AVal.str j20.1) true, .slice 3 (List.map encApiProperty []) true, .slice 6 (List.map encApiLink []) true]) :: ((n + 2), [.int .i64 j20.2.e]) :: ((n + 1), [.str [], .slice 1 (List.map AVal.str []) true, .slice 3 (List.map encApiProperty []) true, .slice 6 (List.map encApiLink []) true]) :: (n, [.int .i64 a0.kind, .str a0.text, .slice 1 (List.map AVal.str a0.keys) false, .slice 4 (List.map encApiValue a0.items) false]) :: m ∧ k21 j20 = some r) hK19 ?_ ?_
    · clear h
      rintro _ ⟨m22, n23⟩ ⟨j20, rfl, hm, h⟩
      simp only [] at hm
      replace hm := hm.symm
      subst hm
      replace h := hk21 _ _ h
      clear hk21 k21
      refine AWp.known fun _ hkl => ?_
      simp only [] at hkl
      obtain ⟨_, hkl⟩ := keysLt_cons hkl
      obtain ⟨_, hkl⟩ := keysLt_cons hkl
      obtain ⟨_, hkl⟩ := keysLt_cons hkl
      obtain ⟨_, hkl⟩ := keysLt_cons hkl
      clear hkl
      refine AWp.congr (by simp (disch := omega) only [vmE, liE, eE, seval, deE, fxE, retOf, maskA, setVals, getVals, putA, stripAt, AVal.strip, stripL, rd]; rfl) ?_
      refine awp_seq_k ?_
      intro K56 hK56
      replace h := bind_some h
      rcases h with ⟨y58, hy59, h⟩
      refine awp_region' [] ?_
      intro K57 hK57
      simp (disch := omega) only [vmE, liE, eE, seval, deE, fxE, retOf, maskA, setVals, getVals, putA, stripAt, AVal.strip, stripL, rd, hc6]
      refine ACall.of (jrd_decoder_properties_w hy59 (i0 := (n + 2)) (by simp (disch := omega) only [vmE, liE, eE, seval, deE, fxE, retOf, maskA, setVals, getVals, putA, stripAt, AVal.strip, stripL, rd])) ?_ ?_
      · first | (simp (disch := omega) only [vmE, liE, eE, seval, deE, fxE, retOf, maskA, setVals, getVals, putA, stripAt, AVal.strip, stripL, rd, hc6]) | rfl
      rintro _ ⟨m61, n60⟩ hn60 ⟨rfl, hm⟩
      simp (disch := omega) only [vmE, liE, eE, seval] at hn60 hm
      replace hm := hm.symm
      subst hm
      simp (disch := omega) only [vmE, liE, eE, seval, deE, fxE, retOf, maskA, setVals, getVals, putA, stripAt, AVal.strip, stripL, rd, hc6]
      refine hK57 _ _ (kPost_normal (hK56 _ _ ?_))
      refine awp_seq_k ?_
      intro K62 hK62
      replace h := joinK_some h
      rcases h with ⟨k64, hk64, h⟩
      refine awp_join [9, 36, 37, 38, 39, 40, 41, 42, 43, 44, 45, 46, 47, 48, 49, 50, 51] [] (fun vs st' => ∃ j63 : (List ApiLink) × JrdDecoder, vs = [] ∧ st'.m = ((n + 3), [.str y15.1, .slice 1 (List.map AVal.str j20.1) true, .slice 3 (List.map encApiProperty y58.1) false, .slice 6 (List.map encApiLink j63.1) true]) :: ((n + 2), [.int .i64 j63.2.e]) :: ((n + 1), [.str [], .slice 1 (List.map AVal.str []) true, .slice 3 (List.map encApiProperty []) true, .slice 6 (List.map encApiLink []) true]) :: (n, [.int .i64 a0.kind, .str a0.text, .slice 1 (List.map AVal.str a0.keys) false, .slice 4 (List.map encApiValue a0.items) false]) :: m ∧ k64 j63 = some r) hK62 ?_ ?_
      · clear h
        rintro _ ⟨m65, n66⟩ ⟨j63, rfl, hm, h⟩
        simp only [] at hm
        replace hm := hm.symm
        subst hm
        replace h := hk64 _ _ h
        clear hk64 k64
        refine AWp.known fun _ hkl => ?_
        simp only [] at hkl
        obtain ⟨_, hkl⟩ := keysLt_cons hkl
        obtain ⟨_, hkl⟩ := keysLt_cons hkl
        obtain ⟨_, hkl⟩ := keysLt_cons hkl
        obtain ⟨_, hkl⟩ := keysLt_cons hkl
        clear hkl
        refine AWp.congr (by simp (disch := omega) only [vmE, liE, eE, seval, deE, fxE, retOf, maskA, setVals, getVals, putA, stripAt, AVal.strip, stripL, rd]; rfl) ?_
        refine awp_seq_k ?_
        intro K99 hK99
        refine awp_seq_k ?_
        intro K100 hK100
        refine awp_region' [] ?_
        intro K101 hK101
        simp (disch := omega) only [vmE, liE, eE, seval, deE, fxE, retOf, maskA, setVals, getVals, putA, stripAt, AVal.strip, stripL, rd, hc6]
        refine hK101 _ _ (kPost_normal (hK100 _ _ ?_))
        replace h := ite_some h
        rcases h with ⟨hc102, h⟩ | ⟨hc102, h⟩
        · refine awp_cond_t rfl hc102 ?_
          refine awp_seq_k ?_
          intro K103 hK103
          refine awp_draw' [] (.take 1 (.take 2 (.alt 0 [2, 1] (.alt 3 [2, 1] (.alt 4 [] (.done) (.stop)) (.stop)) (.stop)))) vE_mixed (by kernel_rfl) ?_
          intro K104 hK104
          simp (disch := omega) only [vmE, liE, eE, seval, deE, fxE, retOf, maskA, setVals, getVals, putA, stripAt, AVal.strip, stripL, rd, hc6, hc102]
          refine hK104 _ _ (kPost_normal (hK103 _ _ ?_))
          refine awp_ret ?_
          refine kPost_ret (hR _ _ _ (retPost_r (by simp (disch := omega) only [Try.results11, vmE, liE, eE, seval, deE, fxE, retOf, maskA, setVals, getVals, putA, stripAt, AVal.strip, stripL, rd, hc6, hc102]; rfl) (.cons _ (.cons _ (.cons _ (.cons _ (List.Sublist.refl _))))) ?_))
          cases h
          refine ⟨?_, ?_⟩
          · simp (disch := omega) only [vmE, liE, eE, seval, deE, fxE, retOf, maskA, setVals, getVals, putA, stripAt, AVal.strip, stripL, rd, hc6, hc102]
          · rfl
        · refine awp_cond_f rfl hc102 ?_
          refine awp_skip ?_
          refine kPost_normal (hK99 _ _ ?_)
          refine awp_seq_k ?_
          intro K105 hK105
          refine awp_region' [] ?_
          intro K106 hK106
          simp (disch := omega) only [vmE, liE, eE, seval, deE, fxE, retOf, maskA, setVals, getVals, putA, stripAt, AVal.strip, stripL, rd, hc6, hc102]
          refine hK106 _ _ (kPost_normal (hK105 _ _ ?_))
          refine awp_ret ?_
          refine hR _ _ _ (retPost_r (by simp (disch := omega) only [Try.results11, vmE, liE, eE, seval, deE, fxE, retOf, maskA, setVals, getVals, putA, stripAt, AVal.strip, stripL, rd, hc6, hc102]; rfl) (.cons _ (.cons _ (.cons _ (.cons _ (List.Sublist.refl _))))) ?_)
          cases h
          refine ⟨?_, ?_⟩
          · simp (disch := omega) only [vmE, liE, eE, seval, deE, fxE, retOf, maskA, setVals, getVals, putA, stripAt, AVal.strip, stripL, rd, hc6, hc102]
          · rfl
      · intro J107 hJ107
        refine awp_seq_k ?_
        intro K67 hK67
        replace h := bind_some h
        rcases h with ⟨y69, hy70, h⟩
        refine awp_region' [] ?_
        intro K68 hK68
        simp (disch := omega) only [vmE, liE, eE, seval, deE, fxE, retOf, maskA, setVals, getVals, putA, stripAt, AVal.strip, stripL, rd, hc6]
        refine ACall.of (jrd_decoder_items_w hy70 (i0 := (n + 2)) (by simp (disch := omega) only [vmE, liE, eE, seval, deE, fxE, retOf, maskA, setVals, getVals, putA, stripAt, AVal.strip, stripL, rd])) ?_ ?_
        · first | (simp (disch := omega) only [vmE, liE, eE, seval, deE, fxE, retOf, maskA, setVals, getVals, putA, stripAt, AVal.strip, stripL, rd, hc6]) | rfl
        rintro _ ⟨m72, n71⟩ hn71 ⟨rfl, hm⟩
        simp (disch := omega) only [vmE, liE, eE, seval] at hn71 hm
        replace hm := hm.symm
        subst hm
        simp (disch := omega) only [vmE, liE, eE, seval, deE, fxE, retOf, maskA, setVals, getVals, putA, stripAt, AVal.strip, stripL, rd, hc6]
        refine hK68 _ _ (kPost_normal (hK67 _ _ ?_))
        refine awp_block_k ?_
        intro K73 hK73
        refine awp_loop_v [9, 41, 42, 43, 44, 45, 46, 47, 48, 49, 50, 51] [40] (fun k vs st' => ∃ (s40 : Int) (bn3_links : (List ApiLink)) (bn2 : JrdDecoder), vs = [.int .i64 s40] ∧ st'.m = ((n + 3), [.str y15.1, .slice 1 (List.map AVal.str j20.1) true, .slice 3 (List.map encApiProperty y58.1) false, .slice 6 (List.map encApiLink bn3_links) true]) :: ((n + 2), [.int .i64 bn2.e]) :: ((n + 1), [.str [], .slice 1 (List.map AVal.str []) true, .slice 3 (List.map encApiProperty []) true, .slice 6 (List.map encApiLink []) true]) :: (n, [.int .i64 a0.kind, .str a0.text, .slice 1 (List.map AVal.str a0.keys) false, .slice 4 (List.map encApiValue a0.items) false]) :: m ∧ jrd_Decode_L2 N k64 y69 k s40 bn3_links bn2 = some r) N ⟨0, [], y69.2, ?_, ?_, h⟩ ?_
        · simp (disch := omega) only [vmE, liE, eE, seval, deE, fxE, retOf, maskA, setVals, getVals, putA, stripAt, AVal.strip, stripL, rd, hc6]
        · simp (disch := omega) only [vmE, liE, eE, seval, deE, fxE, retOf, maskA, setVals, getVals, putA, stripAt, AVal.strip, stripL, rd, hc6]
        · clear h
          rintro k74 _ ⟨m98, nL1_1⟩ ⟨s40, bn3_links, bn2, rfl, hm, h⟩ J97 hJ97
          simp only [] at hm
          replace hm := hm.symm
          subst hm
          rcases k74 with _ | k74
          · simp only [jrd_Decode_L2, reduceCtorEq] at h
          rw [jrd_Decode_L2] at h
          refine AWp.known fun _ hkl => ?_
          simp only [] at hkl
          obtain ⟨_, hkl⟩ := keysLt_cons hkl
          obtain ⟨_, hkl⟩ := keysLt_cons hkl
          obtain ⟨_, hkl⟩ := keysLt_cons hkl
          obtain ⟨_, hkl⟩ := keysLt_cons hkl
          clear hkl
          refine AWp.congr (by simp (disch := omega) only [vmE, liE, eE, seval, deE, fxE, retOf, maskA, setVals, getVals, putA, stripAt, AVal.strip, stripL, rd]; rfl) ?_
          refine awp_seq_k ?_
          intro K75 hK75
          refine awp_region' [] ?_
          intro K76 hK76
          simp (disch := omega) only [vmE, liE, eE, seval, deE, fxE, retOf, maskA, setVals, getVals, putA, stripAt, AVal.strip, stripL, rd, hc6]
          refine hK76 _ _ (kPost_normal (hK75 _ _ ?_))
          refine awp_seq_k ?_
          intro K77 hK77
          replace h := ite_some h
          rcases h with ⟨hc78, h⟩ | ⟨hc78, h⟩
          · refine awp_cond_t rfl hc78 ?_
            refine awp_skip ?_
            refine kPost_normal (hK77 _ _ ?_)
            refine awp_seq_k ?_
            intro K79 hK79
            replace h := joinK_some h
            rcases h with ⟨k81, hk81, h⟩
            refine awp_join [9, 42, 43, 44, 45, 46, 47, 48, 49, 50] [] (fun vs st' => ∃ j80 : (List ApiLink) × JrdDecoder, vs = [] ∧ st'.m = ((n + 3), [.str y15.1, .slice 1 (List.map AVal.str j20.1) true, .slice 3 (List.map encApiProperty y58.1) false, .slice 6 (List.map encApiLink j80.1) true]) :: ((n + 2), [.int .i64 j80.2.e]) :: ((n + 1), [.str [], .slice 1 (List.map AVal.str []) true, .slice 3 (List.map encApiProperty []) true, .slice 6 (List.map encApiLink []) true]) :: (n, [.int .i64 a0.kind, .str a0.text, .slice 1 (List.map AVal.str a0.keys) false, .slice 4 (List.map encApiValue a0.items) false]) :: m ∧ k81 j80 = some r) hK79 ?_ ?_
            · clear h
              rintro _ ⟨m82, n83⟩ ⟨j80, rfl, hm, h⟩
              simp only [] at hm
              replace hm := hm.symm
              subst hm
              replace h := hk81 _ _ h
              clear hk81 k81
              refine AWp.known fun _ hkl => ?_
              simp only [] at hkl
              obtain ⟨_, hkl⟩ := keysLt_cons hkl
              obtain ⟨_, hkl⟩ := keysLt_cons hkl
              obtain ⟨_, hkl⟩ := keysLt_cons hkl
              obtain ⟨_, hkl⟩ := keysLt_cons hkl
              clear hkl
              refine AWp.congr (by simp (disch := omega) only [vmE, liE, eE, seval, deE, fxE, retOf, maskA, setVals, getVals, putA, stripAt, AVal.strip, stripL, rd]; rfl) ?_
              refine awp_region' [] ?_
              intro K95 hK95
              simp (disch := omega) only [vmE, liE, eE, seval, deE, fxE, retOf, maskA, setVals, getVals, putA, stripAt, AVal.strip, stripL, rd, hc6, hc78]
              refine hK95 _ _ (kPost_normal (hJ97 k74 _ _ _ (Nat.lt_succ_self _) (List.Sublist.refl _) ?_ ⟨(wr .i64 (s40 + 1)), j80.1, j80.2, ?_, ?_, h⟩)) <;> simp (disch := omega) only [vmE, liE, eE, seval, deE, fxE, retOf, maskA, setVals, getVals, putA, stripAt, AVal.strip, stripL, rd, hc6, hc78]
            · intro J96 hJ96
              refine awp_block_k ?_
              intro K84 hK84
              refine awp_seq_k ?_
              intro K85 hK85
              replace h := bind_some h
              rcases h with ⟨x87, hx88, h⟩
              refine awp_region' [] ?_
              intro K86 hK86
              simp (disch := omega) only [vmE, liE, eE, seval, deE, fxE, retOf, maskA, setVals, getVals, putA, stripAt, AVal.strip, stripL, rd, hc6, hc78, hx88]
              refine hK86 _ _ (kPost_normal (hK85 _ _ ?_))
              replace h := bind_some h
              rcases h with ⟨y90, hy91, h⟩
              replace h := grd_some h
              rcases h with ⟨hg94, h⟩
              try simp only [liE, seval] at hg94
              refine awp_draw' [45] (.take 0 (.take 2 (.alt 1 [2] (.alt 3 [0] (.take 4 (.alt 5 [2, 0] (.take 6 (.alt 7 [] (.done) (.stop))) (.stop))) (.stop)) (.alt 3 [0] (.take 4 (.alt 1 [4, 2] (.alt 5 [2, 0] (.take 6 (.alt 7 [] (.done) (.stop))) (.stop)) (.stop))) (.stop))))) vE_mixed (by kernel_rfl) ?_
              intro K89 hK89
              all_goals
               simp (disch := omega) only [vmE, liE, eE, seval, deE, fxE, retOf, maskA, setVals, getVals, putA, stripAt, AVal.strip, stripL, rd, hc6, hc78, hx88, hg94]
               repeat' apply And.intro
               all_goals
                refine ACall.of (jrd_decoder_link_w hy91 (i0 := (n + 2)) (by simp (disch := omega) only [vmE, liE, eE, seval, deE, fxE, retOf, maskA, setVals, getVals, putA, stripAt, AVal.strip, stripL, rd])) ?_ ?_
                · first | (simp (disch := omega) only [vmE, liE, eE, seval, deE, fxE, retOf, maskA, setVals, getVals, putA, stripAt, AVal.strip, stripL, rd, hc6, hc78, hx88, hg94]) | rfl
                rintro _ ⟨m93, n92⟩ hn92 ⟨rfl, hm⟩
                simp (disch := omega) only [vmE, liE, eE, seval] at hn92 hm
                replace hm := hm.symm
                subst hm
                simp (disch := omega) only [vmE, liE, eE, seval, deE, fxE, retOf, maskA, setVals, getVals, putA, stripAt, AVal.strip, stripL, rd, hc6, hc78, hx88, hg94]
                refine hK89 _ _ (bPost_normal (hK84 _ _ (kPost_normal (hJ96 _ _ _ (.cons _ (List.Sublist.refl _)) ?_ ⟨((bn3_links ++ [y90.1]), y90.2), ?_, ?_, h⟩)))) <;> simp (disch := omega) only [vmE, liE, eE, seval, deE, fxE, retOf, maskA, setVals, getVals, putA, stripAt, AVal.strip, stripL, rd, hc6, hc78, hx88, hg94]
          · refine awp_cond_f rfl hc78 ?_
            refine awp_exit ?_
            refine kPost_exit (kPost_exit (bPost_here (hK73 _ _ (kPost_normal (hJ107 _ _ _ (List.Sublist.refl _) ?_ ⟨(bn3_links, bn2), ?_, ?_, h⟩))))) <;> simp (disch := omega) only [vmE, liE, eE, seval, deE, fxE, retOf, maskA, setVals, getVals, putA, stripAt, AVal.strip, stripL, rd, hc6, hc78]
    · intro J108 hJ108
      refine awp_seq_k ?_
      intro K24 hK24
      replace h := bind_some h
      rcases h with ⟨y26, hy27, h⟩
      refine awp_region' [] ?_
      intro K25 hK25
      simp (disch := omega) only [vmE, liE, eE, seval, deE, fxE, retOf, maskA, setVals, getVals, putA, stripAt, AVal.strip, stripL, rd, hc6]
      refine ACall.of (jrd_decoder_items_w hy27 (i0 := (n + 2)) (by simp (disch := omega) only [vmE, liE, eE, seval, deE, fxE, retOf, maskA, setVals, getVals, putA, stripAt, AVal.strip, stripL, rd])) ?_ ?_
      · first | (simp (disch := omega) only [vmE, liE, eE, seval, deE, fxE, retOf, maskA, setVals, getVals, putA, stripAt, AVal.strip, stripL, rd, hc6]) | rfl
      rintro _ ⟨m29, n28⟩ hn28 ⟨rfl, hm⟩
      simp (disch := omega) only [vmE, liE, eE, seval] at hn28 hm
      replace hm := hm.symm
      subst hm
      simp (disch := omega) only [vmE, liE, eE, seval, deE, fxE, retOf, maskA, setVals, getVals, putA, stripAt, AVal.strip, stripL, rd, hc6]
      refine hK25 _ _ (kPost_normal (hK24 _ _ ?_))
      refine awp_block_k ?_
      intro K30 hK30
      refine awp_loop_v [7, 22, 23, 24, 25, 26, 27, 28, 29, 30, 31, 32] [21] (fun k vs st' => ∃ (s21 : Int) (bn3_aliases : (List (List UInt8))) (bn2 : JrdDecoder), vs = [.int .i64 s21] ∧ st'.m = ((n + 3), [.str y15.1, .slice 1 (List.map AVal.str bn3_aliases) true, .slice 3 (List.map encApiProperty []) true, .slice 6 (List.map encApiLink []) true]) :: ((n + 2), [.int .i64 bn2.e]) :: ((n + 1), [.str [], .slice 1 (List.map AVal.str []) true, .slice 3 (List.map encApiProperty []) true, .slice 6 (List.map encApiLink []) true]) :: (n, [.int .i64 a0.kind, .str a0.text, .slice 1 (List.map AVal.str a0.keys) false, .slice 4 (List.map encApiValue a0.items) false]) :: m ∧ jrd_Decode_L1 N k21 y26 k s21 bn3_aliases bn2 = some r) N ⟨0, [], y26.2, ?_, ?_, h⟩ ?_
      · simp (disch := omega) only [vmE, liE, eE, seval, deE, fxE, retOf, maskA, setVals, getVals, putA, stripAt, AVal.strip, stripL, rd, hc6]
      · simp (disch := omega) only [vmE, liE, eE, seval, deE, fxE, retOf, maskA, setVals, getVals, putA, stripAt, AVal.strip, stripL, rd, hc6]
      · clear h
        rintro k31 _ ⟨m55, nL0_1⟩ ⟨s21, bn3_aliases, bn2, rfl, hm, h⟩ J54 hJ54
        simp only [] at hm
        replace hm := hm.symm
        subst hm
        rcases k31 with _ | k31
        · simp only [jrd_Decode_L1, reduceCtorEq] at h
        rw [jrd_Decode_L1] at h
        refine AWp.known fun _ hkl => ?_
        simp only [] at hkl
        obtain ⟨_, hkl⟩ := keysLt_cons hkl
        obtain ⟨_, hkl⟩ := keysLt_cons hkl
        obtain ⟨_, hkl⟩ := keysLt_cons hkl
        obtain ⟨_, hkl⟩ := keysLt_cons hkl
        clear hkl
        refine AWp.congr (by simp (disch := omega) only [vmE, liE, eE, seval, deE, fxE, retOf, maskA, setVals, getVals, putA, stripAt, AVal.strip, stripL, rd]; rfl) ?_
        refine awp_seq_k ?_
        intro K32 hK32
        refine awp_region' [] ?_
        intro K33 hK33
        simp (disch := omega) only [vmE, liE, eE, seval, deE, fxE, retOf, maskA, setVals, getVals, putA, stripAt, AVal.strip, stripL, rd, hc6]
        refine hK33 _ _ (kPost_normal (hK32 _ _ ?_))
        refine awp_seq_k ?_
        intro K34 hK34
        replace h := ite_some h
        rcases h with ⟨hc35, h⟩ | ⟨hc35, h⟩
        · refine awp_cond_t rfl hc35 ?_
          refine awp_skip ?_
          refine kPost_normal (hK34 _ _ ?_)
          refine awp_seq_k ?_
          intro K36 hK36
          replace h := joinK_some h
          rcases h with ⟨k38, hk38, h⟩
          refine awp_join [7, 23, 24, 25, 26, 27, 28, 29, 30, 31] [] (fun vs st' => ∃ j37 : (List (List UInt8)) × JrdDecoder, vs = [] ∧ st'.m = ((n + 3), [.str y15.1, .slice 1 (List.map AVal.str j37.1) true, .slice 3 (List.map encApiProperty []) true, .slice 6 (List.map encApiLink []) true]) :: ((n + 2), [.int .i64 j37.2.e]) :: ((n + 1), [.str [], .slice 1 (List.map AVal.str []) true, .slice 3 (List.map encApiProperty []) true, .slice 6 (List.map encApiLink []) true]) :: (n, [.int .i64 a0.kind, .str a0.text, .slice 1 (List.map AVal.str a0.keys) false, .slice 4 (List.map encApiValue a0.items) false]) :: m ∧ k38 j37 = some r) hK36 ?_ ?_
          · clear h
            rintro _ ⟨m39, n40⟩ ⟨j37, rfl, hm, h⟩
            simp only [] at hm
            replace hm := hm.symm
            subst hm
            replace h := hk38 _ _ h
            clear hk38 k38
            refine AWp.known fun _ hkl => ?_
            simp only [] at hkl
            obtain ⟨_, hkl⟩ := keysLt_cons hkl
            obtain ⟨_, hkl⟩ := keysLt_cons hkl
            obtain ⟨_, hkl⟩ := keysLt_cons hkl
            obtain ⟨_, hkl⟩ := keysLt_cons hkl
            clear hkl
            refine AWp.congr (by simp (disch := omega) only [vmE, liE, eE, seval, deE, fxE, retOf, maskA, setVals, getVals, putA, stripAt, AVal.strip, stripL, rd]; rfl) ?_
            refine awp_region' [] ?_
            intro K52 hK52
            simp (disch := omega) only [vmE, liE, eE, seval, deE, fxE, retOf, maskA, setVals, getVals, putA, stripAt, AVal.strip, stripL, rd, hc6, hc35]
            refine hK52 _ _ (kPost_normal (hJ54 k31 _ _ _ (Nat.lt_succ_self _) (List.Sublist.refl _) ?_ ⟨(wr .i64 (s21 + 1)), j37.1, j37.2, ?_, ?_, h⟩)) <;> simp (disch := omega) only [vmE, liE, eE, seval, deE, fxE, retOf, maskA, setVals, getVals, putA, stripAt, AVal.strip, stripL, rd, hc6, hc35]
          · intro J53 hJ53
            refine awp_block_k ?_
            intro K41 hK41
            refine awp_seq_k ?_
            intro K42 hK42
            replace h := bind_some h
            rcases h with ⟨x44, hx45, h⟩
            refine awp_region' [] ?_
            intro K43 hK43
            simp (disch := omega) only [vmE, liE, eE, seval, deE, fxE, retOf, maskA, setVals, getVals, putA, stripAt, AVal.strip, stripL, rd, hc6, hc35, hx45]
            refine hK43 _ _ (kPost_normal (hK42 _ _ ?_))
            replace h := bind_some h
            rcases h with ⟨y47, hy48, h⟩
            replace h := grd_some h
            rcases h with ⟨hg51, h⟩
            try simp only [liE, seval] at hg51
            refine awp_draw' [26] (.take 0 (.take 2 (.alt 1 [2] (.alt 3 [0] (.take 4 (.alt 5 [2, 0] (.take 6 (.alt 7 [] (.done) (.stop))) (.stop))) (.stop)) (.alt 3 [0] (.take 4 (.alt 1 [4, 2] (.alt 5 [2, 0] (.take 6 (.alt 7 [] (.done) (.stop))) (.stop)) (.stop))) (.stop))))) vE_mixed (by kernel_rfl) ?_
            intro K46 hK46
            all_goals
             simp (disch := omega) only [vmE, liE, eE, seval, deE, fxE, retOf, maskA, setVals, getVals, putA, stripAt, AVal.strip, stripL, rd, hc6, hc35, hx45, hg51]
             repeat' apply And.intro
             all_goals
              refine ACall.of (jrd_decoder_text_w hy48 (i0 := (n + 2)) (by simp (disch := omega) only [vmE, liE, eE, seval, deE, fxE, retOf, maskA, setVals, getVals, putA, stripAt, AVal.strip, stripL, rd])) ?_ ?_
              · first | (simp (disch := omega) only [vmE, liE, eE, seval, deE, fxE, retOf, maskA, setVals, getVals, putA, stripAt, AVal.strip, stripL, rd, hc6, hc35, hx45, hg51]) | rfl
              rintro _ ⟨m50, n49⟩ hn49 ⟨rfl, hm⟩
              simp (disch := omega) only [vmE, liE, eE, seval] at hn49 hm
              replace hm := hm.symm
              subst hm
              simp (disch := omega) only [vmE, liE, eE, seval, deE, fxE, retOf, maskA, setVals, getVals, putA, stripAt, AVal.strip, stripL, rd, hc6, hc35, hx45, hg51]
              refine hK46 _ _ (bPost_normal (hK41 _ _ (kPost_normal (hJ53 _ _ _ (.cons _ (List.Sublist.refl _)) ?_ ⟨((bn3_aliases ++ [y47.1]), y47.2), ?_, ?_, h⟩)))) <;> simp (disch := omega) only [vmE, liE, eE, seval, deE, fxE, retOf, maskA, setVals, getVals, putA, stripAt, AVal.strip, stripL, rd, hc6, hc35, hx45, hg51]
        · refine awp_cond_f rfl hc35 ?_
          refine awp_exit ?_
          refine kPost_exit (kPost_exit (bPost_here (hK30 _ _ (kPost_normal (hJ108 _ _ _ (List.Sublist.refl _) ?_ ⟨(bn3_aliases, bn2), ?_, ?_, h⟩))))) <;> simp (disch := omega) only [vmE, liE, eE, seval, deE, fxE, retOf, maskA, setVals, getVals, putA, stripAt, AVal.strip, stripL, rd, hc6, hc35]
end Go.Proofs.Ytdbeiialamganaa
