/- That the code computes these functions; written by decomp.py. -/
import Derived.Test.YtdbeiialamganaaVmFacts
import Derived.Test.YtdbeiialamganaaDefs
import Derived.Test.YtdbeiialamganaaVMSets
import Derived.Test.YtdbeiialamganaaW2
import Derived.Test.YtdbeiialamganaaW3
set_option linter.unusedVariables false
set_option linter.unusedSimpArgs false
set_option maxHeartbeats 4000000
set_option maxRecDepth 100000
set_option linter.defProp false
namespace Go.Proofs.Ytdbeiialamganaa
open Go.VM
theorem ref16_members_w {N : Nat} {a0 : ApiValue} {a1 : (List UInt8)} {a2 : (List ApiProperty)} {r : ApiValue} (h : ref16_members N a0 a1 a2 = some r) {n : Nat} {m : List (Nat × List AVal)} :
    ACall vE 40 [.agg [.int .i64 a0.kind, .str a0.text, .slice 1 (List.map AVal.str a0.keys) false, .slice 4 (List.map encApiValue a0.items) false], .str a1, .slice 3 (List.map encApiProperty a2) false] ⟨m, n⟩ fun r' st => r' = .agg [.int .i64 r.kind, .str r.text, .slice 1 (List.map AVal.str r.keys) false, .slice 4 (List.map encApiValue r.items) false] ∧ st.m = m := by
  rw [ref16_members] at h
  refine acall_k Try.func40 rfl ?_
  intro R hR
  refine AWp.congr (by simp only [Try.ntmps40, liE, seval]; rfl) ?_
  refine awp_seq_k ?_
  intro K1 hK1
  refine awp_region' [] ?_
  intro K2 hK2
  simp (disch := omega) only [vmE, liE, eE, seval, deE, fxE, retOf, maskA, setVals, getVals, putA, stripAt, AVal.strip, stripL, rd]
  refine hK2 _ _ (kPost_normal (hK1 _ _ ?_))
  refine awp_seq_k ?_
  intro K3 hK3
  refine awp_seq_k ?_
  intro K4 hK4
  refine awp_region' [] ?_
  intro K5 hK5
  simp (disch := omega) only [vmE, liE, eE, seval, deE, fxE, retOf, maskA, setVals, getVals, putA, stripAt, AVal.strip, stripL, rd]
  refine hK5 _ _ (kPost_normal (hK4 _ _ ?_))
  replace h := ite_some h
  rcases h with ⟨hc6, h⟩ | ⟨hc6, h⟩
  · refine awp_cond_t rfl hc6 ?_
    refine awp_seq_k ?_
    intro K7 hK7
    refine awp_region' [] ?_
    intro K8 hK8
    simp (disch := omega) only [vmE, liE, eE, seval, deE, fxE, retOf, maskA, setVals, getVals, putA, stripAt, AVal.strip, stripL, rd, hc6]
    refine hK8 _ _ (kPost_normal (hK7 _ _ ?_))
    refine awp_ret ?_
    refine kPost_ret (hR _ _ _ (retPost_r (by simp (disch := omega) only [Try.results40, vmE, liE, eE, seval, deE, fxE, retOf, maskA, setVals, getVals, putA, stripAt, AVal.strip, stripL, rd, hc6]; rfl) (.cons _ (.cons _ (List.Sublist.refl _))) ?_))
    cases h
    refine ⟨?_, ?_⟩
    · simp (disch := omega) only [vmE, liE, eE, seval, deE, fxE, retOf, maskA, setVals, getVals, putA, stripAt, AVal.strip, stripL, rd, hc6]
    · rfl
  · refine awp_cond_f rfl hc6 ?_
    refine awp_skip ?_
    refine kPost_normal (hK3 _ _ ?_)
    refine awp_seq_k ?_
    intro K9 hK9
    refine awp_region' [] ?_
    intro K10 hK10
    simp (disch := omega) only [vmE, liE, eE, seval, deE, fxE, retOf, maskA, setVals, getVals, putA, stripAt, AVal.strip, stripL, rd, hc6]
    refine hK10 _ _ (kPost_normal (hK9 _ _ ?_))
    refine awp_seq_k ?_
    intro K11 hK11
    replace h := joinK_some h
    rcases h with ⟨k13, hk13, h⟩
    refine awp_join [9, 15, 16, 17, 18, 19, 20, 21, 22, 23, 24, 25, 26, 27, 28, 29, 30, 31, 32, 33, 34, 35] [] (fun vs st' => ∃ j12 : Int × (List UInt8) × (List (List UInt8)) × (List ApiValue), vs = [] ∧ st'.m = ((n + 2), [.int .i64 j12.1, .str j12.2.1, .slice 1 (List.map AVal.str j12.2.2.1) false, .slice 4 (List.map encApiValue j12.2.2.2) false]) :: ((n + 1), [.int .i64 0, .str [], .slice 1 (List.map AVal.str []) true, .slice 4 (List.map encApiValue []) true]) :: (n, [.int .i64 a0.kind, .str a0.text, .slice 1 (List.map AVal.str a0.keys) false, .slice 4 (List.map encApiValue a0.items) false]) :: m ∧ k13 j12 = some r) hK11 ?_ ?_
    · clear h
      rintro _ ⟨m14, n15⟩ ⟨j12, rfl, hm, h⟩
      simp only [] at hm
      replace hm := hm.symm
      subst hm
      replace h := hk13 _ _ h
      clear hk13 k13
      refine AWp.known fun _ hkl => ?_
      simp only [] at hkl
      obtain ⟨_, hkl⟩ := keysLt_cons hkl
      obtain ⟨_, hkl⟩ := keysLt_cons hkl
      obtain ⟨_, hkl⟩ := keysLt_cons hkl
      clear hkl
      refine AWp.congr (by simp (disch := omega) only [vmE, liE, eE, seval, deE, fxE, retOf, maskA, setVals, getVals, putA, stripAt, AVal.strip, stripL, rd]; rfl) ?_
      refine awp_seq_k ?_
      intro K55 hK55
      replace h := bind_some h
      rcases h with ⟨y57, hy58, h⟩
      refine awp_region' [] ?_
      intro K56 hK56
      simp (disch := omega) only [vmE, liE, eE, seval, deE, fxE, retOf, maskA, setVals, getVals, putA, stripAt, AVal.strip, stripL, rd, hc6]
      refine ACall.of (ref16_with_w hy58) ?_ ?_
      · first | (simp (disch := omega) only [vmE, liE, eE, seval, deE, fxE, retOf, maskA, setVals, getVals, putA, stripAt, AVal.strip, stripL, rd, hc6]) | rfl
      rintro _ ⟨m60, n59⟩ hn59 ⟨rfl, hm⟩
      simp (disch := omega) only [vmE, liE, eE, seval] at hn59 hm
      replace hm := hm.symm
      subst hm
      simp (disch := omega) only [vmE, liE, eE, seval, deE, fxE, retOf, maskA, setVals, getVals, putA, stripAt, AVal.strip, stripL, rd, hc6]
      refine hK56 _ _ (kPost_normal (hK55 _ _ ?_))
      refine awp_ret ?_
      refine hR _ _ _ (retPost_r (by simp (disch := omega) only [Try.results40, vmE, liE, eE, seval, deE, fxE, retOf, maskA, setVals, getVals, putA, stripAt, AVal.strip, stripL, rd, hc6]; rfl) (.cons _ (.cons _ (.cons _ (List.Sublist.refl _)))) ?_)
      cases h
      refine ⟨?_, ?_⟩
      · simp (disch := omega) only [vmE, liE, eE, seval, deE, fxE, retOf, maskA, setVals, getVals, putA, stripAt, AVal.strip, stripL, rd, hc6]
      · rfl
    · intro J61 hJ61
      refine awp_seq_k ?_
      intro K16 hK16
      refine awp_region' [] ?_
      intro K17 hK17
      simp (disch := omega) only [vmE, liE, eE, seval, deE, fxE, retOf, maskA, setVals, getVals, putA, stripAt, AVal.strip, stripL, rd, hc6]
      refine hK17 _ _ (kPost_normal (hK16 _ _ ?_))
      refine awp_block_k ?_
      intro K18 hK18
      refine awp_loop_v [9, 18, 19, 20, 21, 22, 23, 24, 25, 26, 27, 28, 29, 30, 31, 32, 33, 34, 35] [17] (fun k vs st' => ∃ (s17 : Int) (bn2_kind : Int) (bn2_text : (List UInt8)) (bn2_keys : (List (List UInt8))) (bn2_items : (List ApiValue)), ∃ p0_2 p0_3 : Bool, vs = [.int .i64 s17] ∧ st'.m = ((n + 2), [.int .i64 bn2_kind, .str bn2_text, .slice 1 (List.map AVal.str bn2_keys) p0_2, .slice 4 (List.map encApiValue bn2_items) p0_3]) :: ((n + 1), [.int .i64 0, .str [], .slice 1 (List.map AVal.str []) true, .slice 4 (List.map encApiValue []) true]) :: (n, [.int .i64 a0.kind, .str a0.text, .slice 1 (List.map AVal.str a0.keys) false, .slice 4 (List.map encApiValue a0.items) false]) :: m ∧ ref16_members_L1 N a2 k13 k s17 bn2_kind bn2_text bn2_keys bn2_items = some r) N ⟨0, 7, [], [], [], true, true, ?_, ?_, h⟩ ?_
      · simp (disch := omega) only [vmE, liE, eE, seval, deE, fxE, retOf, maskA, setVals, getVals, putA, stripAt, AVal.strip, stripL, rd, hc6]
      · simp (disch := omega) only [vmE, liE, eE, seval, deE, fxE, retOf, maskA, setVals, getVals, putA, stripAt, AVal.strip, stripL, rd, hc6]
      · clear h
        rintro k19 _ ⟨m54, nL0_1⟩ ⟨s17, bn2_kind, bn2_text, bn2_keys, bn2_items, p0_2, p0_3, rfl, hm, h⟩ J53 hJ53
        simp only [] at hm
        replace hm := hm.symm
        subst hm
        rcases k19 with _ | k19
        · simp only [ref16_members_L1, reduceCtorEq] at h
        rw [ref16_members_L1] at h
        refine AWp.known fun _ hkl => ?_
        simp only [] at hkl
        obtain ⟨_, hkl⟩ := keysLt_cons hkl
        obtain ⟨_, hkl⟩ := keysLt_cons hkl
        obtain ⟨_, hkl⟩ := keysLt_cons hkl
        clear hkl
        refine AWp.congr (by simp (disch := omega) only [vmE, liE, eE, seval, deE, fxE, retOf, maskA, setVals, getVals, putA, stripAt, AVal.strip, stripL, rd]; rfl) ?_
        refine awp_stripBox (i := (n + 2)) (by simp (disch := omega) only [vmE, liE, eE, seval, deE, fxE, retOf, maskA, setVals, getVals, putA, stripAt, AVal.strip, stripL, rd]; rfl) ?_
        refine AWp.congr2 rfl (by simp (disch := omega) only [vmE, liE, eE, seval, deE, fxE, retOf, maskA, setVals, getVals, putA, stripAt, AVal.strip, stripL, rd]; rfl) ?_
        refine awp_seq_k ?_
        intro K20 hK20
        refine awp_region' [] ?_
        intro K21 hK21
        simp (disch := omega) only [vmE, liE, eE, seval, deE, fxE, retOf, maskA, setVals, getVals, putA, stripAt, AVal.strip, stripL, rd, hc6]
        refine hK21 _ _ (kPost_normal (hK20 _ _ ?_))
        refine awp_seq_k ?_
        intro K22 hK22
        replace h := ite_some h
        rcases h with ⟨hc23, h⟩ | ⟨hc23, h⟩
        · refine awp_cond_t rfl hc23 ?_
          refine awp_skip ?_
          refine kPost_normal (hK22 _ _ ?_)
          refine awp_seq_k ?_
          intro K24 hK24
          replace h := joinK_some h
          rcases h with ⟨k26, hk26, h⟩
          refine awp_join [9, 19, 20, 21, 22, 23, 24, 25, 26, 27, 28, 29, 30, 31, 32, 33, 34] [] (fun vs st' => ∃ j25 : ApiValue, vs = [] ∧ st'.m = ((n + 2), [.int .i64 j25.kind, .str j25.text, .slice 1 (List.map AVal.str j25.keys) false, .slice 4 (List.map encApiValue j25.items) false]) :: ((n + 1), [.int .i64 0, .str [], .slice 1 (List.map AVal.str []) true, .slice 4 (List.map encApiValue []) true]) :: (n, [.int .i64 a0.kind, .str a0.text, .slice 1 (List.map AVal.str a0.keys) false, .slice 4 (List.map encApiValue a0.items) false]) :: m ∧ k26 j25 = some r) hK24 ?_ ?_
          · clear h
            rintro _ ⟨m27, n28⟩ ⟨j25, rfl, hm, h⟩
            simp only [] at hm
            replace hm := hm.symm
            subst hm
            replace h := hk26 _ _ h
            clear hk26 k26
            refine AWp.known fun _ hkl => ?_
            simp only [] at hkl
            obtain ⟨_, hkl⟩ := keysLt_cons hkl
            obtain ⟨_, hkl⟩ := keysLt_cons hkl
            obtain ⟨_, hkl⟩ := keysLt_cons hkl
            clear hkl
            refine AWp.congr (by simp (disch := omega) only [vmE, liE, eE, seval, deE, fxE, retOf, maskA, setVals, getVals, putA, stripAt, AVal.strip, stripL, rd]; rfl) ?_
            refine awp_region' [] ?_
            intro K51 hK51
            simp (disch := omega) only [vmE, liE, eE, seval, deE, fxE, retOf, maskA, setVals, getVals, putA, stripAt, AVal.strip, stripL, rd, hc6, hc23]
            refine hK51 _ _ (kPost_normal (hJ53 k19 _ _ _ (Nat.lt_succ_self _) (List.Sublist.refl _) ?_ ⟨(wr .i64 (s17 + 1)), j25.kind, j25.text, j25.keys, j25.items, false, false, ?_, ?_, h⟩)) <;> simp (disch := omega) only [vmE, liE, eE, seval, deE, fxE, retOf, maskA, setVals, getVals, putA, stripAt, AVal.strip, stripL, rd, hc6, hc23]
          · intro J52 hJ52
            refine awp_block_k ?_
            intro K29 hK29
            refine awp_seq_k ?_
            intro K30 hK30
            replace h := bind_some h
            rcases h with ⟨x32, hx33, h⟩
            refine awp_region' [] ?_
            intro K31 hK31
            simp (disch := omega) only [vmE, liE, eE, seval, deE, fxE, retOf, maskA, setVals, getVals, putA, stripAt, AVal.strip, stripL, rd, hc6, hc23, hx33]
            refine hK31 _ _ (kPost_normal (hK30 _ _ ?_))
            refine awp_seq_k ?_
            intro K34 hK34
            refine awp_region' [] ?_
            intro K35 hK35
            simp (disch := omega) only [vmE, liE, eE, seval, deE, fxE, retOf, maskA, setVals, getVals, putA, stripAt, AVal.strip, stripL, rd, hc6, hc23, hx33]
            refine hK35 _ _ (kPost_normal (hK34 _ _ ?_))
            replace h := ite_some h
            rcases h with ⟨hc36, h⟩ | ⟨hc36, h⟩
            · refine awp_cond_t rfl hc36 ?_
              replace h := bind_some h
              rcases h with ⟨y38, hy39, h⟩
              refine awp_region' [] ?_
              intro K37 hK37
              simp (disch := omega) only [vmE, liE, eE, seval, deE, fxE, retOf, maskA, setVals, getVals, putA, stripAt, AVal.strip, stripL, rd, hc6, hc23, hx33, hc36]
              refine ACall.of (ref16_with_w hy39) ?_ ?_
              · first | (simp (disch := omega) only [vmE, liE, eE, seval, deE, fxE, retOf, maskA, setVals, getVals, putA, stripAt, AVal.strip, stripL, rd, hc6, hc23, hx33, hc36]) | rfl
              rintro _ ⟨m41, n40⟩ hn40 ⟨rfl, hm⟩
              simp (disch := omega) only [vmE, liE, eE, seval] at hn40 hm
              replace hm := hm.symm
              subst hm
              simp (disch := omega) only [vmE, liE, eE, seval, deE, fxE, retOf, maskA, setVals, getVals, putA, stripAt, AVal.strip, stripL, rd, hc6, hc23, hx33, hc36]
              refine hK37 _ _ (bPost_normal (hK29 _ _ (kPost_normal (hJ52 _ _ _ (.cons _ (List.Sublist.refl _)) ?_ ⟨y38, ?_, ?_, h⟩)))) <;> simp (disch := omega) only [vmE, liE, eE, seval, deE, fxE, retOf, maskA, setVals, getVals, putA, stripAt, AVal.strip, stripL, rd, hc6, hc23, hx33, hc36]
            · refine awp_cond_f rfl hc36 ?_
              replace h := bind_some h
              rcases h with ⟨y43, hy44, h⟩
              replace h := bind_some h
              rcases h with ⟨y47, hy48, h⟩
              refine awp_draw' [] (.take 0 (.take 1 (.take 2 (.take 3 (.take 4 (.alt 5 [3, 2, 1, 0] (.alt 6 [4, 3, 1] (.alt 7 [] (.done) (.stop)) (.stop)) (.stop))))))) vE_mixed (by kernel_rfl) ?_
              intro K42 hK42
              simp (disch := omega) only [vmE, liE, eE, seval, deE, fxE, retOf, maskA, setVals, getVals, putA, stripAt, AVal.strip, stripL, rd, hc6, hc23, hx33, hc36]
              refine ACall.of (ref16_Text_w hy44) ?_ ?_
              · first | (simp (disch := omega) only [vmE, liE, eE, seval, deE, fxE, retOf, maskA, setVals, getVals, putA, stripAt, AVal.strip, stripL, rd, hc6, hc23, hx33, hc36]) | rfl
              rintro _ ⟨m46, n45⟩ hn45 ⟨rfl, hm⟩
              simp (disch := omega) only [vmE, liE, eE, seval] at hn45 hm
              replace hm := hm.symm
              subst hm
              simp (disch := omega) only [vmE, liE, eE, seval, deE, fxE, retOf, maskA, setVals, getVals, putA, stripAt, AVal.strip, stripL, rd, hc6, hc23, hx33, hc36]
              refine ACall.of (ref16_with_w hy48) ?_ ?_
              · first | (simp (disch := omega) only [vmE, liE, eE, seval, deE, fxE, retOf, maskA, setVals, getVals, putA, stripAt, AVal.strip, stripL, rd, hc6, hc23, hx33, hc36]) | rfl
              rintro _ ⟨m50, n49⟩ hn49 ⟨rfl, hm⟩
              simp (disch := omega) only [vmE, liE, eE, seval] at hn49 hm
              replace hm := hm.symm
              subst hm
              simp (disch := omega) only [vmE, liE, eE, seval, deE, fxE, retOf, maskA, setVals, getVals, putA, stripAt, AVal.strip, stripL, rd, hc6, hc23, hx33, hc36]
              refine hK42 _ _ (bPost_normal (hK29 _ _ (kPost_normal (hJ52 _ _ _ (.cons _ (List.Sublist.refl _)) ?_ ⟨y47, ?_, ?_, h⟩)))) <;> simp (disch := omega) only [vmE, liE, eE, seval, deE, fxE, retOf, maskA, setVals, getVals, putA, stripAt, AVal.strip, stripL, rd, hc6, hc23, hx33, hc36]
        · refine awp_cond_f rfl hc23 ?_
          refine awp_exit ?_
          refine kPost_exit (kPost_exit (bPost_here (hK18 _ _ (kPost_normal (hJ61 _ _ _ (List.Sublist.refl _) ?_ ⟨(bn2_kind, bn2_text, bn2_keys, bn2_items), ?_, ?_, h⟩))))) <;> simp (disch := omega) only [vmE, liE, eE, seval, deE, fxE, retOf, maskA, setVals, getVals, putA, stripAt, AVal.strip, stripL, rd, hc6, hc23]
theorem jrd_object_text_w {N : Nat} {a0 : JrdObject} {a1 : (List UInt8)} {a2 : (List UInt8)} {r : JrdObject} (h : jrd_object_text N a0 a1 a2 = some r) {n : Nat} {m : List (Nat × List AVal)} {i0 : Nat} (hi0 : mget m i0 = some [.int .i64 a0.value.kind, .str a0.value.text, .slice 1 (List.map AVal.str a0.value.keys) true, .slice 4 (List.map encApiValue a0.value.items) true]) :
    ACall vE 41 [.ptr i0 0, .str a1, .str a2] ⟨m, n⟩ fun r' st => r' = .tuple [] ∧ st.m = mset m i0 [.int .i64 r.value.kind, .str r.value.text, .slice 1 (List.map AVal.str r.value.keys) true, .slice 4 (List.map encApiValue r.value.items) true] := by
  rw [jrd_object_text] at h
  refine ACall.front hi0 ?_
  intro hin
  refine acall_k Try.func41 rfl ?_
  intro R hR
  refine AWp.congr (by simp only [Try.ntmps41, liE, seval]; rfl) ?_
  refine awp_seq_k ?_
  intro K1 hK1
  refine awp_region' [] ?_
  intro K2 hK2
  simp (disch := omega) only [vmE, liE, eE, seval, deE, fxE, retOf, maskA, setVals, getVals, putA, stripAt, AVal.strip, stripL, rd]
  refine hK2 _ _ (kPost_normal (hK1 _ _ ?_))
  replace h := ite_some h
  rcases h with ⟨hc3, h⟩ | ⟨hc3, h⟩
  · refine awp_cond_f rfl (by simp only [liE, hc3]) ?_
    refine awp_skip ?_
    refine hR _ _ _ (retPost_n (by simp (disch := omega) only [Try.results41, vmE, liE, eE, seval, deE, fxE, retOf, maskA, setVals, getVals, putA, stripAt, AVal.strip, stripL, rd, hc3]; rfl) (List.Sublist.refl _) ?_)
    cases h
    refine ⟨_, rfl, ?_, ?_⟩
    · simp (disch := omega) only [vmE, liE, eE, seval, deE, fxE, retOf, maskA, setVals, getVals, putA, stripAt, AVal.strip, stripL, rd, hc3]
    · simp (disch := omega) only [vmE, liE, eE, seval, deE, fxE, retOf, maskA, setVals, getVals, putA, stripAt, AVal.strip, stripL, rd, hc3]
  · refine awp_cond_t rfl (by simp only [liE, hc3]) ?_
    replace h := bind_some h
    rcases h with ⟨y5, hy6, h⟩
    refine awp_region' [] ?_
    intro K4 hK4
    simp (disch := omega) only [vmE, liE, eE, seval, deE, fxE, retOf, maskA, setVals, getVals, putA, stripAt, AVal.strip, stripL, rd, hc3]
    refine ACall.of (jrd_object_add_w hy6 (i0 := i0) (by simp (disch := omega) only [vmE, liE, eE, seval, deE, fxE, retOf, maskA, setVals, getVals, putA, stripAt, AVal.strip, stripL, rd])) ?_ ?_
    · first | (simp (disch := omega) only [vmE, liE, eE, seval, deE, fxE, retOf, maskA, setVals, getVals, putA, stripAt, AVal.strip, stripL, rd, hc3]) | rfl
    rintro _ ⟨m8, n7⟩ hn7 ⟨rfl, hm⟩
    simp (disch := omega) only [vmE, liE, eE, seval] at hn7 hm
    replace hm := hm.symm
    subst hm
    simp (disch := omega) only [vmE, liE, eE, seval, deE, fxE, retOf, maskA, setVals, getVals, putA, stripAt, AVal.strip, stripL, rd, hc3]
    refine hK4 _ _ (hR _ _ _ (retPost_n (by simp (disch := omega) only [Try.results41, vmE, liE, eE, seval, deE, fxE, retOf, maskA, setVals, getVals, putA, stripAt, AVal.strip, stripL, rd, hc3]; rfl) (List.Sublist.refl _) ?_))
    cases h
    refine ⟨_, rfl, ?_, ?_⟩
    · simp (disch := omega) only [vmE, liE, eE, seval, deE, fxE, retOf, maskA, setVals, getVals, putA, stripAt, AVal.strip, stripL, rd, hc3]
    · simp (disch := omega) only [vmE, liE, eE, seval, deE, fxE, retOf, maskA, setVals, getVals, putA, stripAt, AVal.strip, stripL, rd, hc3]
theorem jrd_object_list_w {N : Nat} {a0 : JrdObject} {a1 : (List UInt8)} {a2 : (List ApiValue)} {r : JrdObject} (h : jrd_object_list N a0 a1 a2 = some r) {n : Nat} {m : List (Nat × List AVal)} {i0 : Nat} (hi0 : mget m i0 = some [.int .i64 a0.value.kind, .str a0.value.text, .slice 1 (List.map AVal.str a0.value.keys) true, .slice 4 (List.map encApiValue a0.value.items) true]) :
    ACall vE 42 [.ptr i0 0, .str a1, .slice 4 (List.map encApiValue a2) false] ⟨m, n⟩ fun r' st => r' = .tuple [] ∧ st.m = mset m i0 [.int .i64 r.value.kind, .str r.value.text, .slice 1 (List.map AVal.str r.value.keys) true, .slice 4 (List.map encApiValue r.value.items) true] := by
  rw [jrd_object_list] at h
  refine ACall.front hi0 ?_
  intro hin
  refine acall_k Try.func42 rfl ?_
  intro R hR
  refine AWp.congr (by simp only [Try.ntmps42, liE, seval]; rfl) ?_
  refine awp_seq_k ?_
  intro K1 hK1
  refine awp_region' [] ?_
  intro K2 hK2
  simp (disch := omega) only [vmE, liE, eE, seval, deE, fxE, retOf, maskA, setVals, getVals, putA, stripAt, AVal.strip, stripL, rd]
  refine hK2 _ _ (kPost_normal (hK1 _ _ ?_))
  replace h := ite_some h
  rcases h with ⟨hc3, h⟩ | ⟨hc3, h⟩
  · refine awp_cond_t rfl hc3 ?_
    replace h := bind_some h
    rcases h with ⟨y5, hy6, h⟩
    refine awp_region' [] ?_
    intro K4 hK4
    simp (disch := omega) only [vmE, liE, eE, seval, deE, fxE, retOf, maskA, setVals, getVals, putA, stripAt, AVal.strip, stripL, rd, hc3]
    refine ACall.of (jrd_object_add_w hy6 (i0 := i0) (by simp (disch := omega) only [vmE, liE, eE, seval, deE, fxE, retOf, maskA, setVals, getVals, putA, stripAt, AVal.strip, stripL, rd])) ?_ ?_
    · first | (simp (disch := omega) only [vmE, liE, eE, seval, deE, fxE, retOf, maskA, setVals, getVals, putA, stripAt, AVal.strip, stripL, rd, hc3]) | rfl
    rintro _ ⟨m8, n7⟩ hn7 ⟨rfl, hm⟩
    simp (disch := omega) only [vmE, liE, eE, seval] at hn7 hm
    replace hm := hm.symm
    subst hm
    simp (disch := omega) only [vmE, liE, eE, seval, deE, fxE, retOf, maskA, setVals, getVals, putA, stripAt, AVal.strip, stripL, rd, hc3]
    refine hK4 _ _ (hR _ _ _ (retPost_n (by simp (disch := omega) only [Try.results42, vmE, liE, eE, seval, deE, fxE, retOf, maskA, setVals, getVals, putA, stripAt, AVal.strip, stripL, rd, hc3]; rfl) (List.Sublist.refl _) ?_))
    cases h
    refine ⟨_, rfl, ?_, ?_⟩
    · simp (disch := omega) only [vmE, liE, eE, seval, deE, fxE, retOf, maskA, setVals, getVals, putA, stripAt, AVal.strip, stripL, rd, hc3]
    · simp (disch := omega) only [vmE, liE, eE, seval, deE, fxE, retOf, maskA, setVals, getVals, putA, stripAt, AVal.strip, stripL, rd, hc3]
  · refine awp_cond_f rfl hc3 ?_
    refine awp_skip ?_
    refine hR _ _ _ (retPost_n (by simp (disch := omega) only [Try.results42, vmE, liE, eE, seval, deE, fxE, retOf, maskA, setVals, getVals, putA, stripAt, AVal.strip, stripL, rd, hc3]; rfl) (List.Sublist.refl _) ?_)
    cases h
    refine ⟨_, rfl, ?_, ?_⟩
    · simp (disch := omega) only [vmE, liE, eE, seval, deE, fxE, retOf, maskA, setVals, getVals, putA, stripAt, AVal.strip, stripL, rd, hc3]
    · simp (disch := omega) only [vmE, liE, eE, seval, deE, fxE, retOf, maskA, setVals, getVals, putA, stripAt, AVal.strip, stripL, rd, hc3]
theorem jrd_object_properties_w {N : Nat} {a0 : JrdObject} {a1 : (List UInt8)} {a2 : (List ApiProperty)} {r : JrdObject} (h : jrd_object_properties N a0 a1 a2 = some r) {n : Nat} {m : List (Nat × List AVal)} {i0 : Nat} (hi0 : mget m i0 = some [.int .i64 a0.value.kind, .str a0.value.text, .slice 1 (List.map AVal.str a0.value.keys) true, .slice 4 (List.map encApiValue a0.value.items) true]) :
    ACall vE 43 [.ptr i0 0, .str a1, .slice 3 (List.map encApiProperty a2) false] ⟨m, n⟩ fun r' st => r' = .tuple [] ∧ st.m = mset m i0 [.int .i64 r.value.kind, .str r.value.text, .slice 1 (List.map AVal.str r.value.keys) true, .slice 4 (List.map encApiValue r.value.items) true] := by
  rw [jrd_object_properties] at h
  refine ACall.front hi0 ?_
  intro hin
  refine acall_k Try.func43 rfl ?_
  intro R hR
  refine AWp.congr (by simp only [Try.ntmps43, liE, seval]; rfl) ?_
  refine awp_seq_k ?_
  intro K1 hK1
  refine awp_seq_k ?_
  intro K2 hK2
  refine awp_region' [] ?_
  intro K3 hK3
  simp (disch := omega) only [vmE, liE, eE, seval, deE, fxE, retOf, maskA, setVals, getVals, putA, stripAt, AVal.strip, stripL, rd]
  refine hK3 _ _ (kPost_normal (hK2 _ _ ?_))
  replace h := ite_some h
  rcases h with ⟨hc4, h⟩ | ⟨hc4, h⟩
  · refine awp_cond_t rfl hc4 ?_
    refine awp_ret ?_
    refine kPost_ret (hR _ _ _ (retPost_r (by simp (disch := omega) only [Try.results43, vmE, liE, eE, seval, deE, fxE, retOf, maskA, setVals, getVals, putA, stripAt, AVal.strip, stripL, rd, hc4]; rfl) (List.Sublist.refl _) ?_))
    cases h
    refine ⟨_, rfl, ?_, ?_⟩
    · simp (disch := omega) only [vmE, liE, eE, seval, deE, fxE, retOf, maskA, setVals, getVals, putA, stripAt, AVal.strip, stripL, rd, hc4]
    · simp (disch := omega) only [vmE, liE, eE, seval, deE, fxE, retOf, maskA, setVals, getVals, putA, stripAt, AVal.strip, stripL, rd, hc4]
  · refine awp_cond_f rfl hc4 ?_
    refine awp_skip ?_
    refine kPost_normal (hK1 _ _ ?_)
    refine awp_seq_k ?_
    intro K5 hK5
    refine awp_region' [] ?_
    intro K6 hK6
    simp (disch := omega) only [vmE, liE, eE, seval, deE, fxE, retOf, maskA, setVals, getVals, putA, stripAt, AVal.strip, stripL, rd, hc4]
    refine hK6 _ _ (kPost_normal (hK5 _ _ ?_))
    refine awp_seq_k ?_
    intro K7 hK7
    replace h := joinK_some h
    rcases h with ⟨k9, hk9, h⟩
    refine awp_join [8, 9, 15, 16, 17, 18, 19, 20, 21, 22, 23, 24, 25, 26, 27, 28, 29, 30, 31] [] (fun vs st' => ∃ j8 : Int × (List UInt8) × (List (List UInt8)) × (List ApiValue), vs = [] ∧ st'.m = (n, [.int .i64 j8.1, .str j8.2.1, .slice 1 (List.map AVal.str j8.2.2.1) true, .slice 4 (List.map encApiValue j8.2.2.2) true]) :: (i0, [.int .i64 a0.value.kind, .str a0.value.text, .slice 1 (List.map AVal.str a0.value.keys) true, .slice 4 (List.map encApiValue a0.value.items) true]) :: mdel m i0 ∧ k9 j8 = some r) hK7 ?_ ?_
    · clear h
      rintro _ ⟨m10, n11⟩ ⟨j8, rfl, hm, h⟩
      simp only [] at hm
      replace hm := hm.symm
      subst hm
      replace h := hk9 _ _ h
      clear hk9 k9
      refine AWp.known fun _ hkl => ?_
      simp only [] at hkl
      obtain ⟨_, hkl⟩ := keysLt_cons hkl
      obtain ⟨_, hkl⟩ := keysLt_cons hkl
      clear hkl
      refine AWp.congr (by simp (disch := omega) only [vmE, liE, eE, seval, deE, fxE, retOf, maskA, setVals, getVals, putA, stripAt, AVal.strip, stripL, rd]; rfl) ?_
      replace h := bind_some h
      rcases h with ⟨y47, hy48, h⟩
      refine awp_region' [] ?_
      intro K46 hK46
      simp (disch := omega) only [vmE, liE, eE, seval, deE, fxE, retOf, maskA, setVals, getVals, putA, stripAt, AVal.strip, stripL, rd, hc4]
      refine ACall.of (jrd_object_add_w hy48 (i0 := i0) (by simp (disch := omega) only [vmE, liE, eE, seval, deE, fxE, retOf, maskA, setVals, getVals, putA, stripAt, AVal.strip, stripL, rd])) ?_ ?_
      · first | (simp (disch := omega) only [vmE, liE, eE, seval, deE, fxE, retOf, maskA, setVals, getVals, putA, stripAt, AVal.strip, stripL, rd, hc4]) | rfl
      rintro _ ⟨m50, n49⟩ hn49 ⟨rfl, hm⟩
      simp (disch := omega) only [vmE, liE, eE, seval] at hn49 hm
      replace hm := hm.symm
      subst hm
      simp (disch := omega) only [vmE, liE, eE, seval, deE, fxE, retOf, maskA, setVals, getVals, putA, stripAt, AVal.strip, stripL, rd, hc4]
      refine hK46 _ _ (hR _ _ _ (retPost_n (by simp (disch := omega) only [Try.results43, vmE, liE, eE, seval, deE, fxE, retOf, maskA, setVals, getVals, putA, stripAt, AVal.strip, stripL, rd, hc4]; rfl) (.cons _ (List.Sublist.refl _)) ?_))
      cases h
      refine ⟨_, rfl, ?_, ?_⟩
      · simp (disch := omega) only [vmE, liE, eE, seval, deE, fxE, retOf, maskA, setVals, getVals, putA, stripAt, AVal.strip, stripL, rd, hc4]
      · simp (disch := omega) only [vmE, liE, eE, seval, deE, fxE, retOf, maskA, setVals, getVals, putA, stripAt, AVal.strip, stripL, rd, hc4]
    · intro J51 hJ51
      refine awp_seq_k ?_
      intro K12 hK12
      refine awp_region' [] ?_
      intro K13 hK13
      simp (disch := omega) only [vmE, liE, eE, seval, deE, fxE, retOf, maskA, setVals, getVals, putA, stripAt, AVal.strip, stripL, rd, hc4]
      refine hK13 _ _ (kPost_normal (hK12 _ _ ?_))
      refine awp_block_k ?_
      intro K14 hK14
      refine awp_loop_v [8, 9, 18, 19, 20, 21, 22, 23, 24, 25, 26, 27, 28, 29, 30, 31] [17] (fun k vs st' => ∃ (s17 : Int) (bn_value_kind : Int) (bn_value_text : (List UInt8)) (bn_value_keys : (List (List UInt8))) (bn_value_items : (List ApiValue)), vs = [.int .i64 s17] ∧ st'.m = (n, [.int .i64 bn_value_kind, .str bn_value_text, .slice 1 (List.map AVal.str bn_value_keys) true, .slice 4 (List.map encApiValue bn_value_items) true]) :: (i0, [.int .i64 a0.value.kind, .str a0.value.text, .slice 1 (List.map AVal.str a0.value.keys) true, .slice 4 (List.map encApiValue a0.value.items) true]) :: mdel m i0 ∧ jrd_object_properties_L1 N a2 k9 k s17 bn_value_kind bn_value_text bn_value_keys bn_value_items = some r) N ⟨0, 7, [], [], [], ?_, ?_, h⟩ ?_
      · simp (disch := omega) only [vmE, liE, eE, seval, deE, fxE, retOf, maskA, setVals, getVals, putA, stripAt, AVal.strip, stripL, rd, hc4]
      · simp (disch := omega) only [vmE, liE, eE, seval, deE, fxE, retOf, maskA, setVals, getVals, putA, stripAt, AVal.strip, stripL, rd, hc4]
      · clear h
        rintro k15 _ ⟨m45, nL0_1⟩ ⟨s17, bn_value_kind, bn_value_text, bn_value_keys, bn_value_items, rfl, hm, h⟩ J44 hJ44
        simp only [] at hm
        replace hm := hm.symm
        subst hm
        rcases k15 with _ | k15
        · simp only [jrd_object_properties_L1, reduceCtorEq] at h
        rw [jrd_object_properties_L1] at h
        refine AWp.known fun _ hkl => ?_
        simp only [] at hkl
        obtain ⟨_, hkl⟩ := keysLt_cons hkl
        obtain ⟨_, hkl⟩ := keysLt_cons hkl
        clear hkl
        refine AWp.congr (by simp (disch := omega) only [vmE, liE, eE, seval, deE, fxE, retOf, maskA, setVals, getVals, putA, stripAt, AVal.strip, stripL, rd]; rfl) ?_
        refine awp_seq_k ?_
        intro K16 hK16
        refine awp_region' [] ?_
        intro K17 hK17
        simp (disch := omega) only [vmE, liE, eE, seval, deE, fxE, retOf, maskA, setVals, getVals, putA, stripAt, AVal.strip, stripL, rd, hc4]
        refine hK17 _ _ (kPost_normal (hK16 _ _ ?_))
        refine awp_seq_k ?_
        intro K18 hK18
        replace h := ite_some h
        rcases h with ⟨hc19, h⟩ | ⟨hc19, h⟩
        · refine awp_cond_t rfl hc19 ?_
          refine awp_skip ?_
          refine kPost_normal (hK18 _ _ ?_)
          refine awp_seq_k ?_
          intro K20 hK20
          refine awp_block_k ?_
          intro K21 hK21
          refine awp_seq_k ?_
          intro K22 hK22
          replace h := bind_some h
          rcases h with ⟨x24, hx25, h⟩
          refine awp_region' [] ?_
          intro K23 hK23
          simp (disch := omega) only [vmE, liE, eE, seval, deE, fxE, retOf, maskA, setVals, getVals, putA, stripAt, AVal.strip, stripL, rd, hc4, hc19, hx25]
          refine hK23 _ _ (kPost_normal (hK22 _ _ ?_))
          refine awp_seq_k ?_
          intro K26 hK26
          refine awp_region' [] ?_
          intro K27 hK27
          simp (disch := omega) only [vmE, liE, eE, seval, deE, fxE, retOf, maskA, setVals, getVals, putA, stripAt, AVal.strip, stripL, rd, hc4, hc19, hx25]
          refine hK27 _ _ (kPost_normal (hK26 _ _ ?_))
          refine awp_seq_k ?_
          intro K28 hK28
          replace h := joinK_some h
          rcases h with ⟨k30, hk30, h⟩
          refine awp_join [24, 25, 26] [] (fun vs st' => ∃ j29 : Int × (List UInt8), vs = [] ∧ st'.m = ((nL0_1 + 1), [.int .i64 j29.1, .str j29.2, .slice 1 (List.map AVal.str []) true, .slice 4 (List.map encApiValue []) true]) :: (nL0_1, [.str x24.name, .str x24.value, .bool x24.null]) :: (n, [.int .i64 bn_value_kind, .str bn_value_text, .slice 1 (List.map AVal.str bn_value_keys) true, .slice 4 (List.map encApiValue bn_value_items) true]) :: (i0, [.int .i64 a0.value.kind, .str a0.value.text, .slice 1 (List.map AVal.str a0.value.keys) true, .slice 4 (List.map encApiValue a0.value.items) true]) :: mdel m i0 ∧ k30 j29 = some r) hK28 ?_ ?_
          · clear h
            rintro _ ⟨m31, n32⟩ ⟨j29, rfl, hm, h⟩
            simp only [] at hm
            replace hm := hm.symm
            subst hm
            replace h := hk30 _ _ h
            clear hk30 k30
            refine AWp.known fun _ hkl => ?_
            simp only [] at hkl
            obtain ⟨_, hkl⟩ := keysLt_cons hkl
            obtain ⟨_, hkl⟩ := keysLt_cons hkl
            obtain ⟨_, hkl⟩ := keysLt_cons hkl
            obtain ⟨_, hkl⟩ := keysLt_cons hkl
            clear hkl
            refine AWp.congr (by simp (disch := omega) only [vmE, liE, eE, seval, deE, fxE, retOf, maskA, setVals, getVals, putA, stripAt, AVal.strip, stripL, rd]; rfl) ?_
            replace h := bind_some h
            rcases h with ⟨y38, hy39, h⟩
            refine awp_region' [] ?_
            intro K37 hK37
            simp (disch := omega) only [vmE, liE, eE, seval, deE, fxE, retOf, maskA, setVals, getVals, putA, stripAt, AVal.strip, stripL, rd, hc4, hc19, hx25]
            refine ACall.of (jrd_object_add_w hy39 (i0 := n) (by simp (disch := omega) only [vmE, liE, eE, seval, deE, fxE, retOf, maskA, setVals, getVals, putA, stripAt, AVal.strip, stripL, rd])) ?_ ?_
            · first | (simp (disch := omega) only [vmE, liE, eE, seval, deE, fxE, retOf, maskA, setVals, getVals, putA, stripAt, AVal.strip, stripL, rd, hc4, hc19, hx25]) | rfl
            rintro _ ⟨m41, n40⟩ hn40 ⟨rfl, hm⟩
            simp (disch := omega) only [vmE, liE, eE, seval] at hn40 hm
            replace hm := hm.symm
            subst hm
            simp (disch := omega) only [vmE, liE, eE, seval, deE, fxE, retOf, maskA, setVals, getVals, putA, stripAt, AVal.strip, stripL, rd, hc4, hc19, hx25]
            refine hK37 _ _ (bPost_normal (hK21 _ _ (kPost_normal (hK20 _ _ ?_))))
            refine awp_region' [] ?_
            intro K42 hK42
            simp (disch := omega) only [vmE, liE, eE, seval, deE, fxE, retOf, maskA, setVals, getVals, putA, stripAt, AVal.strip, stripL, rd, hc4, hc19, hx25]
            refine hK42 _ _ (kPost_normal (hJ44 k15 _ _ _ (Nat.lt_succ_self _) (.cons _ (.cons _ (List.Sublist.refl _))) ?_ ⟨(wr .i64 (s17 + 1)), y38.value.kind, y38.value.text, y38.value.keys, y38.value.items, ?_, ?_, h⟩)) <;> simp (disch := omega) only [vmE, liE, eE, seval, deE, fxE, retOf, maskA, setVals, getVals, putA, stripAt, AVal.strip, stripL, rd, hc4, hc19, hx25]
          · intro J43 hJ43
            refine awp_seq_k ?_
            intro K33 hK33
            refine awp_region' [] ?_
            intro K34 hK34
            simp (disch := omega) only [vmE, liE, eE, seval, deE, fxE, retOf, maskA, setVals, getVals, putA, stripAt, AVal.strip, stripL, rd, hc4, hc19, hx25]
            refine hK34 _ _ (kPost_normal (hK33 _ _ ?_))
            replace h := ite_some h
            rcases h with ⟨hc35, h⟩ | ⟨hc35, h⟩
            · refine awp_cond_t rfl hc35 ?_
              refine awp_region' [] ?_
              intro K36 hK36
              simp (disch := omega) only [vmE, liE, eE, seval, deE, fxE, retOf, maskA, setVals, getVals, putA, stripAt, AVal.strip, stripL, rd, hc4, hc19, hx25, hc35]
              refine hK36 _ _ (kPost_normal (hJ43 _ _ _ (List.Sublist.refl _) ?_ ⟨(1, []), ?_, ?_, h⟩)) <;> simp (disch := omega) only [vmE, liE, eE, seval, deE, fxE, retOf, maskA, setVals, getVals, putA, stripAt, AVal.strip, stripL, rd, hc4, hc19, hx25, hc35]
            · refine awp_cond_f rfl hc35 ?_
              refine awp_skip ?_
              refine kPost_normal (hJ43 _ _ _ (List.Sublist.refl _) ?_ ⟨(5, x24.value), ?_, ?_, h⟩) <;> simp (disch := omega) only [vmE, liE, eE, seval, deE, fxE, retOf, maskA, setVals, getVals, putA, stripAt, AVal.strip, stripL, rd, hc4, hc19, hx25, hc35]
        · refine awp_cond_f rfl hc19 ?_
          refine awp_exit ?_
          refine kPost_exit (kPost_exit (bPost_here (hK14 _ _ (kPost_normal (hJ51 _ _ _ (List.Sublist.refl _) ?_ ⟨(bn_value_kind, bn_value_text, bn_value_keys, bn_value_items), ?_, ?_, h⟩))))) <;> simp (disch := omega) only [vmE, liE, eE, seval, deE, fxE, retOf, maskA, setVals, getVals, putA, stripAt, AVal.strip, stripL, rd, hc4, hc19]
end Go.Proofs.Ytdbeiialamganaa
