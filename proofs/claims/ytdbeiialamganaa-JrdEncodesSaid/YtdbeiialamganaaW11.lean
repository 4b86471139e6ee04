/- That the code computes these functions; written by decomp.py. -/
import Derived.Test.YtdbeiialamganaaVmFacts
import Derived.Test.YtdbeiialamganaaDefs
import Derived.Test.YtdbeiialamganaaVMSets
import Derived.Test.YtdbeiialamganaaW2
import Derived.Test.YtdbeiialamganaaW5
import Derived.Test.YtdbeiialamganaaW6
set_option linter.unusedVariables false
set_option linter.unusedSimpArgs false
set_option maxHeartbeats 4000000
set_option maxRecDepth 100000
set_option linter.defProp false
namespace Go.Proofs.Ytdbeiialamganaa
open Go.VM
theorem ref16_Encode_w {N : Nat} {a0 : ApiJRD} {r : ApiValue} (h : ref16_Encode N a0 = some r) {n : Nat} {m : List (Nat × List AVal)} :
    ACall vE 15 [.agg [.str a0.subject, .slice 1 (List.map AVal.str a0.aliases) false, .slice 3 (List.map encApiProperty a0.properties) false, .slice 6 (List.map encApiLink a0.links) false]] ⟨m, n⟩ fun r' st => r' = .agg [.int .i64 r.kind, .str r.text, .slice 1 (List.map AVal.str r.keys) false, .slice 4 (List.map encApiValue r.items) false] ∧ st.m = m := by
  rw [ref16_Encode] at h
  refine acall_k Try.func15 rfl ?_
  intro R hR
  refine AWp.congr (by simp only [Try.ntmps15, liE, seval]; rfl) ?_
  refine awp_seq_k ?_
  intro K1 hK1
  refine awp_region' [] ?_
  intro K2 hK2
  simp (disch := omega) only [vmE, liE, eE, seval, deE, fxE, retOf, maskA, setVals, getVals, putA, stripAt, AVal.strip, stripL, rd]
  refine hK2 _ _ (kPost_normal (hK1 _ _ ?_))
  refine awp_seq_k ?_
  intro K3 hK3
  replace h := bind_some h
  rcases h with ⟨y5, hy6, h⟩
  refine awp_region' [] ?_
  intro K4 hK4
  simp (disch := omega) only [vmE, liE, eE, seval, deE, fxE, retOf, maskA, setVals, getVals, putA, stripAt, AVal.strip, stripL, rd]
  refine ACall.of (ref16_some_w hy6) ?_ ?_
  · first | (simp (disch := omega) only [vmE, liE, eE, seval, deE, fxE, retOf, maskA, setVals, getVals, putA, stripAt, AVal.strip, stripL, rd]) | rfl
  rintro _ ⟨m8, n7⟩ hn7 ⟨rfl, hm⟩
  simp (disch := omega) only [vmE, liE, eE, seval] at hn7 hm
  replace hm := hm.symm
  subst hm
  simp (disch := omega) only [vmE, liE, eE, seval, deE, fxE, retOf, maskA, setVals, getVals, putA, stripAt, AVal.strip, stripL, rd]
  refine hK4 _ _ (kPost_normal (hK3 _ _ ?_))
  refine awp_seq_k ?_
  intro K9 hK9
  replace h := joinK_some h
  rcases h with ⟨k11, hk11, h⟩
  refine awp_join [12, 13, 14, 15, 16, 17, 18, 19, 20] [] (fun vs st' => ∃ j10 : ApiValue, vs = [] ∧ st'.m = (n7, [.int .i64 j10.kind, .str j10.text, .slice 1 (List.map AVal.str j10.keys) false, .slice 4 (List.map encApiValue j10.items) false]) :: ((n + 1), [.int .i64 0, .str [], .slice 1 (List.map AVal.str []) true, .slice 4 (List.map encApiValue []) true]) :: (n, [.str a0.subject, .slice 1 (List.map AVal.str a0.aliases) false, .slice 3 (List.map encApiProperty a0.properties) false, .slice 6 (List.map encApiLink a0.links) false]) :: m ∧ k11 j10 = some r) hK9 ?_ ?_
  · clear h
    rintro _ ⟨m12, n13⟩ ⟨j10, rfl, hm, h⟩
    simp only [] at hm
    replace hm := hm.symm
    subst hm
    replace h := hk11 _ _ h
    clear hk11 k11
    refine AWp.known fun _ hkl => ?_
    simp only [] at hkl
    obtain ⟨_, hkl⟩ := keysLt_cons hkl
    obtain ⟨_, hkl⟩ := keysLt_cons hkl
    obtain ⟨_, hkl⟩ := keysLt_cons hkl
    clear hkl
    refine AWp.congr (by simp (disch := omega) only [vmE, liE, eE, seval, deE, fxE, retOf, maskA, setVals, getVals, putA, stripAt, AVal.strip, stripL, rd]; rfl) ?_
    refine awp_seq_k ?_
    intro K26 hK26
    replace h := bind_some h
    rcases h with ⟨y28, hy29, h⟩
    refine awp_region' [] ?_
    intro K27 hK27
    simp (disch := omega) only [vmE, liE, eE, seval, deE, fxE, retOf, maskA, setVals, getVals, putA, stripAt, AVal.strip, stripL, rd]
    refine ACall.of (ref16_members_w hy29) ?_ ?_
    · first | (simp (disch := omega) only [vmE, liE, eE, seval, deE, fxE, retOf, maskA, setVals, getVals, putA, stripAt, AVal.strip, stripL, rd]) | rfl
    rintro _ ⟨m31, n30⟩ hn30 ⟨rfl, hm⟩
    simp (disch := omega) only [vmE, liE, eE, seval] at hn30 hm
    replace hm := hm.symm
    subst hm
    simp (disch := omega) only [vmE, liE, eE, seval, deE, fxE, retOf, maskA, setVals, getVals, putA, stripAt, AVal.strip, stripL, rd]
    refine hK27 _ _ (kPost_normal (hK26 _ _ ?_))
    refine awp_seq_k ?_
    intro K32 hK32
    refine awp_seq_k ?_
    intro K33 hK33
    refine awp_region' [] ?_
    intro K34 hK34
    simp (disch := omega) only [vmE, liE, eE, seval, deE, fxE, retOf, maskA, setVals, getVals, putA, stripAt, AVal.strip, stripL, rd]
    refine hK34 _ _ (kPost_normal (hK33 _ _ ?_))
    replace h := ite_some h
    rcases h with ⟨hc35, h⟩ | ⟨hc35, h⟩
    · refine awp_cond_t rfl hc35 ?_
      refine awp_seq_k ?_
      intro K36 hK36
      refine awp_region' [] ?_
      intro K37 hK37
      simp (disch := omega) only [vmE, liE, eE, seval, deE, fxE, retOf, maskA, setVals, getVals, putA, stripAt, AVal.strip, stripL, rd, hc35]
      refine hK37 _ _ (kPost_normal (hK36 _ _ ?_))
      refine awp_ret ?_
      refine kPost_ret (hR _ _ _ (retPost_r (by simp (disch := omega) only [Try.results15, vmE, liE, eE, seval, deE, fxE, retOf, maskA, setVals, getVals, putA, stripAt, AVal.strip, stripL, rd, hc35]; rfl) (.cons _ (.cons _ (.cons _ (List.Sublist.refl _)))) ?_))
      cases h
      refine ⟨?_, ?_⟩
      · simp (disch := omega) only [vmE, liE, eE, seval, deE, fxE, retOf, maskA, setVals, getVals, putA, stripAt, AVal.strip, stripL, rd, hc35]
      · rfl
    · refine awp_cond_f rfl hc35 ?_
      refine awp_skip ?_
      refine kPost_normal (hK32 _ _ ?_)
      refine awp_seq_k ?_
      intro K38 hK38
      refine awp_region' [] ?_
      intro K39 hK39
      simp (disch := omega) only [vmE, liE, eE, seval, deE, fxE, retOf, maskA, setVals, getVals, putA, stripAt, AVal.strip, stripL, rd, hc35]
      refine hK39 _ _ (kPost_normal (hK38 _ _ ?_))
      refine awp_seq_k ?_
      intro K40 hK40
      replace h := joinK_some h
      rcases h with ⟨k42, hk42, h⟩
      refine awp_join [6, 7, 31, 32, 33, 34, 35, 36, 37, 38, 39, 40, 41, 42, 43, 44, 45, 46, 47, 48, 49, 50, 51, 52, 53, 54, 55, 56, 57, 58, 59, 60, 61, 62, 63, 64, 65, 66] [] (fun vs st' => ∃ j41 : (List ApiValue), vs = [] ∧ st'.m = (n30, [.int .i64 6, .str [], .slice 1 (List.map AVal.str []) true, .slice 4 (List.map encApiValue j41) true]) :: (n7, [.int .i64 y28.kind, .str y28.text, .slice 1 (List.map AVal.str y28.keys) false, .slice 4 (List.map encApiValue y28.items) false]) :: ((n + 1), [.int .i64 0, .str [], .slice 1 (List.map AVal.str []) true, .slice 4 (List.map encApiValue []) true]) :: (n, [.str a0.subject, .slice 1 (List.map AVal.str a0.aliases) false, .slice 3 (List.map encApiProperty a0.properties) false, .slice 6 (List.map encApiLink a0.links) false]) :: m ∧ k42 j41 = some r) hK40 ?_ ?_
      · clear h
        rintro _ ⟨m43, n44⟩ ⟨j41, rfl, hm, h⟩
        simp only [] at hm
        replace hm := hm.symm
        subst hm
        replace h := hk42 _ _ h
        clear hk42 k42
        refine AWp.known fun _ hkl => ?_
        simp only [] at hkl
        obtain ⟨_, hkl⟩ := keysLt_cons hkl
        obtain ⟨_, hkl⟩ := keysLt_cons hkl
        obtain ⟨_, hkl⟩ := keysLt_cons hkl
        obtain ⟨_, hkl⟩ := keysLt_cons hkl
        clear hkl
        refine AWp.congr (by simp (disch := omega) only [vmE, liE, eE, seval, deE, fxE, retOf, maskA, setVals, getVals, putA, stripAt, AVal.strip, stripL, rd]; rfl) ?_
        refine awp_seq_k ?_
        intro K98 hK98
        replace h := bind_some h
        rcases h with ⟨y100, hy101, h⟩
        refine awp_region' [] ?_
        intro K99 hK99
        simp (disch := omega) only [vmE, liE, eE, seval, deE, fxE, retOf, maskA, setVals, getVals, putA, stripAt, AVal.strip, stripL, rd, hc35]
        refine ACall.of (ref16_with_w hy101) ?_ ?_
        · first | (simp (disch := omega) only [vmE, liE, eE, seval, deE, fxE, retOf, maskA, setVals, getVals, putA, stripAt, AVal.strip, stripL, rd, hc35]) | rfl
        rintro _ ⟨m103, n102⟩ hn102 ⟨rfl, hm⟩
        simp (disch := omega) only [vmE, liE, eE, seval] at hn102 hm
        replace hm := hm.symm
        subst hm
        simp (disch := omega) only [vmE, liE, eE, seval, deE, fxE, retOf, maskA, setVals, getVals, putA, stripAt, AVal.strip, stripL, rd, hc35]
        refine hK99 _ _ (kPost_normal (hK98 _ _ ?_))
        refine awp_ret ?_
        refine hR _ _ _ (retPost_r (by simp (disch := omega) only [Try.results15, vmE, liE, eE, seval, deE, fxE, retOf, maskA, setVals, getVals, putA, stripAt, AVal.strip, stripL, rd, hc35]; rfl) (.cons _ (.cons _ (.cons _ (.cons _ (List.Sublist.refl _))))) ?_)
        cases h
        refine ⟨?_, ?_⟩
        · simp (disch := omega) only [vmE, liE, eE, seval, deE, fxE, retOf, maskA, setVals, getVals, putA, stripAt, AVal.strip, stripL, rd, hc35]
        · rfl
      · intro J104 hJ104
        refine awp_seq_k ?_
        intro K45 hK45
        refine awp_region' [] ?_
        intro K46 hK46
        simp (disch := omega) only [vmE, liE, eE, seval, deE, fxE, retOf, maskA, setVals, getVals, putA, stripAt, AVal.strip, stripL, rd, hc35]
        refine hK46 _ _ (kPost_normal (hK45 _ _ ?_))
        refine awp_block_k ?_
        intro K47 hK47
        refine awp_loop_v [6, 7, 35, 36, 37, 38, 39, 40, 41, 42, 43, 44, 45, 46, 47, 48, 49, 50, 51, 52, 53, 54, 55, 56, 57, 58, 59, 60, 61, 62, 63, 64, 65, 66] [34] (fun k vs st' => ∃ (s34 : Int) (bn30_items : (List ApiValue)), vs = [.int .i64 s34] ∧ st'.m = (n30, [.int .i64 6, .str [], .slice 1 (List.map AVal.str []) true, .slice 4 (List.map encApiValue bn30_items) true]) :: (n7, [.int .i64 y28.kind, .str y28.text, .slice 1 (List.map AVal.str y28.keys) false, .slice 4 (List.map encApiValue y28.items) false]) :: ((n + 1), [.int .i64 0, .str [], .slice 1 (List.map AVal.str []) true, .slice 4 (List.map encApiValue []) true]) :: (n, [.str a0.subject, .slice 1 (List.map AVal.str a0.aliases) false, .slice 3 (List.map encApiProperty a0.properties) false, .slice 6 (List.map encApiLink a0.links) false]) :: m ∧ ref16_Encode_L1 N a0 k42 k s34 bn30_items = some r) N ⟨0, [], ?_, ?_, h⟩ ?_
        · simp (disch := omega) only [vmE, liE, eE, seval, deE, fxE, retOf, maskA, setVals, getVals, putA, stripAt, AVal.strip, stripL, rd, hc35]
        · simp (disch := omega) only [vmE, liE, eE, seval, deE, fxE, retOf, maskA, setVals, getVals, putA, stripAt, AVal.strip, stripL, rd, hc35]
        · clear h
          rintro k48 _ ⟨m97, nL0_1⟩ ⟨s34, bn30_items, rfl, hm, h⟩ J96 hJ96
          simp only [] at hm
          replace hm := hm.symm
          subst hm
          rcases k48 with _ | k48
          · simp only [ref16_Encode_L1, reduceCtorEq] at h
          rw [ref16_Encode_L1] at h
          refine AWp.known fun _ hkl => ?_
          simp only [] at hkl
          obtain ⟨_, hkl⟩ := keysLt_cons hkl
          obtain ⟨_, hkl⟩ := keysLt_cons hkl
          obtain ⟨_, hkl⟩ := keysLt_cons hkl
          obtain ⟨_, hkl⟩ := keysLt_cons hkl
          clear hkl
          refine AWp.congr (by simp (disch := omega) only [vmE, liE, eE, seval, deE, fxE, retOf, maskA, setVals, getVals, putA, stripAt, AVal.strip, stripL, rd]; rfl) ?_
          refine awp_seq_k ?_
          intro K49 hK49
          refine awp_region' [] ?_
          intro K50 hK50
          simp (disch := omega) only [vmE, liE, eE, seval, deE, fxE, retOf, maskA, setVals, getVals, putA, stripAt, AVal.strip, stripL, rd, hc35]
          refine hK50 _ _ (kPost_normal (hK49 _ _ ?_))
          refine awp_seq_k ?_
          intro K51 hK51
          replace h := ite_some h
          rcases h with ⟨hc52, h⟩ | ⟨hc52, h⟩
          · refine awp_cond_t rfl hc52 ?_
            refine awp_skip ?_
            refine kPost_normal (hK51 _ _ ?_)
            refine awp_seq_k ?_
            intro K53 hK53
            refine awp_block_k ?_
            intro K54 hK54
            refine awp_seq_k ?_
            intro K55 hK55
            replace h := bind_some h
            rcases h with ⟨x57, hx58, h⟩
            refine awp_region' [] ?_
            intro K56 hK56
            simp (disch := omega) only [vmE, liE, eE, seval, deE, fxE, retOf, maskA, setVals, getVals, putA, stripAt, AVal.strip, stripL, rd, hc35, hc52, hx58]
            refine hK56 _ _ (kPost_normal (hK55 _ _ ?_))
            refine awp_seq_k ?_
            intro K59 hK59
            replace h := bind_some h
            rcases h with ⟨y61, hy62, h⟩
            replace h := bind_some h
            rcases h with ⟨y65, hy66, h⟩
            refine awp_region' [] ?_
            intro K60 hK60
            simp (disch := omega) only [vmE, liE, eE, seval, deE, fxE, retOf, maskA, setVals, getVals, putA, stripAt, AVal.strip, stripL, rd, hc35, hc52, hx58]
            refine ACall.of (ref16_Text_w hy62) ?_ ?_
            · first | (simp (disch := omega) only [vmE, liE, eE, seval, deE, fxE, retOf, maskA, setVals, getVals, putA, stripAt, AVal.strip, stripL, rd, hc35, hc52, hx58]) | rfl
            rintro _ ⟨m64, n63⟩ hn63 ⟨rfl, hm⟩
            simp (disch := omega) only [vmE, liE, eE, seval] at hn63 hm
            replace hm := hm.symm
            subst hm
            simp (disch := omega) only [vmE, liE, eE, seval, deE, fxE, retOf, maskA, setVals, getVals, putA, stripAt, AVal.strip, stripL, rd, hc35, hc52, hx58]
            refine ACall.of (ref16_with_w hy66) ?_ ?_
            · first | (simp (disch := omega) only [vmE, liE, eE, seval, deE, fxE, retOf, maskA, setVals, getVals, putA, stripAt, AVal.strip, stripL, rd, hc35, hc52, hx58]) | rfl
            rintro _ ⟨m68, n67⟩ hn67 ⟨rfl, hm⟩
            simp (disch := omega) only [vmE, liE, eE, seval] at hn67 hm
            replace hm := hm.symm
            subst hm
            simp (disch := omega) only [vmE, liE, eE, seval, deE, fxE, retOf, maskA, setVals, getVals, putA, stripAt, AVal.strip, stripL, rd, hc35, hc52, hx58]
            refine hK60 _ _ (kPost_normal (hK59 _ _ ?_))
            refine awp_seq_k ?_
            intro K69 hK69
            replace h := bind_some h
            rcases h with ⟨y71, hy72, h⟩
            replace h := bind_some h
            rcases h with ⟨y75, hy76, h⟩
            replace h := bind_some h
            rcases h with ⟨y79, hy80, h⟩
            refine awp_draw' [] (.take 0 (.take 1 (.take 2 (.take 4 (.take 5 (.take 7 (.take 8 (.alt 3 [8, 7, 5, 4, 1] (.alt 6 [8, 7, 4, 2, 1, 0] (.alt 9 [7, 5, 4, 2, 1, 0] (.alt 10 [] (.done) (.stop)) (.stop)) (.stop)) (.stop))))))))) vE_mixed (by kernel_rfl) ?_
            intro K70 hK70
            simp (disch := omega) only [vmE, liE, eE, seval, deE, fxE, retOf, maskA, setVals, getVals, putA, stripAt, AVal.strip, stripL, rd, hc35, hc52, hx58]
            refine ACall.of (ref16_some_w hy72) ?_ ?_
            · first | (simp (disch := omega) only [vmE, liE, eE, seval, deE, fxE, retOf, maskA, setVals, getVals, putA, stripAt, AVal.strip, stripL, rd, hc35, hc52, hx58]) | rfl
            rintro _ ⟨m74, n73⟩ hn73 ⟨rfl, hm⟩
            simp (disch := omega) only [vmE, liE, eE, seval] at hn73 hm
            replace hm := hm.symm
            subst hm
            simp (disch := omega) only [vmE, liE, eE, seval, deE, fxE, retOf, maskA, setVals, getVals, putA, stripAt, AVal.strip, stripL, rd, hc35, hc52, hx58]
            refine ACall.of (ref16_some_w hy76) ?_ ?_
            · first | (simp (disch := omega) only [vmE, liE, eE, seval, deE, fxE, retOf, maskA, setVals, getVals, putA, stripAt, AVal.strip, stripL, rd, hc35, hc52, hx58]) | rfl
            rintro _ ⟨m78, n77⟩ hn77 ⟨rfl, hm⟩
            simp (disch := omega) only [vmE, liE, eE, seval] at hn77 hm
            replace hm := hm.symm
            subst hm
            simp (disch := omega) only [vmE, liE, eE, seval, deE, fxE, retOf, maskA, setVals, getVals, putA, stripAt, AVal.strip, stripL, rd, hc35, hc52, hx58]
            refine ACall.of (ref16_some_w hy80) ?_ ?_
            · first | (simp (disch := omega) only [vmE, liE, eE, seval, deE, fxE, retOf, maskA, setVals, getVals, putA, stripAt, AVal.strip, stripL, rd, hc35, hc52, hx58]) | rfl
            rintro _ ⟨m82, n81⟩ hn81 ⟨rfl, hm⟩
            simp (disch := omega) only [vmE, liE, eE, seval] at hn81 hm
            replace hm := hm.symm
            subst hm
            simp (disch := omega) only [vmE, liE, eE, seval, deE, fxE, retOf, maskA, setVals, getVals, putA, stripAt, AVal.strip, stripL, rd, hc35, hc52, hx58]
            refine hK70 _ _ (kPost_normal (hK69 _ _ ?_))
            refine awp_seq_k ?_
            intro K83 hK83
            replace h := bind_some h
            rcases h with ⟨y85, hy86, h⟩
            replace h := bind_some h
            rcases h with ⟨y89, hy90, h⟩
            refine awp_draw' [] (.take 0 (.take 1 (.take 2 (.take 4 (.take 5 (.alt 3 [5, 4, 1] (.alt 6 [4, 2, 1, 0] (.alt 7 [] (.done) (.stop)) (.stop)) (.stop))))))) vE_mixed (by kernel_rfl) ?_
            intro K84 hK84
            simp (disch := omega) only [vmE, liE, eE, seval, deE, fxE, retOf, maskA, setVals, getVals, putA, stripAt, AVal.strip, stripL, rd, hc35, hc52, hx58]
            refine ACall.of (ref16_members_w hy86) ?_ ?_
            · first | (simp (disch := omega) only [vmE, liE, eE, seval, deE, fxE, retOf, maskA, setVals, getVals, putA, stripAt, AVal.strip, stripL, rd, hc35, hc52, hx58]) | rfl
            rintro _ ⟨m88, n87⟩ hn87 ⟨rfl, hm⟩
            simp (disch := omega) only [vmE, liE, eE, seval] at hn87 hm
            replace hm := hm.symm
            subst hm
            simp (disch := omega) only [vmE, liE, eE, seval, deE, fxE, retOf, maskA, setVals, getVals, putA, stripAt, AVal.strip, stripL, rd, hc35, hc52, hx58]
            refine ACall.of (ref16_members_w hy90) ?_ ?_
            · first | (simp (disch := omega) only [vmE, liE, eE, seval, deE, fxE, retOf, maskA, setVals, getVals, putA, stripAt, AVal.strip, stripL, rd, hc35, hc52, hx58]) | rfl
            rintro _ ⟨m92, n91⟩ hn91 ⟨rfl, hm⟩
            simp (disch := omega) only [vmE, liE, eE, seval] at hn91 hm
            replace hm := hm.symm
            subst hm
            simp (disch := omega) only [vmE, liE, eE, seval, deE, fxE, retOf, maskA, setVals, getVals, putA, stripAt, AVal.strip, stripL, rd, hc35, hc52, hx58]
            refine hK84 _ _ (kPost_normal (hK83 _ _ ?_))
            replace h := grd_some h
            rcases h with ⟨hg94, h⟩
            try simp only [liE, seval] at hg94
            refine awp_region' [61] ?_
            intro K93 hK93
            simp (disch := omega) only [vmE, liE, eE, seval, deE, fxE, retOf, maskA, setVals, getVals, putA, stripAt, AVal.strip, stripL, rd, hc35, hc52, hx58, hg94]
            refine hK93 _ _ (bPost_normal (hK54 _ _ (kPost_normal (hK53 _ _ ?_))))
            refine awp_region' [] ?_
            intro K95 hK95
            simp (disch := omega) only [vmE, liE, eE, seval, deE, fxE, retOf, maskA, setVals, getVals, putA, stripAt, AVal.strip, stripL, rd, hc35, hc52, hx58, hg94]
            refine hK95 _ _ (kPost_normal (hJ96 k48 _ _ _ (Nat.lt_succ_self _) (.cons _ (.cons _ (List.Sublist.refl _))) ?_ ⟨(wr .i64 (s34 + 1)), (bn30_items ++ [y89]), ?_, ?_, h⟩)) <;> simp (disch := omega) only [vmE, liE, eE, seval, deE, fxE, retOf, maskA, setVals, getVals, putA, stripAt, AVal.strip, stripL, rd, hc35, hc52, hx58, hg94]
          · refine awp_cond_f rfl hc52 ?_
            refine awp_exit ?_
            refine kPost_exit (kPost_exit (bPost_here (hK47 _ _ (kPost_normal (hJ104 _ _ _ (List.Sublist.refl _) ?_ ⟨bn30_items, ?_, ?_, h⟩))))) <;> simp (disch := omega) only [vmE, liE, eE, seval, deE, fxE, retOf, maskA, setVals, getVals, putA, stripAt, AVal.strip, stripL, rd, hc35, hc52]
  · intro J105 hJ105
    refine awp_seq_k ?_
    intro K14 hK14
    refine awp_region' [] ?_
    intro K15 hK15
    simp (disch := omega) only [vmE, liE, eE, seval, deE, fxE, retOf, maskA, setVals, getVals, putA, stripAt, AVal.strip, stripL, rd]
    refine hK15 _ _ (kPost_normal (hK14 _ _ ?_))
    replace h := ite_some h
    rcases h with ⟨hc16, h⟩ | ⟨hc16, h⟩
    · refine awp_cond_t rfl hc16 ?_
      replace h := bind_some h
      rcases h with ⟨y18, hy19, h⟩
      replace h := bind_some h
      rcases h with ⟨y22, hy23, h⟩
      refine awp_draw' [] (.take 0 (.take 1 (.take 2 (.alt 3 [1, 0] (.alt 4 [2, 1] (.alt 5 [] (.done) (.stop)) (.stop)) (.stop))))) vE_mixed (by kernel_rfl) ?_
      intro K17 hK17
      simp (disch := omega) only [vmE, liE, eE, seval, deE, fxE, retOf, maskA, setVals, getVals, putA, stripAt, AVal.strip, stripL, rd, hc16]
      refine ACall.of (ref16_Array_w hy19) ?_ ?_
      · first | (simp (disch := omega) only [vmE, liE, eE, seval, deE, fxE, retOf, maskA, setVals, getVals, putA, stripAt, AVal.strip, stripL, rd, hc16]) | rfl
      rintro _ ⟨m21, n20⟩ hn20 ⟨rfl, hm⟩
      simp (disch := omega) only [vmE, liE, eE, seval] at hn20 hm
      replace hm := hm.symm
      subst hm
      simp (disch := omega) only [vmE, liE, eE, seval, deE, fxE, retOf, maskA, setVals, getVals, putA, stripAt, AVal.strip, stripL, rd, hc16]
      refine ACall.of (ref16_with_w hy23) ?_ ?_
      · first | (simp (disch := omega) only [vmE, liE, eE, seval, deE, fxE, retOf, maskA, setVals, getVals, putA, stripAt, AVal.strip, stripL, rd, hc16]) | rfl
      rintro _ ⟨m25, n24⟩ hn24 ⟨rfl, hm⟩
      simp (disch := omega) only [vmE, liE, eE, seval] at hn24 hm
      replace hm := hm.symm
      subst hm
      simp (disch := omega) only [vmE, liE, eE, seval, deE, fxE, retOf, maskA, setVals, getVals, putA, stripAt, AVal.strip, stripL, rd, hc16]
      refine hK17 _ _ (kPost_normal (hJ105 _ _ _ (List.Sublist.refl _) ?_ ⟨y22, ?_, ?_, h⟩)) <;> simp (disch := omega) only [vmE, liE, eE, seval, deE, fxE, retOf, maskA, setVals, getVals, putA, stripAt, AVal.strip, stripL, rd, hc16]
    · refine awp_cond_f rfl hc16 ?_
      refine awp_skip ?_
      refine kPost_normal (hJ105 _ _ _ (List.Sublist.refl _) ?_ ⟨y5, ?_, ?_, h⟩) <;> simp (disch := omega) only [vmE, liE, eE, seval, deE, fxE, retOf, maskA, setVals, getVals, putA, stripAt, AVal.strip, stripL, rd, hc16]
end Go.Proofs.Ytdbeiialamganaa
