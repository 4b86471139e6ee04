/- That the code computes these functions; written by decomp.py. -/
import Derived.Test.YtdbeiialamganaaVmFacts
import Derived.Test.YtdbeiialamganaaDefs
import Derived.Test.YtdbeiialamganaaVMSets
import Derived.Test.YtdbeiialamganaaW3
import Derived.Test.YtdbeiialamganaaW6
set_option linter.unusedVariables false
set_option linter.unusedSimpArgs false
set_option maxHeartbeats 4000000
set_option maxRecDepth 100000
set_option linter.defProp false
namespace Go.Proofs.Ytdbeiialamganaa
open Go.VM
theorem jrd_Encode_w {N : Nat} {a0 : ApiJRD} {r : ApiValue} (h : jrd_Encode N a0 = some r) {n : Nat} {m : List (Nat × List AVal)} :
    ACall vE 20 [.agg [.str a0.subject, .slice 1 (List.map AVal.str a0.aliases) false, .slice 3 (List.map encApiProperty a0.properties) false, .slice 6 (List.map encApiLink a0.links) false]] ⟨m, n⟩ fun r' st => r' = .agg [.int .i64 r.kind, .str r.text, .slice 1 (List.map AVal.str r.keys) false, .slice 4 (List.map encApiValue r.items) false] ∧ st.m = m := by
  rw [jrd_Encode] at h
  refine acall_k Try.func20 rfl ?_
  intro R hR
  refine AWp.congr (by simp only [Try.ntmps20, liE, seval]; rfl) ?_
  refine awp_seq_k ?_
  intro K1 hK1
  refine awp_region' [] ?_
  intro K2 hK2
  simp (disch := omega) only [vmE, liE, eE, seval, deE, fxE, retOf, maskA, setVals, getVals, putA, stripAt, AVal.strip, stripL, rd]
  refine hK2 _ _ (kPost_normal (hK1 _ _ ?_))
  refine awp_seq_k ?_
  intro K3 hK3
  refine awp_region' [] ?_
  intro K4 hK4
  simp (disch := omega) only [vmE, liE, eE, seval, deE, fxE, retOf, maskA, setVals, getVals, putA, stripAt, AVal.strip, stripL, rd]
  refine hK4 _ _ (kPost_normal (hK3 _ _ ?_))
  refine awp_seq_k ?_
  intro K5 hK5
  replace h := bind_some h
  rcases h with ⟨y7, hy8, h⟩
  refine awp_region' [] ?_
  intro K6 hK6
  simp (disch := omega) only [vmE, liE, eE, seval, deE, fxE, retOf, maskA, setVals, getVals, putA, stripAt, AVal.strip, stripL, rd]
  refine ACall.of (jrd_object_text_w hy8 (i0 := (n + 2)) (by simp (disch := omega) only [vmE, liE, eE, seval, deE, fxE, retOf, maskA, setVals, getVals, putA, stripAt, AVal.strip, stripL, rd])) ?_ ?_
  · first | (simp (disch := omega) only [vmE, liE, eE, seval, deE, fxE, retOf, maskA, setVals, getVals, putA, stripAt, AVal.strip, stripL, rd]) | rfl
  rintro _ ⟨m10, n9⟩ hn9 ⟨rfl, hm⟩
  simp (disch := omega) only [vmE, liE, eE, seval] at hn9 hm
  replace hm := hm.symm
  subst hm
  simp (disch := omega) only [vmE, liE, eE, seval, deE, fxE, retOf, maskA, setVals, getVals, putA, stripAt, AVal.strip, stripL, rd]
  refine hK6 _ _ (kPost_normal (hK5 _ _ ?_))
  refine awp_seq_k ?_
  intro K11 hK11
  refine awp_region' [] ?_
  intro K12 hK12
  simp (disch := omega) only [vmE, liE, eE, seval, deE, fxE, retOf, maskA, setVals, getVals, putA, stripAt, AVal.strip, stripL, rd]
  refine hK12 _ _ (kPost_normal (hK11 _ _ ?_))
  refine awp_seq_k ?_
  intro K13 hK13
  replace h := joinK_some h
  rcases h with ⟨k15, hk15, h⟩
  refine awp_join [7, 16, 17, 18, 19, 20, 21, 22, 23, 24, 25, 26, 27, 28] [4] (fun vs st' => ∃ j14 : (List ApiValue), vs = [.slice 4 (List.map encApiValue j14) true] ∧ st'.m = ((n + 2), [.int .i64 y7.value.kind, .str y7.value.text, .slice 1 (List.map AVal.str y7.value.keys) true, .slice 4 (List.map encApiValue y7.value.items) true]) :: ((n + 1), [.int .i64 0, .str [], .slice 1 (List.map AVal.str []) true, .slice 4 (List.map encApiValue []) true]) :: (n, [.str a0.subject, .slice 1 (List.map AVal.str a0.aliases) false, .slice 3 (List.map encApiProperty a0.properties) false, .slice 6 (List.map encApiLink a0.links) false]) :: m ∧ k15 j14 = some r) hK13 ?_ ?_
  · clear h
    rintro _ ⟨m16, n17⟩ ⟨j14, rfl, hm, h⟩
    simp only [] at hm
    replace hm := hm.symm
    subst hm
    replace h := hk15 _ _ h
    clear hk15 k15
    refine AWp.known fun _ hkl => ?_
    simp only [] at hkl
    obtain ⟨_, hkl⟩ := keysLt_cons hkl
    obtain ⟨_, hkl⟩ := keysLt_cons hkl
    obtain ⟨_, hkl⟩ := keysLt_cons hkl
    clear hkl
    refine AWp.congr (by simp (disch := omega) only [vmE, liE, eE, seval, deE, fxE, retOf, maskA, setVals, getVals, putA, stripAt, AVal.strip, stripL, rd]; rfl) ?_
    refine awp_seq_k ?_
    intro K37 hK37
    replace h := bind_some h
    rcases h with ⟨y39, hy40, h⟩
    refine awp_region' [] ?_
    intro K38 hK38
    simp (disch := omega) only [vmE, liE, eE, seval, deE, fxE, retOf, maskA, setVals, getVals, putA, stripAt, AVal.strip, stripL, rd]
    refine ACall.of (jrd_object_list_w hy40 (i0 := (n + 2)) (by simp (disch := omega) only [vmE, liE, eE, seval, deE, fxE, retOf, maskA, setVals, getVals, putA, stripAt, AVal.strip, stripL, rd])) ?_ ?_
    · first | (simp (disch := omega) only [vmE, liE, eE, seval, deE, fxE, retOf, maskA, setVals, getVals, putA, stripAt, AVal.strip, stripL, rd]) | rfl
    rintro _ ⟨m42, n41⟩ hn41 ⟨rfl, hm⟩
    simp (disch := omega) only [vmE, liE, eE, seval] at hn41 hm
    replace hm := hm.symm
    subst hm
    simp (disch := omega) only [vmE, liE, eE, seval, deE, fxE, retOf, maskA, setVals, getVals, putA, stripAt, AVal.strip, stripL, rd]
    refine hK38 _ _ (kPost_normal (hK37 _ _ ?_))
    refine awp_seq_k ?_
    intro K43 hK43
    replace h := bind_some h
    rcases h with ⟨y45, hy46, h⟩
    refine awp_region' [] ?_
    intro K44 hK44
    simp (disch := omega) only [vmE, liE, eE, seval, deE, fxE, retOf, maskA, setVals, getVals, putA, stripAt, AVal.strip, stripL, rd]
    refine ACall.of (jrd_object_properties_w hy46 (i0 := (n + 2)) (by simp (disch := omega) only [vmE, liE, eE, seval, deE, fxE, retOf, maskA, setVals, getVals, putA, stripAt, AVal.strip, stripL, rd])) ?_ ?_
    · first | (simp (disch := omega) only [vmE, liE, eE, seval, deE, fxE, retOf, maskA, setVals, getVals, putA, stripAt, AVal.strip, stripL, rd]) | rfl
    rintro _ ⟨m48, n47⟩ hn47 ⟨rfl, hm⟩
    simp (disch := omega) only [vmE, liE, eE, seval] at hn47 hm
    replace hm := hm.symm
    subst hm
    simp (disch := omega) only [vmE, liE, eE, seval, deE, fxE, retOf, maskA, setVals, getVals, putA, stripAt, AVal.strip, stripL, rd]
    refine hK44 _ _ (kPost_normal (hK43 _ _ ?_))
    refine awp_seq_k ?_
    intro K49 hK49
    replace h := joinK_some h
    rcases h with ⟨k51, hk51, h⟩
    refine awp_join [9, 10, 34, 35, 36, 37, 38, 39, 40, 41, 42, 43, 44, 45, 46, 47, 48, 49, 50, 51, 52, 53, 54, 55, 56, 57, 58, 59, 60, 61, 62, 63, 64, 65, 66, 67] [5] (fun vs st' => ∃ j50 : (List ApiValue), vs = [.slice 4 (List.map encApiValue j50) true] ∧ st'.m = ((n + 2), [.int .i64 y45.value.kind, .str y45.value.text, .slice 1 (List.map AVal.str y45.value.keys) true, .slice 4 (List.map encApiValue y45.value.items) true]) :: ((n + 1), [.int .i64 0, .str [], .slice 1 (List.map AVal.str []) true, .slice 4 (List.map encApiValue []) true]) :: (n, [.str a0.subject, .slice 1 (List.map AVal.str a0.aliases) false, .slice 3 (List.map encApiProperty a0.properties) false, .slice 6 (List.map encApiLink a0.links) false]) :: m ∧ k51 j50 = some r) hK49 ?_ ?_
    · clear h
      rintro _ ⟨m52, n53⟩ ⟨j50, rfl, hm, h⟩
      simp only [] at hm
      replace hm := hm.symm
      subst hm
      replace h := hk51 _ _ h
      clear hk51 k51
      refine AWp.known fun _ hkl => ?_
      simp only [] at hkl
      obtain ⟨_, hkl⟩ := keysLt_cons hkl
      obtain ⟨_, hkl⟩ := keysLt_cons hkl
      obtain ⟨_, hkl⟩ := keysLt_cons hkl
      clear hkl
      refine AWp.congr (by simp (disch := omega) only [vmE, liE, eE, seval, deE, fxE, retOf, maskA, setVals, getVals, putA, stripAt, AVal.strip, stripL, rd]; rfl) ?_
      refine awp_seq_k ?_
      intro K111 hK111
      replace h := bind_some h
      rcases h with ⟨y113, hy114, h⟩
      refine awp_region' [] ?_
      intro K112 hK112
      simp (disch := omega) only [vmE, liE, eE, seval, deE, fxE, retOf, maskA, setVals, getVals, putA, stripAt, AVal.strip, stripL, rd]
      refine ACall.of (jrd_object_list_w hy114 (i0 := (n + 2)) (by simp (disch := omega) only [vmE, liE, eE, seval, deE, fxE, retOf, maskA, setVals, getVals, putA, stripAt, AVal.strip, stripL, rd])) ?_ ?_
      · first | (simp (disch := omega) only [vmE, liE, eE, seval, deE, fxE, retOf, maskA, setVals, getVals, putA, stripAt, AVal.strip, stripL, rd]) | rfl
      rintro _ ⟨m116, n115⟩ hn115 ⟨rfl, hm⟩
      simp (disch := omega) only [vmE, liE, eE, seval] at hn115 hm
      replace hm := hm.symm
      subst hm
      simp (disch := omega) only [vmE, liE, eE, seval, deE, fxE, retOf, maskA, setVals, getVals, putA, stripAt, AVal.strip, stripL, rd]
      refine hK112 _ _ (kPost_normal (hK111 _ _ ?_))
      refine awp_seq_k ?_
      intro K117 hK117
      refine awp_region' [] ?_
      intro K118 hK118
      simp (disch := omega) only [vmE, liE, eE, seval, deE, fxE, retOf, maskA, setVals, getVals, putA, stripAt, AVal.strip, stripL, rd]
      refine hK118 _ _ (kPost_normal (hK117 _ _ ?_))
      refine awp_ret ?_
      refine hR _ _ _ (retPost_r (by simp (disch := omega) only [Try.results20, vmE, liE, eE, seval, deE, fxE, retOf, maskA, setVals, getVals, putA, stripAt, AVal.strip, stripL, rd]; rfl) (.cons _ (.cons _ (.cons _ (List.Sublist.refl _)))) ?_)
      cases h
      refine ⟨?_, ?_⟩
      · simp (disch := omega) only [vmE, liE, eE, seval, deE, fxE, retOf, maskA, setVals, getVals, putA, stripAt, AVal.strip, stripL, rd]
      · rfl
    · intro J119 hJ119
      refine awp_seq_k ?_
      intro K54 hK54
      refine awp_region' [] ?_
      intro K55 hK55
      simp (disch := omega) only [vmE, liE, eE, seval, deE, fxE, retOf, maskA, setVals, getVals, putA, stripAt, AVal.strip, stripL, rd]
      refine hK55 _ _ (kPost_normal (hK54 _ _ ?_))
      refine awp_block_k ?_
      intro K56 hK56
      refine awp_loop_v [9, 10, 38, 39, 40, 41, 42, 43, 44, 45, 46, 47, 48, 49, 50, 51, 52, 53, 54, 55, 56, 57, 58, 59, 60, 61, 62, 63, 64, 65, 66, 67] [5, 37] (fun k vs st' => ∃ (s5 : (List ApiValue)) (s37 : Int), vs = [.slice 4 (List.map encApiValue s5) true, .int .i64 s37] ∧ st'.m = ((n + 2), [.int .i64 y45.value.kind, .str y45.value.text, .slice 1 (List.map AVal.str y45.value.keys) true, .slice 4 (List.map encApiValue y45.value.items) true]) :: ((n + 1), [.int .i64 0, .str [], .slice 1 (List.map AVal.str []) true, .slice 4 (List.map encApiValue []) true]) :: (n, [.str a0.subject, .slice 1 (List.map AVal.str a0.aliases) false, .slice 3 (List.map encApiProperty a0.properties) false, .slice 6 (List.map encApiLink a0.links) false]) :: m ∧ jrd_Encode_L2 N a0 k51 k s5 s37 = some r) N ⟨[], 0, ?_, ?_, h⟩ ?_
      · simp (disch := omega) only [vmE, liE, eE, seval, deE, fxE, retOf, maskA, setVals, getVals, putA, stripAt, AVal.strip, stripL, rd]
      · simp (disch := omega) only [vmE, liE, eE, seval, deE, fxE, retOf, maskA, setVals, getVals, putA, stripAt, AVal.strip, stripL, rd]
      · clear h
        rintro k57 _ ⟨m110, nL1_1⟩ ⟨s5, s37, rfl, hm, h⟩ J109 hJ109
        simp only [] at hm
        replace hm := hm.symm
        subst hm
        rcases k57 with _ | k57
        · simp only [jrd_Encode_L2, reduceCtorEq] at h
        rw [jrd_Encode_L2] at h
        refine AWp.known fun _ hkl => ?_
        simp only [] at hkl
        obtain ⟨_, hkl⟩ := keysLt_cons hkl
        obtain ⟨_, hkl⟩ := keysLt_cons hkl
        obtain ⟨_, hkl⟩ := keysLt_cons hkl
        clear hkl
        refine AWp.congr (by simp (disch := omega) only [vmE, liE, eE, seval, deE, fxE, retOf, maskA, setVals, getVals, putA, stripAt, AVal.strip, stripL, rd]; rfl) ?_
        refine awp_seq_k ?_
        intro K58 hK58
        refine awp_region' [] ?_
        intro K59 hK59
        simp (disch := omega) only [vmE, liE, eE, seval, deE, fxE, retOf, maskA, setVals, getVals, putA, stripAt, AVal.strip, stripL, rd]
        refine hK59 _ _ (kPost_normal (hK58 _ _ ?_))
        refine awp_seq_k ?_
        intro K60 hK60
        replace h := ite_some h
        rcases h with ⟨hc61, h⟩ | ⟨hc61, h⟩
        · refine awp_cond_t rfl hc61 ?_
          refine awp_skip ?_
          refine kPost_normal (hK60 _ _ ?_)
          refine awp_seq_k ?_
          intro K62 hK62
          refine awp_block_k ?_
          intro K63 hK63
          refine awp_seq_k ?_
          intro K64 hK64
          replace h := bind_some h
          rcases h with ⟨x66, hx67, h⟩
          refine awp_region' [] ?_
          intro K65 hK65
          simp (disch := omega) only [vmE, liE, eE, seval, deE, fxE, retOf, maskA, setVals, getVals, putA, stripAt, AVal.strip, stripL, rd, hc61, hx67]
          refine hK65 _ _ (kPost_normal (hK64 _ _ ?_))
          refine awp_seq_k ?_
          intro K68 hK68
          refine awp_region' [] ?_
          intro K69 hK69
          simp (disch := omega) only [vmE, liE, eE, seval, deE, fxE, retOf, maskA, setVals, getVals, putA, stripAt, AVal.strip, stripL, rd, hc61, hx67]
          refine hK69 _ _ (kPost_normal (hK68 _ _ ?_))
          refine awp_seq_k ?_
          intro K70 hK70
          replace h := bind_some h
          rcases h with ⟨y72, hy73, h⟩
          refine awp_region' [] ?_
          intro K71 hK71
          simp (disch := omega) only [vmE, liE, eE, seval, deE, fxE, retOf, maskA, setVals, getVals, putA, stripAt, AVal.strip, stripL, rd, hc61, hx67]
          refine ACall.of (jrd_object_add_w hy73 (i0 := (nL1_1 + 1)) (by simp (disch := omega) only [vmE, liE, eE, seval, deE, fxE, retOf, maskA, setVals, getVals, putA, stripAt, AVal.strip, stripL, rd])) ?_ ?_
          · first | (simp (disch := omega) only [vmE, liE, eE, seval, deE, fxE, retOf, maskA, setVals, getVals, putA, stripAt, AVal.strip, stripL, rd, hc61, hx67]) | rfl
          rintro _ ⟨m75, n74⟩ hn74 ⟨rfl, hm⟩
          simp (disch := omega) only [vmE, liE, eE, seval] at hn74 hm
          replace hm := hm.symm
          subst hm
          simp (disch := omega) only [vmE, liE, eE, seval, deE, fxE, retOf, maskA, setVals, getVals, putA, stripAt, AVal.strip, stripL, rd, hc61, hx67]
          refine hK71 _ _ (kPost_normal (hK70 _ _ ?_))
          refine awp_seq_k ?_
          intro K76 hK76
          replace h := bind_some h
          rcases h with ⟨y78, hy79, h⟩
          refine awp_region' [] ?_
          intro K77 hK77
          simp (disch := omega) only [vmE, liE, eE, seval, deE, fxE, retOf, maskA, setVals, getVals, putA, stripAt, AVal.strip, stripL, rd, hc61, hx67]
          refine ACall.of (jrd_object_text_w hy79 (i0 := (nL1_1 + 1)) (by simp (disch := omega) only [vmE, liE, eE, seval, deE, fxE, retOf, maskA, setVals, getVals, putA, stripAt, AVal.strip, stripL, rd])) ?_ ?_
          · first | (simp (disch := omega) only [vmE, liE, eE, seval, deE, fxE, retOf, maskA, setVals, getVals, putA, stripAt, AVal.strip, stripL, rd, hc61, hx67]) | rfl
          rintro _ ⟨m81, n80⟩ hn80 ⟨rfl, hm⟩
          simp (disch := omega) only [vmE, liE, eE, seval] at hn80 hm
          replace hm := hm.symm
          subst hm
          simp (disch := omega) only [vmE, liE, eE, seval, deE, fxE, retOf, maskA, setVals, getVals, putA, stripAt, AVal.strip, stripL, rd, hc61, hx67]
          refine hK77 _ _ (kPost_normal (hK76 _ _ ?_))
          refine awp_seq_k ?_
          intro K82 hK82
          replace h := bind_some h
          rcases h with ⟨y84, hy85, h⟩
          refine awp_region' [] ?_
          intro K83 hK83
          simp (disch := omega) only [vmE, liE, eE, seval, deE, fxE, retOf, maskA, setVals, getVals, putA, stripAt, AVal.strip, stripL, rd, hc61, hx67]
          refine ACall.of (jrd_object_text_w hy85 (i0 := (nL1_1 + 1)) (by simp (disch := omega) only [vmE, liE, eE, seval, deE, fxE, retOf, maskA, setVals, getVals, putA, stripAt, AVal.strip, stripL, rd])) ?_ ?_
          · first | (simp (disch := omega) only [vmE, liE, eE, seval, deE, fxE, retOf, maskA, setVals, getVals, putA, stripAt, AVal.strip, stripL, rd, hc61, hx67]) | rfl
          rintro _ ⟨m87, n86⟩ hn86 ⟨rfl, hm⟩
          simp (disch := omega) only [vmE, liE, eE, seval] at hn86 hm
          replace hm := hm.symm
          subst hm
          simp (disch := omega) only [vmE, liE, eE, seval, deE, fxE, retOf, maskA, setVals, getVals, putA, stripAt, AVal.strip, stripL, rd, hc61, hx67]
          refine hK83 _ _ (kPost_normal (hK82 _ _ ?_))
          refine awp_seq_k ?_
          intro K88 hK88
          replace h := bind_some h
          rcases h with ⟨y90, hy91, h⟩
          refine awp_region' [] ?_
          intro K89 hK89
          simp (disch := omega) only [vmE, liE, eE, seval, deE, fxE, retOf, maskA, setVals, getVals, putA, stripAt, AVal.strip, stripL, rd, hc61, hx67]
          refine ACall.of (jrd_object_text_w hy91 (i0 := (nL1_1 + 1)) (by simp (disch := omega) only [vmE, liE, eE, seval, deE, fxE, retOf, maskA, setVals, getVals, putA, stripAt, AVal.strip, stripL, rd])) ?_ ?_
          · first | (simp (disch := omega) only [vmE, liE, eE, seval, deE, fxE, retOf, maskA, setVals, getVals, putA, stripAt, AVal.strip, stripL, rd, hc61, hx67]) | rfl
          rintro _ ⟨m93, n92⟩ hn92 ⟨rfl, hm⟩
          simp (disch := omega) only [vmE, liE, eE, seval] at hn92 hm
          replace hm := hm.symm
          subst hm
          simp (disch := omega) only [vmE, liE, eE, seval, deE, fxE, retOf, maskA, setVals, getVals, putA, stripAt, AVal.strip, stripL, rd, hc61, hx67]
          refine hK89 _ _ (kPost_normal (hK88 _ _ ?_))
          refine awp_seq_k ?_
          intro K94 hK94
          replace h := bind_some h
          rcases h with ⟨y96, hy97, h⟩
          refine awp_region' [] ?_
          intro K95 hK95
          simp (disch := omega) only [vmE, liE, eE, seval, deE, fxE, retOf, maskA, setVals, getVals, putA, stripAt, AVal.strip, stripL, rd, hc61, hx67]
          refine ACall.of (jrd_object_properties_w hy97 (i0 := (nL1_1 + 1)) (by simp (disch := omega) only [vmE, liE, eE, seval, deE, fxE, retOf, maskA, setVals, getVals, putA, stripAt, AVal.strip, stripL, rd])) ?_ ?_
          · first | (simp (disch := omega) only [vmE, liE, eE, seval, deE, fxE, retOf, maskA, setVals, getVals, putA, stripAt, AVal.strip, stripL, rd, hc61, hx67]) | rfl
          rintro _ ⟨m99, n98⟩ hn98 ⟨rfl, hm⟩
          simp (disch := omega) only [vmE, liE, eE, seval] at hn98 hm
          replace hm := hm.symm
          subst hm
          simp (disch := omega) only [vmE, liE, eE, seval, deE, fxE, retOf, maskA, setVals, getVals, putA, stripAt, AVal.strip, stripL, rd, hc61, hx67]
          refine hK95 _ _ (kPost_normal (hK94 _ _ ?_))
          refine awp_seq_k ?_
          intro K100 hK100
          replace h := bind_some h
          rcases h with ⟨y102, hy103, h⟩
          refine awp_region' [] ?_
          intro K101 hK101
          simp (disch := omega) only [vmE, liE, eE, seval, deE, fxE, retOf, maskA, setVals, getVals, putA, stripAt, AVal.strip, stripL, rd, hc61, hx67]
          refine ACall.of (jrd_object_properties_w hy103 (i0 := (nL1_1 + 1)) (by simp (disch := omega) only [vmE, liE, eE, seval, deE, fxE, retOf, maskA, setVals, getVals, putA, stripAt, AVal.strip, stripL, rd])) ?_ ?_
          · first | (simp (disch := omega) only [vmE, liE, eE, seval, deE, fxE, retOf, maskA, setVals, getVals, putA, stripAt, AVal.strip, stripL, rd, hc61, hx67]) | rfl
          rintro _ ⟨m105, n104⟩ hn104 ⟨rfl, hm⟩
          simp (disch := omega) only [vmE, liE, eE, seval] at hn104 hm
          replace hm := hm.symm
          subst hm
          simp (disch := omega) only [vmE, liE, eE, seval, deE, fxE, retOf, maskA, setVals, getVals, putA, stripAt, AVal.strip, stripL, rd, hc61, hx67]
          refine hK101 _ _ (kPost_normal (hK100 _ _ ?_))
          replace h := grd_some h
          rcases h with ⟨hg107, h⟩
          try simp only [liE, seval] at hg107
          refine awp_region' [62] ?_
          intro K106 hK106
          simp (disch := omega) only [vmE, liE, eE, seval, deE, fxE, retOf, maskA, setVals, getVals, putA, stripAt, AVal.strip, stripL, rd, hc61, hx67, hg107]
          refine hK106 _ _ (bPost_normal (hK63 _ _ (kPost_normal (hK62 _ _ ?_))))
          refine awp_region' [] ?_
          intro K108 hK108
          simp (disch := omega) only [vmE, liE, eE, seval, deE, fxE, retOf, maskA, setVals, getVals, putA, stripAt, AVal.strip, stripL, rd, hc61, hx67, hg107]
          refine hK108 _ _ (kPost_normal (hJ109 k57 _ _ _ (Nat.lt_succ_self _) (.cons _ (.cons _ (List.Sublist.refl _))) ?_ ⟨(s5 ++ [y102.value]), (wr .i64 (s37 + 1)), ?_, ?_, h⟩)) <;> simp (disch := omega) only [vmE, liE, eE, seval, deE, fxE, retOf, maskA, setVals, getVals, putA, stripAt, AVal.strip, stripL, rd, hc61, hx67, hg107]
        · refine awp_cond_f rfl hc61 ?_
          refine awp_exit ?_
          refine kPost_exit (kPost_exit (bPost_here (hK56 _ _ (kPost_normal (hJ119 _ _ _ (List.Sublist.refl _) ?_ ⟨s5, ?_, ?_, h⟩))))) <;> simp (disch := omega) only [vmE, liE, eE, seval, deE, fxE, retOf, maskA, setVals, getVals, putA, stripAt, AVal.strip, stripL, rd, hc61]
  · intro J120 hJ120
    refine awp_seq_k ?_
    intro K18 hK18
    refine awp_region' [] ?_
    intro K19 hK19
    simp (disch := omega) only [vmE, liE, eE, seval, deE, fxE, retOf, maskA, setVals, getVals, putA, stripAt, AVal.strip, stripL, rd]
    refine hK19 _ _ (kPost_normal (hK18 _ _ ?_))
    refine awp_block_k ?_
    intro K20 hK20
    refine awp_loop_v [7, 20, 21, 22, 23, 24, 25, 26, 27, 28] [4, 19] (fun k vs st' => ∃ (s4 : (List ApiValue)) (s19 : Int), vs = [.slice 4 (List.map encApiValue s4) true, .int .i64 s19] ∧ st'.m = ((n + 2), [.int .i64 y7.value.kind, .str y7.value.text, .slice 1 (List.map AVal.str y7.value.keys) true, .slice 4 (List.map encApiValue y7.value.items) true]) :: ((n + 1), [.int .i64 0, .str [], .slice 1 (List.map AVal.str []) true, .slice 4 (List.map encApiValue []) true]) :: (n, [.str a0.subject, .slice 1 (List.map AVal.str a0.aliases) false, .slice 3 (List.map encApiProperty a0.properties) false, .slice 6 (List.map encApiLink a0.links) false]) :: m ∧ jrd_Encode_L1 N a0 k15 k s4 s19 = some r) N ⟨[], 0, ?_, ?_, h⟩ ?_
    · simp (disch := omega) only [vmE, liE, eE, seval, deE, fxE, retOf, maskA, setVals, getVals, putA, stripAt, AVal.strip, stripL, rd]
    · simp (disch := omega) only [vmE, liE, eE, seval, deE, fxE, retOf, maskA, setVals, getVals, putA, stripAt, AVal.strip, stripL, rd]
    · clear h
      rintro k21 _ ⟨m36, nL0_1⟩ ⟨s4, s19, rfl, hm, h⟩ J35 hJ35
      simp only [] at hm
      replace hm := hm.symm
      subst hm
      rcases k21 with _ | k21
      · simp only [jrd_Encode_L1, reduceCtorEq] at h
      rw [jrd_Encode_L1] at h
      refine AWp.known fun _ hkl => ?_
      simp only [] at hkl
      obtain ⟨_, hkl⟩ := keysLt_cons hkl
      obtain ⟨_, hkl⟩ := keysLt_cons hkl
      obtain ⟨_, hkl⟩ := keysLt_cons hkl
      clear hkl
      refine AWp.congr (by simp (disch := omega) only [vmE, liE, eE, seval, deE, fxE, retOf, maskA, setVals, getVals, putA, stripAt, AVal.strip, stripL, rd]; rfl) ?_
      refine awp_seq_k ?_
      intro K22 hK22
      refine awp_region' [] ?_
      intro K23 hK23
      simp (disch := omega) only [vmE, liE, eE, seval, deE, fxE, retOf, maskA, setVals, getVals, putA, stripAt, AVal.strip, stripL, rd]
      refine hK23 _ _ (kPost_normal (hK22 _ _ ?_))
      refine awp_seq_k ?_
      intro K24 hK24
      replace h := ite_some h
      rcases h with ⟨hc25, h⟩ | ⟨hc25, h⟩
      · refine awp_cond_t rfl hc25 ?_
        refine awp_skip ?_
        refine kPost_normal (hK24 _ _ ?_)
        refine awp_seq_k ?_
        intro K26 hK26
        refine awp_block_k ?_
        intro K27 hK27
        refine awp_seq_k ?_
        intro K28 hK28
        replace h := bind_some h
        rcases h with ⟨x30, hx31, h⟩
        refine awp_region' [] ?_
        intro K29 hK29
        simp (disch := omega) only [vmE, liE, eE, seval, deE, fxE, retOf, maskA, setVals, getVals, putA, stripAt, AVal.strip, stripL, rd, hc25, hx31]
        refine hK29 _ _ (kPost_normal (hK28 _ _ ?_))
        replace h := grd_some h
        rcases h with ⟨hg33, h⟩
        try simp only [liE, seval] at hg33
        refine awp_region' [23] ?_
        intro K32 hK32
        simp (disch := omega) only [vmE, liE, eE, seval, deE, fxE, retOf, maskA, setVals, getVals, putA, stripAt, AVal.strip, stripL, rd, hc25, hx31, hg33]
        refine hK32 _ _ (bPost_normal (hK27 _ _ (kPost_normal (hK26 _ _ ?_))))
        refine awp_region' [] ?_
        intro K34 hK34
        simp (disch := omega) only [vmE, liE, eE, seval, deE, fxE, retOf, maskA, setVals, getVals, putA, stripAt, AVal.strip, stripL, rd, hc25, hx31, hg33]
        refine hK34 _ _ (kPost_normal (hJ35 k21 _ _ _ (Nat.lt_succ_self _) (List.Sublist.refl _) ?_ ⟨(s4 ++ [(ApiValue.mk 5 x30 [] [])]), (wr .i64 (s19 + 1)), ?_, ?_, h⟩)) <;> simp (disch := omega) only [vmE, liE, eE, seval, deE, fxE, retOf, maskA, setVals, getVals, putA, stripAt, AVal.strip, stripL, rd, hc25, hx31, hg33]
      · refine awp_cond_f rfl hc25 ?_
        refine awp_exit ?_
        refine kPost_exit (kPost_exit (bPost_here (hK20 _ _ (kPost_normal (hJ120 _ _ _ (List.Sublist.refl _) ?_ ⟨s4, ?_, ?_, h⟩))))) <;> simp (disch := omega) only [vmE, liE, eE, seval, deE, fxE, retOf, maskA, setVals, getVals, putA, stripAt, AVal.strip, stripL, rd, hc25]
end Go.Proofs.Ytdbeiialamganaa
