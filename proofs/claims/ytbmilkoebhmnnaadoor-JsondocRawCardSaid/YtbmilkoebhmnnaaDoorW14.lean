/- That the code computes these functions; written by decomp.py. -/
import Derived.Test.YtbmilkoebhmnnaaDoorVmFacts
import Derived.Test.YtbmilkoebhmnnaaDoorDefs
import Derived.Test.YtbmilkoebhmnnaaDoorVM2
import Derived.Test.YtbmilkoebhmnnaaDoorW0
import Derived.Test.YtbmilkoebhmnnaaDoorW1
import Derived.Test.YtbmilkoebhmnnaaDoorW3
import Derived.Test.YtbmilkoebhmnnaaDoorW11
import Derived.Test.YtbmilkoebhmnnaaDoorW12
import Derived.Test.YtbmilkoebhmnnaaDoorW13
set_option linter.unusedVariables false
set_option linter.unusedSimpArgs false
set_option maxHeartbeats 4000000
set_option maxRecDepth 100000
set_option linter.defProp false
namespace Go.Proofs.YtbmilkoebhmnnaaDoor
open Go.VM
variable {N n : Nat} {m : MS} {Q : PQ} {args : List AVal}
theorem law14_JsondocDepth_w {a0 a1 r} (h : law14_JsondocDepth N a0 a1 = some r) (ha : args = [.int .u8 a0, .bool a1]) (hQ : ∀ n', n ≤ n' → Gl (Q (.bool r) ⟨m, n'⟩)) : ACall vE 3 args ⟨m, n⟩ Q := by
 rw [law14_JsondocDepth] at h
 subst ha
 refine ent hQ Tryd.func3 rfl Tryd.ntmps3 Tryd.results3 (.q (.r []) (.q (.q (.r []) (.c (.q (.r []) .z) .z)) (.q (.r []) .z))) fun R hR => ?_
 replace h := And.intro trivial h
 replace h := bind_a h
 obtain ⟨y1, h⟩ := h
 simp (maxSteps := 10000000) (disch := omega) only [vm, seval, h.1]
 refine ⟨law14_sane_w h.1.1 (by first | (simp (maxSteps := 10000000) (disch := omega) only [vm, seval, h.1]; done) | rfl) fun n2 hn2 => ?_⟩
 replace h := ite_a h
 rcases h with h | h
 simp (maxSteps := 10000000) (disch := omega) only [vm, seval, h.1]
 refine ⟨sjoin (γ := Unit) h [16] [5, 6] (fun j3 g => [.str j3.1, .str j3.2]) (fun j3 g => m) (.q (.r []) (.c (.r []) .z)) ?_ ?_⟩ <;> clear h
 rintro j3 _ n6 hnn6 _ _ h
 refine wpc_snd (.q (.r []) .z) ?_
 simp (maxSteps := 10000000) (disch := omega) only [vm, seval, h.1]
 refine ⟨sjoin (γ := Unit) h [9, 20, 21, 22, 23, 24, 25, 26, 27] [8] (fun j7 g => [.str j7]) (fun j7 g => m) (.q (.r []) .z) ?_ ?_⟩ <;> clear h
 rintro j7 _ n10 hnn10 _ _ h
 refine wpc_snd (.q (.r []) .z) ?_
 replace h := grd_a h
 obtain ⟨c, h⟩ := h
 try simp only [liE, seval] at c
 replace h := and_in c h
 simp (maxSteps := 10000000) (disch := omega) only [vm, seval, h.1]
 refine ⟨sjoin (γ := Unit) h [10, 30, 31, 32, 33, 34, 35, 36, 37] [8] (fun j12 g => [.str j12]) (fun j12 g => m) (.q (.r []) .z) ?_ ?_⟩ <;> clear h
 rintro j12 _ n15 hnn15 _ _ h
 refine wpc_snd (.q (.r []) (.q (.q (.r []) (.c (.q (.r []) .z) .z)) (.q (.r []) .z))) ?_
 replace h := bind_a h
 obtain ⟨y17, h⟩ := h
 simp (maxSteps := 10000000) (disch := omega) only [vm, seval, h.1]
 refine ⟨jsondoc_Parse_w h.1.1 (by first | (simp (maxSteps := 10000000) (disch := omega) only [vm, seval, h.1]; done) | rfl) fun n18 hn18 => ?_⟩
 replace h := ite_a h
 rcases h with h | h
 replace h := ite_a h
 rcases h with h | h
 replace h := ite_a h
 rcases h with h | h
 obtain ⟨H, h⟩ := h
 cases h
 simp (maxSteps := 10000000) (disch := omega) only [vm, seval, H]
 refine ⟨(hR _ _ _ _ _ _ (by simp (maxSteps := 10000000) (disch := omega) only [vm, seval, H]; rfl) (.cons _ (List.Sublist.refl _)) ?_ (by omega) ?_).1⟩ <;> first | (simp (maxSteps := 10000000) (disch := omega) only [vm, seval, H]; done) | rfl
 obtain ⟨H, h⟩ := h
 cases h
 simp (maxSteps := 10000000) (disch := omega) only [vm, seval, H]
 refine ⟨(hR _ _ _ _ _ _ (by simp (maxSteps := 10000000) (disch := omega) only [vm, seval, H]; rfl) (.cons _ (List.Sublist.refl _)) ?_ (by omega) ?_).1⟩ <;> first | (simp (maxSteps := 10000000) (disch := omega) only [vm, seval, H]; done) | rfl
 obtain ⟨H, h⟩ := h
 cases h
 simp (maxSteps := 10000000) (disch := omega) only [vm, seval, H]
 refine ⟨(hR _ _ _ _ _ _ (by simp (maxSteps := 10000000) (disch := omega) only [vm, seval, H]; rfl) (.cons _ (List.Sublist.refl _)) ?_ (by omega) ?_).1⟩ <;> first | (simp (maxSteps := 10000000) (disch := omega) only [vm, seval, H]; done) | rfl
 replace h := ite_a h
 rcases h with h | h
 obtain ⟨H, h⟩ := h
 cases h
 simp (maxSteps := 10000000) (disch := omega) only [vm, seval, H]
 refine ⟨(hR _ _ _ _ _ _ (by simp (maxSteps := 10000000) (disch := omega) only [vm, seval, H]; rfl) (.cons _ (List.Sublist.refl _)) ?_ (by omega) ?_).1⟩ <;> first | (simp (maxSteps := 10000000) (disch := omega) only [vm, seval, H]; done) | rfl
 obtain ⟨H, h⟩ := h
 cases h
 simp (maxSteps := 10000000) (disch := omega) only [vm, seval, H]
 refine ⟨(hR _ _ _ _ _ _ (by simp (maxSteps := 10000000) (disch := omega) only [vm, seval, H]; rfl) (.cons _ (List.Sublist.refl _)) ?_ (by omega) ?_).1⟩ <;> first | (simp (maxSteps := 10000000) (disch := omega) only [vm, seval, H]; done) | rfl
 intro k13 Jk13 hk13 h
 replace h := grd_a h
 obtain ⟨hfk16, h⟩ := h
 simp (maxSteps := 10000000) (disch := omega) only [vm, seval, h.1]
 refine ⟨sloopc (σ := (List UInt8)) (γ := Unit) 0 (wr .i64 (a0.tmod 70)) hfk16 (fun xs i s => law14_JsondocDepth_L2 N j3 k13 xs s) (fun i s g => [.str s, .int .i64 i]) (fun i s g => m) [30, 31, 32, 33, 34, 35, 36, 37] [8, 10] (j7 ++ ([49] : List UInt8)) () h (by first | (simp (maxSteps := 10000000) (disch := omega) only [vm, seval, h.1]; done) | rfl) (by first | (simp (maxSteps := 10000000) (disch := omega) only [vm, seval, h.1]; done) | rfl) ?_ ?_⟩ <;> clear h
 rintro s10 s8 _ nL1_1 hnL1_1 _ h
 change _ ∧ law14_JsondocDepth_L2 N j3 k13 0 s8 = _ at h
 rw [law14_JsondocDepth_L2] at h
 refine wpc_snd (.q (.q (.r []) (.c .z .z)) (.q (.r []) (.r []))) ?_
 simp (maxSteps := 10000000) (disch := omega) only [vm, seval, h.1]
 refine ⟨hk13 s8 () _ _ _ _ h.2 (List.Sublist.refl _) ?_ ?_ ?_ (by omega)⟩ <;> first | (simp (maxSteps := 10000000) (disch := omega) only [vm, seval, h.1]; done) | rfl
 rintro xsk16 s10 s8 _ nL1_1 hnL1_1 _ h Jk16 hk16
 change _ ∧ law14_JsondocDepth_L2 N j3 k13 (xsk16 + 1) s8 = _ at h
 rw [law14_JsondocDepth_L2] at h
 refine wpc_snd (.q (.q (.r []) (.c .z .z)) (.q (.r []) (.r []))) ?_
 replace h := grd_a h
 obtain ⟨c, h⟩ := h
 try simp only [liE, seval] at c
 replace h := and_in c h
 simp (maxSteps := 10000000) (disch := omega) only [vm, seval, h.1]
 refine ⟨hk16 (s8 ++ j3.2) () _ _ _ _ h.2 (List.Sublist.refl _) ?_ ?_ ?_ (by omega)⟩ <;> first | (simp (maxSteps := 10000000) (disch := omega) only [vm, seval, h.1]; done) | rfl
 intro k8 Jk8 hk8 h
 replace h := grd_a h
 obtain ⟨hfk11, h⟩ := h
 simp (maxSteps := 10000000) (disch := omega) only [vm, seval, h.1]
 refine ⟨sloopc (σ := (List UInt8)) (γ := Unit) 0 (wr .i64 (a0.tmod 70)) hfk11 (fun xs i s => law14_JsondocDepth_L1 N j3 k8 xs s) (fun i s g => [.str s, .int .i64 i]) (fun i s g => m) [20, 21, 22, 23, 24, 25, 26, 27] [8, 9] [] () h (by first | (simp (maxSteps := 10000000) (disch := omega) only [vm, seval, h.1]; done) | rfl) (by first | (simp (maxSteps := 10000000) (disch := omega) only [vm, seval, h.1]; done) | rfl) ?_ ?_⟩ <;> clear h
 rintro s9 s8 _ nL0_1 hnL0_1 _ h
 change _ ∧ law14_JsondocDepth_L1 N j3 k8 0 s8 = _ at h
 rw [law14_JsondocDepth_L1] at h
 refine wpc_snd (.q (.q (.r []) (.c .z .z)) (.q (.r []) (.r []))) ?_
 simp (maxSteps := 10000000) (disch := omega) only [vm, seval, h.1]
 refine ⟨hk8 s8 () _ _ _ _ h.2 (List.Sublist.refl _) ?_ ?_ ?_ (by omega)⟩ <;> first | (simp (maxSteps := 10000000) (disch := omega) only [vm, seval, h.1]; done) | rfl
 rintro xsk11 s9 s8 _ nL0_1 hnL0_1 _ h Jk11 hk11
 change _ ∧ law14_JsondocDepth_L1 N j3 k8 (xsk11 + 1) s8 = _ at h
 rw [law14_JsondocDepth_L1] at h
 refine wpc_snd (.q (.q (.r []) (.c .z .z)) (.q (.r []) (.r []))) ?_
 replace h := grd_a h
 obtain ⟨c, h⟩ := h
 try simp only [liE, seval] at c
 replace h := and_in c h
 simp (maxSteps := 10000000) (disch := omega) only [vm, seval, h.1]
 refine ⟨hk11 (s8 ++ j3.1) () _ _ _ _ h.2 (List.Sublist.refl _) ?_ ?_ ?_ (by omega)⟩ <;> first | (simp (maxSteps := 10000000) (disch := omega) only [vm, seval, h.1]; done) | rfl
 intro k4 Jk4 hk4 h
 replace h := ite_a h
 rcases h with h | h
 simp (maxSteps := 10000000) (disch := omega) only [vm, seval, h.1]
 refine ⟨hk4 (([123, 34, 97, 34, 58] : List UInt8), ([125] : List UInt8)) () _ _ _ _ h.2 (List.Sublist.refl _) ?_ ?_ ?_ (by omega)⟩ <;> first | (simp (maxSteps := 10000000) (disch := omega) only [vm, seval, h.1]; done) | rfl
 simp (maxSteps := 10000000) (disch := omega) only [vm, seval, h.1]
 refine ⟨hk4 (([91] : List UInt8), ([93] : List UInt8)) () _ _ _ _ h.2 (List.Sublist.refl _) ?_ ?_ ?_ (by omega)⟩ <;> first | (simp (maxSteps := 10000000) (disch := omega) only [vm, seval, h.1]; done) | rfl
 obtain ⟨H, h⟩ := h
 cases h
 simp (maxSteps := 10000000) (disch := omega) only [vm, seval, H]
 refine ⟨(hR _ _ _ _ _ _ (by simp (maxSteps := 10000000) (disch := omega) only [vm, seval, H]; rfl) (List.Sublist.refl _) ?_ (by omega) ?_).1⟩ <;> first | (simp (maxSteps := 10000000) (disch := omega) only [vm, seval, H]; done) | rfl
theorem law14_JsondocRaw_w {a0 a1 r} (h : law14_JsondocRaw N a0 a1 = some r) (ha : args = [encApiValue a0, .str a1]) (hQ : ∀ n', n ≤ n' → Gl (Q (.bool r) ⟨m, n'⟩)) : ACall vE 5 args ⟨m, n⟩ Q := by
 rw [law14_JsondocRaw] at h
 subst ha
 refine ent hQ Tryd.func5 rfl Tryd.ntmps5 Tryd.results5 (.q (.r []) (.q (.q (.r []) (.c (.q (.r []) .z) .z)) (.q (.q (.r []) (.c (.q (.r []) .z) .z)) (.q (.r []) (.q (.r []) (.q (.r []) .z)))))) fun R hR => ?_
 replace h := And.intro trivial h
 replace h := bind_a h
 obtain ⟨y1, h⟩ := h
 simp (maxSteps := 10000000) (disch := omega) only [vm, seval, h.1]
 refine ⟨law14_sane_w h.1.1 (by first | (simp (maxSteps := 10000000) (disch := omega) only [vm, seval, h.1]; done) | rfl) fun n2 hn2 => ?_⟩
 replace h := ite_a h
 rcases h with h | h
 replace h := bind_a h
 obtain ⟨y3, h⟩ := h
 simp (maxSteps := 10000000) (disch := omega) only [vm, seval, h.1]
 refine ⟨keep_Value_w h.1.1 (by first | (simp (maxSteps := 10000000) (disch := omega) only [vm, seval, h.1]; done) | rfl) fun n4 hn4 => ?_⟩
 replace h := ite_a h
 rcases h with h | h
 replace h := bind_a h
 obtain ⟨y5, h⟩ := h
 simp (maxSteps := 10000000) (disch := omega) only [vm, seval, h.1]
 refine ⟨jsondoc_Get_w h.1.1 (by first | (simp (maxSteps := 10000000) (disch := omega) only [vm, seval, h.1]; done) | rfl) fun n6 hn6 => ?_⟩
 replace h := bind_a h
 obtain ⟨y7, h⟩ := h
 simp (maxSteps := 10000000) (disch := omega) only [vm, seval, h.1]
 refine ⟨ref14_Get_w h.1.1 (by first | (simp (maxSteps := 10000000) (disch := omega) only [vm, seval, h.1]; done) | rfl) fun n8 hn8 => ?_⟩
 replace h := ite_a h
 rcases h with h | h
 replace h := bind_a h
 obtain ⟨y9, h⟩ := h
 simp (maxSteps := 10000000) (disch := omega) only [vm, seval, h.1]
 refine ⟨ref14_Same_w h.1.1 (by first | (simp (maxSteps := 10000000) (disch := omega) only [vm, seval, h.1]; done) | rfl) fun n10 hn10 => ?_⟩
 obtain ⟨H, h⟩ := h
 cases h
 simp (maxSteps := 10000000) (disch := omega) only [vm, seval, H]
 refine ⟨(hR _ _ _ _ _ _ (by simp (maxSteps := 10000000) (disch := omega) only [vm, seval, H]; rfl) (.cons _ (.cons _ (.cons _ (List.Sublist.refl _)))) ?_ (by omega) ?_).1⟩ <;> first | (simp (maxSteps := 10000000) (disch := omega) only [vm, seval, H]; done) | rfl
 obtain ⟨H, h⟩ := h
 cases h
 simp (maxSteps := 10000000) (disch := omega) only [vm, seval, H]
 refine ⟨(hR _ _ _ _ _ _ (by simp (maxSteps := 10000000) (disch := omega) only [vm, seval, H]; rfl) (.cons _ (.cons _ (.cons _ (List.Sublist.refl _)))) ?_ (by omega) ?_).1⟩ <;> first | (simp (maxSteps := 10000000) (disch := omega) only [vm, seval, H]; done) | rfl
 obtain ⟨H, h⟩ := h
 cases h
 simp (maxSteps := 10000000) (disch := omega) only [vm, seval, H]
 refine ⟨(hR _ _ _ _ _ _ (by simp (maxSteps := 10000000) (disch := omega) only [vm, seval, H]; rfl) (.cons _ (List.Sublist.refl _)) ?_ (by omega) ?_).1⟩ <;> first | (simp (maxSteps := 10000000) (disch := omega) only [vm, seval, H]; done) | rfl
 obtain ⟨H, h⟩ := h
 cases h
 simp (maxSteps := 10000000) (disch := omega) only [vm, seval, H]
 refine ⟨(hR _ _ _ _ _ _ (by simp (maxSteps := 10000000) (disch := omega) only [vm, seval, H]; rfl) (.cons _ (List.Sublist.refl _)) ?_ (by omega) ?_).1⟩ <;> first | (simp (maxSteps := 10000000) (disch := omega) only [vm, seval, H]; done) | rfl
end Go.Proofs.YtbmilkoebhmnnaaDoor
