/- That the code computes these functions; written by decomp.py. -/
import Derived.Test.YtmdjjhakfoenpaaDoorVmFacts
import Derived.Test.YtmdjjhakfoenpaaDoorDefs
import Derived.Test.YtmdjjhakfoenpaaDoorVM2
set_option linter.unusedVariables false
set_option linter.unusedSimpArgs false
set_option maxHeartbeats 4000000
set_option maxRecDepth 100000
set_option linter.defProp false
namespace Go.Proofs.YtmdjjhakfoenpaaDoor
open Go.VM
variable {N n : Nat} {m : MS} {Q : PQ} {args : List AVal}
theorem ref01_In_w {a0 a1 r} (h : ref01_In N a0 a1 = some r) (ha : args = [.int .u8 a0, .str a1]) (hQ : ∀ n', n ≤ n' → Gl (Q (.bool r) ⟨m, n'⟩)) : ACall vE 23 args ⟨m, n⟩ Q := by
 rw [ref01_In] at h
 subst ha
 refine ent hQ Tryd.func23 rfl Tryd.ntmps23 Tryd.results23 (.q (.r []) .z) fun R hR => ?_
 replace h := And.intro trivial h
 simp (disch := omega) only [vm, seval, h.1]
 refine ⟨sjoin (γ := Unit) h [4, 5, 6, 7, 8, 9, 10, 11, 12, 13, 14, 15, 16] [] (fun j1 g => []) (fun j1 g => m) (.q (.r []) .z) ?_ ?_⟩ <;> clear h
 rintro j1 _ n4 hnn4 _ _ h
 refine wpc_snd (.q (.r []) .z) ?_
 obtain ⟨H, h⟩ := h
 cases h
 simp (disch := omega) only [vm, seval, H]
 refine ⟨(hR _ _ _ _ _ _ (by simp (disch := omega) only [vm, seval, H]; rfl) (List.Sublist.refl _) ?_ (by omega) ?_).1⟩ <;> first | (simp (disch := omega) only [vm, seval, H]; done) | rfl
 intro k2 Jk2 hk2 h
 replace h := grd_a h
 obtain ⟨hfk5, h⟩ := h
 simp (disch := omega) only [vm, seval, h.1]
 refine ⟨sloopr (σ := Unit) (γ := Unit) a1 hfk5 (fun xs i s => ref01_In_L1 N a0 k2 xs) (fun i s g => [.int .i64 i]) (fun i s g => m) [4, 6, 7, 8, 9, 10, 11, 12, 13, 14, 15, 16] [5] () () h (by first | (simp (disch := omega) only [vm, seval, h.1]; done) | rfl) (by first | (simp (disch := omega) only [vm, seval, h.1]; done) | rfl) ?_ ?_⟩ <;> clear h
 rintro s5 _ _ nL0_1 hnL0_1 _ h
 change _ ∧ ref01_In_L1 N a0 k2 [] = _ at h
 rw [ref01_In_L1] at h
 refine wpc_snd (.q (.q (.r []) (.c .z .z)) (.q (.q (.r []) (.c (.q (.r []) .z) .z)) (.r []))) ?_
 simp (disch := omega) only [vm, seval, h.1]
 refine ⟨hk2 () () _ _ _ _ h.2 (List.Sublist.refl _) ?_ ?_ ?_ (by omega)⟩ <;> first | (simp (disch := omega) only [vm, seval, h.1]; done) | rfl
 rintro xk5 xsk5 s5 _ _ nL0_1 hnL0_1 _ h Jk5 hk5
 change _ ∧ ref01_In_L1 N a0 k2 (xk5 :: xsk5) = _ at h
 rw [ref01_In_L1] at h
 refine wpc_snd (.q (.q (.r []) (.c .z .z)) (.q (.q (.r []) (.c (.q (.r []) .z) .z)) (.r []))) ?_
 replace h := ite_a h
 rcases h with h | h
 obtain ⟨H, h⟩ := h
 cases h
 simp (disch := omega) only [vm, seval, H]
 refine ⟨(hR _ _ _ _ _ _ (by simp (disch := omega) only [vm, seval, H]; rfl) (List.Sublist.refl _) ?_ (by omega) ?_).1⟩ <;> first | (simp (disch := omega) only [vm, seval, H]; done) | rfl
 simp (disch := omega) only [vm, seval, h.1]
 refine ⟨hk5 () () _ _ _ _ h.2 (List.Sublist.refl _) ?_ ?_ ?_ (by omega)⟩ <;> first | (simp (disch := omega) only [vm, seval, h.1]; done) | rfl
theorem ref02_point_w {a0 r} (h : ref02_point N a0 = some r) (ha : args = [.int .i64 a0]) (hQ : ∀ n', n ≤ n' → Gl (Q (.bool r) ⟨m, n'⟩)) : ACall vE 42 args ⟨m, n⟩ Q := by
 rw [ref02_point] at h
 subst ha
 refine ent hQ Tryd.func42 rfl Tryd.ntmps42 Tryd.results42 (.q (.r []) (.q (.r []) .z)) fun R hR => ?_
 replace h := And.intro trivial h
 replace h := ite_a h
 rcases h with h | h
 replace h := ite_a h
 rcases h with h | h
 replace h := ite_a h
 rcases h with h | h
 obtain ⟨H, h⟩ := h
 cases h
 simp (disch := omega) only [vm, seval, H]
 refine ⟨(hR _ _ _ _ _ _ (by simp (disch := omega) only [vm, seval, H]; rfl) (List.Sublist.refl _) ?_ (by omega) ?_).1⟩ <;> first | (simp (disch := omega) only [vm, seval, H]; done) | rfl
 obtain ⟨H, h⟩ := h
 cases h
 simp (disch := omega) only [vm, seval, H]
 refine ⟨(hR _ _ _ _ _ _ (by simp (disch := omega) only [vm, seval, H]; rfl) (List.Sublist.refl _) ?_ (by omega) ?_).1⟩ <;> first | (simp (disch := omega) only [vm, seval, H]; done) | rfl
 obtain ⟨H, h⟩ := h
 cases h
 simp (disch := omega) only [vm, seval, H]
 refine ⟨(hR _ _ _ _ _ _ (by simp (disch := omega) only [vm, seval, H]; rfl) (List.Sublist.refl _) ?_ (by omega) ?_).1⟩ <;> first | (simp (disch := omega) only [vm, seval, H]; done) | rfl
 obtain ⟨H, h⟩ := h
 cases h
 simp (disch := omega) only [vm, seval, H]
 refine ⟨(hR _ _ _ _ _ _ (by simp (disch := omega) only [vm, seval, H]; rfl) (List.Sublist.refl _) ?_ (by omega) ?_).1⟩ <;> first | (simp (disch := omega) only [vm, seval, H]; done) | rfl
theorem ref01_IsDigit_w {a0 r} (h : ref01_IsDigit N a0 = some r) (ha : args = [.int .u8 a0]) (hQ : ∀ n', n ≤ n' → Gl (Q (.bool r) ⟨m, n'⟩)) : ACall vE 25 args ⟨m, n⟩ Q := by
 rw [ref01_IsDigit] at h
 subst ha
 refine ent hQ Tryd.func25 rfl Tryd.ntmps25 Tryd.results25 (.q (.r []) (.q (.r []) .z)) fun R hR => ?_
 replace h := And.intro trivial h
 replace h := ite_a h
 rcases h with h | h
 obtain ⟨H, h⟩ := h
 cases h
 simp (disch := omega) only [vm, seval, H]
 refine ⟨(hR _ _ _ _ _ _ (by simp (disch := omega) only [vm, seval, H]; rfl) (List.Sublist.refl _) ?_ (by omega) ?_).1⟩ <;> first | (simp (disch := omega) only [vm, seval, H]; done) | rfl
 obtain ⟨H, h⟩ := h
 cases h
 simp (disch := omega) only [vm, seval, H]
 refine ⟨(hR _ _ _ _ _ _ (by simp (disch := omega) only [vm, seval, H]; rfl) (List.Sublist.refl _) ?_ (by omega) ?_).1⟩ <;> first | (simp (disch := omega) only [vm, seval, H]; done) | rfl
theorem ref02_value_w {a0 r} (h : ref02_value N a0 = some r) (ha : args = [.str a0]) (hQ : ∀ n', n ≤ n' → Gl (Q (.int .i64 r) ⟨m, n'⟩)) : ACall vE 69 args ⟨m, n⟩ Q := by
 rw [ref02_value] at h
 subst ha
 refine ent hQ Tryd.func69 rfl Tryd.ntmps69 Tryd.results69 (.q (.r []) (.q (.q (.r []) (.c (.q (.r []) .z) .z)) (.q .z .z))) fun R hR => ?_
 replace h := And.intro trivial h
 replace h := ite_a h
 rcases h with h | h
 replace h := bind_a h
 obtain ⟨x1, h⟩ := h
 obtain ⟨H, h⟩ := h
 cases h
 simp (disch := omega) only [vm, seval, H]
 refine ⟨(hR _ _ _ _ _ _ (by simp (disch := omega) only [vm, seval, H]; rfl) (List.Sublist.refl _) ?_ (by omega) ?_).1⟩ <;> first | (simp (disch := omega) only [vm, seval, H]; done) | rfl
 replace h := bind_a h
 obtain ⟨x2, h⟩ := h
 replace h := grd_a h
 obtain ⟨c, h⟩ := h
 try simp only [liE, seval] at c
 replace h := and_in c h
 simp (disch := omega) only [vm, seval, h.1]
 refine ⟨awp_drw [] (.take 0 (.take 1 (.take 2 (.take 3 (.take 4 (.take 5 (.take 6 (.take 7 (.take 8 (.alt 9 [] (.done) (.stop))))))))))) vE_mixed (by kernel_rfl) ?_⟩
 simp (disch := omega) only [vm, seval, h.1]
 refine ⟨sjoin (γ := Unit) h [4, 20, 21, 22, 23, 24, 25, 26, 27, 28, 29, 30, 31, 32, 33] [3] (fun j3 g => [.int .i64 j3]) (fun j3 g => m) (.q (.r []) .z) ?_ ?_⟩ <;> clear h
 rintro j3 _ n6 hnn6 _ _ h
 refine wpc_snd (.q (.r []) .z) ?_
 obtain ⟨H, h⟩ := h
 cases h
 simp (disch := omega) only [vm, seval, H]
 refine ⟨(hR _ _ _ _ _ _ (by simp (disch := omega) only [vm, seval, H]; rfl) (List.Sublist.refl _) ?_ (by omega) ?_).1⟩ <;> first | (simp (disch := omega) only [vm, seval, H]; done) | rfl
 intro k4 Jk4 hk4 h
 replace h := grd_a h
 obtain ⟨hfk7, h⟩ := h
 simp (disch := omega) only [vm, seval, h.1]
 refine ⟨sloopc (σ := Int) (γ := Unit) 1 (a0.length : Int) hfk7 (fun xs i s => ref02_value_L1 N a0 k4 xs i s) (fun i s g => [.int .i64 s, .int .i64 i]) (fun i s g => m) [20, 21, 22, 23, 24, 25, 26, 27, 28, 29, 30, 31, 32, 33] [3, 4] (bandI .i64 (wr .i64 (bord x2)) (wr .i64 ((shlI .i64 1 (wr .i64 (7 - (a0.length : Int)))) - 1))) () h (by first | (simp (disch := omega) only [vm, seval, h.1]; done) | rfl) (by first | (simp (disch := omega) only [vm, seval, h.1]; done) | rfl) ?_ ?_⟩ <;> clear h
 rintro s4 s3 _ nL0_1 hnL0_1 _ h
 change _ ∧ ref02_value_L1 N a0 k4 0 s4 s3 = _ at h
 rw [ref02_value_L1] at h
 refine wpc_snd (.q (.q (.r []) (.c .z .z)) (.q (.r []) (.r []))) ?_
 simp (disch := omega) only [vm, seval, h.1]
 refine ⟨hk4 s3 () _ _ _ _ h.2 (List.Sublist.refl _) ?_ ?_ ?_ (by omega)⟩ <;> first | (simp (disch := omega) only [vm, seval, h.1]; done) | rfl
 rintro xsk7 s4 s3 _ nL0_1 hnL0_1 _ h Jk7 hk7
 change _ ∧ ref02_value_L1 N a0 k4 (xsk7 + 1) s4 s3 = _ at h
 rw [ref02_value_L1] at h
 refine wpc_snd (.q (.q (.r []) (.c .z .z)) (.q (.r []) (.r []))) ?_
 replace h := bind_a h
 obtain ⟨x8, h⟩ := h
 simp (disch := omega) only [vm, seval, h.1]
 refine ⟨hk7 (borI .i64 (shlI .i64 s3 6) (bandI .i64 (wr .i64 (bord x8)) 63)) () _ _ _ _ h.2 (List.Sublist.refl _) ?_ ?_ ?_ (by omega)⟩ <;> first | (simp (disch := omega) only [vm, seval, h.1]; done) | rfl
theorem ref13_tail_w {a0 a1 r} (h : ref13_tail N a0 a1 = some r) (ha : args = [.str a0, .int .i64 a1]) (hQ : ∀ n', n ≤ n' → Gl (Q (.str r) ⟨m, n'⟩)) : ACall vE 40 args ⟨m, n⟩ Q := by
 rw [ref13_tail] at h
 subst ha
 refine ent hQ Tryd.func40 rfl Tryd.ntmps40 Tryd.results40 (.q (.r []) (.q (.q (.r []) (.c (.q (.r []) .z) .z)) (.q (.r []) .z))) fun R hR => ?_
 replace h := And.intro trivial h
 replace h := ite_a h
 rcases h with h | h
 obtain ⟨H, h⟩ := h
 cases h
 simp (disch := omega) only [vm, seval, H]
 refine ⟨(hR _ _ _ _ _ _ (by simp (disch := omega) only [vm, seval, H]; rfl) (List.Sublist.refl _) ?_ (by omega) ?_).1⟩ <;> first | (simp (disch := omega) only [vm, seval, H]; done) | rfl
 replace h := bind_a h
 obtain ⟨x1, h⟩ := h
 obtain ⟨H, h⟩ := h
 cases h
 simp (disch := omega) only [vm, seval, H]
 refine ⟨(hR _ _ _ _ _ _ (by simp (disch := omega) only [vm, seval, H]; rfl) (List.Sublist.refl _) ?_ (by omega) ?_).1⟩ <;> first | (simp (disch := omega) only [vm, seval, H]; done) | rfl
theorem ref01_IsAlpha_w {a0 r} (h : ref01_IsAlpha N a0 = some r) (ha : args = [.int .u8 a0]) (hQ : ∀ n', n ≤ n' → Gl (Q (.bool r) ⟨m, n'⟩)) : ACall vE 27 args ⟨m, n⟩ Q := by
 rw [ref01_IsAlpha] at h
 subst ha
 refine ent hQ Tryd.func27 rfl Tryd.ntmps27 Tryd.results27 (.q (.r []) (.q (.r []) .z)) fun R hR => ?_
 replace h := And.intro trivial h
 replace h := ite_a h
 rcases h with h | h
 replace h := ite_a h
 rcases h with h | h
 obtain ⟨H, h⟩ := h
 cases h
 simp (disch := omega) only [vm, seval, H]
 refine ⟨(hR _ _ _ _ _ _ (by simp (disch := omega) only [vm, seval, H]; rfl) (List.Sublist.refl _) ?_ (by omega) ?_).1⟩ <;> first | (simp (disch := omega) only [vm, seval, H]; done) | rfl
 replace h := ite_a h
 rcases h with h | h
 obtain ⟨H, h⟩ := h
 cases h
 simp (disch := omega) only [vm, seval, H]
 refine ⟨(hR _ _ _ _ _ _ (by simp (disch := omega) only [vm, seval, H]; rfl) (List.Sublist.refl _) ?_ (by omega) ?_).1⟩ <;> first | (simp (disch := omega) only [vm, seval, H]; done) | rfl
 obtain ⟨H, h⟩ := h
 cases h
 simp (disch := omega) only [vm, seval, H]
 refine ⟨(hR _ _ _ _ _ _ (by simp (disch := omega) only [vm, seval, H]; rfl) (List.Sublist.refl _) ?_ (by omega) ?_).1⟩ <;> first | (simp (disch := omega) only [vm, seval, H]; done) | rfl
 replace h := ite_a h
 rcases h with h | h
 obtain ⟨H, h⟩ := h
 cases h
 simp (disch := omega) only [vm, seval, H]
 refine ⟨(hR _ _ _ _ _ _ (by simp (disch := omega) only [vm, seval, H]; rfl) (List.Sublist.refl _) ?_ (by omega) ?_).1⟩ <;> first | (simp (disch := omega) only [vm, seval, H]; done) | rfl
 obtain ⟨H, h⟩ := h
 cases h
 simp (disch := omega) only [vm, seval, H]
 refine ⟨(hR _ _ _ _ _ _ (by simp (disch := omega) only [vm, seval, H]; rfl) (List.Sublist.refl _) ?_ (by omega) ?_).1⟩ <;> first | (simp (disch := omega) only [vm, seval, H]; done) | rfl
theorem ref04_Format_w {a0 r} (h : ref04_Format N a0 = some r) (ha : args = [.int .u64 a0]) (hQ : ∀ n', n ≤ n' → Gl (Q (.str r) ⟨m, n'⟩)) : ACall vE 41 args ⟨m, n⟩ Q := by
 rw [ref04_Format] at h
 subst ha
 refine ent hQ Tryd.func41 rfl Tryd.ntmps41 Tryd.results41 (.q (.r []) (.q (.r []) .z)) fun R hR => ?_
 replace h := And.intro trivial h
 simp (disch := omega) only [vm, seval, h.1]
 refine ⟨sloop (σ := Int × (List UInt8)) (γ := Unit) (fun k s => ref04_Format_L1 N k s.1 s.2) (fun s g => [.int .u64 s.1, .str s.2]) (fun s g => m) [2, 4, 5, 6, 7, 8, 9, 10, 11, 12, 13, 14, 15, 16] [0, 3] (a0, []) () h (fun _ => rfl) (by first | (simp (disch := omega) only [vm, seval, h.1]; done) | rfl) (by first | (simp (disch := omega) only [vm, seval, h.1]; done) | rfl) ?_⟩
 clear h
 rintro k1 ⟨s0, s3⟩ _ nL0_1 hnL0_1 _ h Jk1 hk1
 change _ ∧ ref04_Format_L1 N (k1 + 1) s0 s3 = _ at h
 rw [ref04_Format_L1] at h
 refine wpc_snd (.q (.r []) (.q (.r []) (.q (.r []) (.c (.q (.r []) .z) .z)))) ?_
 replace h := grd_a h
 obtain ⟨c, h⟩ := h
 try simp only [liE, seval] at c
 replace h := and_in c h
 replace h := ite_a h
 rcases h with h | h
 obtain ⟨H, h⟩ := h
 cases h
 simp (disch := omega) only [vm, seval, H]
 refine ⟨(hR _ _ _ _ _ _ (by simp (disch := omega) only [vm, seval, H]; rfl) (List.Sublist.refl _) ?_ (by omega) ?_).1⟩ <;> first | (simp (disch := omega) only [vm, seval, H]; done) | rfl
 simp (disch := omega) only [vm, seval, h.1]
 refine ⟨hk1 ((wr .u64 (s0.tdiv 10)), ((List.map bchr [(wr .u8 (wr .u64 (48 + (s0.tmod 10))))]) ++ s3)) () _ _ _ _ h.2 (List.Sublist.refl _) ?_ ?_ ?_ (by omega)⟩ <;> first | (simp (disch := omega) only [vm, seval, h.1]; done) | rfl
theorem law13_digits_w {a0 r} (h : law13_digits N a0 = some r) (ha : args = [.int .i64 a0]) (hQ : ∀ n', n ≤ n' → Gl (Q (.str r) ⟨m, n'⟩)) : ACall vE 16 args ⟨m, n⟩ Q := by
 rw [law13_digits] at h
 subst ha
 refine ent hQ Tryd.func16 rfl Tryd.ntmps16 Tryd.results16 (.q (.r []) (.q (.r []) .z)) fun R hR => ?_
 replace h := And.intro trivial h
 simp (disch := omega) only [vm, seval, h.1]
 refine ⟨sloop (σ := Int × (List UInt8)) (γ := Unit) (fun k s => law13_digits_L1 N k s.1 s.2) (fun s g => [.int .i64 s.1, .str s.2]) (fun s g => m) [2, 4, 5, 6, 7, 8, 9, 10, 11, 12, 13, 14, 15, 16] [0, 3] (a0, []) () h (fun _ => rfl) (by first | (simp (disch := omega) only [vm, seval, h.1]; done) | rfl) (by first | (simp (disch := omega) only [vm, seval, h.1]; done) | rfl) ?_⟩
 clear h
 rintro k1 ⟨s0, s3⟩ _ nL0_1 hnL0_1 _ h Jk1 hk1
 change _ ∧ law13_digits_L1 N (k1 + 1) s0 s3 = _ at h
 rw [law13_digits_L1] at h
 refine wpc_snd (.q (.r []) (.q (.r []) (.q (.r []) (.c (.q (.r []) .z) .z)))) ?_
 replace h := grd_a h
 obtain ⟨c, h⟩ := h
 try simp only [liE, seval] at c
 replace h := and_in c h
 replace h := ite_a h
 rcases h with h | h
 obtain ⟨H, h⟩ := h
 cases h
 simp (disch := omega) only [vm, seval, H]
 refine ⟨(hR _ _ _ _ _ _ (by simp (disch := omega) only [vm, seval, H]; rfl) (List.Sublist.refl _) ?_ (by omega) ?_).1⟩ <;> first | (simp (disch := omega) only [vm, seval, H]; done) | rfl
 simp (disch := omega) only [vm, seval, h.1]
 refine ⟨hk1 ((wr .i64 (s0.tdiv 10)), ((List.map bchr [(wr .u8 (wr .i64 (48 + (s0.tmod 10))))]) ++ s3)) () _ _ _ _ h.2 (List.Sublist.refl _) ?_ ?_ ?_ (by omega)⟩ <;> first | (simp (disch := omega) only [vm, seval, h.1]; done) | rfl
theorem law13_unit_w {a0 a1 r} (h : law13_unit N a0 a1 = some r) (ha : args = [.int .i64 a0, .bool a1]) (hQ : ∀ n', n ≤ n' → Gl (Q (.str r) ⟨m, n'⟩)) : ACall vE 18 args ⟨m, n⟩ Q := by
 rw [law13_unit] at h
 subst ha
 refine ent hQ Tryd.func18 rfl Tryd.ntmps18 Tryd.results18 (.q (.r []) (.q (.r []) .z)) fun R hR => ?_
 replace h := And.intro trivial h
 simp (disch := omega) only [vm, seval, h.1]
 refine ⟨sjoin (γ := Unit) h [6] [5] (fun j1 g => [.str j1]) (fun j1 g => m) (.q (.r []) (.c (.r []) .z)) ?_ ?_⟩ <;> clear h
 rintro j1 _ n4 hnn4 _ _ h
 refine wpc_snd (.q .z .z) ?_
 replace h := bind_a h
 obtain ⟨x5, h⟩ := h
 replace h := bind_a h
 obtain ⟨x6, h⟩ := h
 replace h := bind_a h
 obtain ⟨x7, h⟩ := h
 replace h := bind_a h
 obtain ⟨x8, h⟩ := h
 refine letL_a h ?_
 clear h
 intro l9 c h
 replace c := congrArg (List.map (AVal.int .u8)) c
 simp only [List.map_cons, List.map_nil, eE] at c
 replace h := and_in c h
 replace h := grd_a h
 obtain ⟨c, h⟩ := h
 try simp only [liE, seval] at c
 replace h := and_in c h
 simp (disch := omega) only [vm, seval, h.1]
 refine ⟨awp_drw [] (.take 0 (.take 1 (.take 2 (.take 3 (.take 4 (.take 5 (.take 6 (.take 7 (.take 8 (.take 9 (.take 10 (.take 11 (.take 12 (.take 13 (.take 14 (.take 15 (.take 16 (.take 17 (.take 18 (.take 19 (.alt 20 [18, 17, 16, 15, 14, 13, 12, 11, 10, 9, 8, 7, 6, 5, 4, 3, 2, 1, 0] (.take 21 (.alt 22 [] (.done) (.stop))) (.stop)))))))))))))))))))))) vE_mixed (by kernel_rfl) ?_⟩
 obtain ⟨H, h⟩ := h
 cases h
 simp (disch := omega) only [vm, seval, H]
 refine ⟨(hR _ _ _ _ _ _ (by simp (disch := omega) only [vm, seval, H]; rfl) (List.Sublist.refl _) ?_ (by omega) ?_).1⟩ <;> first | (simp (disch := omega) only [vm, seval, H]; done) | rfl
 intro k2 Jk2 hk2 h
 replace h := ite_a h
 rcases h with h | h
 simp (disch := omega) only [vm, seval, h.1]
 refine ⟨hk2 ([48, 49, 50, 51, 52, 53, 54, 55, 56, 57, 65, 66, 67, 68, 69, 70] : List UInt8) () _ _ _ _ h.2 (List.Sublist.refl _) ?_ ?_ ?_ (by omega)⟩ <;> first | (simp (disch := omega) only [vm, seval, h.1]; done) | rfl
 simp (disch := omega) only [vm, seval, h.1]
 refine ⟨hk2 ([48, 49, 50, 51, 52, 53, 54, 55, 56, 57, 97, 98, 99, 100, 101, 102] : List UInt8) () _ _ _ _ h.2 (List.Sublist.refl _) ?_ ?_ ?_ (by omega)⟩ <;> first | (simp (disch := omega) only [vm, seval, h.1]; done) | rfl
end Go.Proofs.YtmdjjhakfoenpaaDoor
