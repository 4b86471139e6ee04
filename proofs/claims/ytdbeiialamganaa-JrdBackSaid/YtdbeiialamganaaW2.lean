/- That the code computes these functions; written by decomp.py. -/
import Derived.Test.YtdbeiialamganaaVmFacts
import Derived.Test.YtdbeiialamganaaDefs
import Derived.Test.YtdbeiialamganaaVM2
import Derived.Test.YtdbeiialamganaaW0
import Derived.Test.YtdbeiialamganaaW1
set_option linter.unusedVariables false
set_option linter.unusedSimpArgs false
set_option maxHeartbeats 4000000
set_option maxRecDepth 100000
set_option linter.defProp false
namespace Go.Proofs.Ytdbeiialamganaa
open Go.VM
variable {N n : Nat} {m : MS} {Q : PQ} {args : List AVal}
theorem ref13_run_w {a0 r} (h : ref13_run N a0 = some r) (ha : args = [.str a0]) (hQ : ∀ n', n ≤ n' → Gl (Q (.int .i64 r) ⟨m, n'⟩)) : ACall vE 65 args ⟨m, n⟩ Q := by
 rw [ref13_run] at h
 subst ha
 refine ent hQ Try.func65 rfl Try.ntmps65 Try.results65 (.q (.r []) (.q (.r []) .z)) fun R hR => ?_
 replace h := And.intro trivial h
 simp (disch := omega) only [vm, seval, h.1]
 refine ⟨sjoin (γ := Unit) h [4, 5, 6, 7, 8, 9, 10, 11, 12, 13, 14, 15] [3] (fun j1 g => [.int .i64 j1]) (fun j1 g => m) .z ?_ ?_⟩ <;> clear h
 rintro j1 _ n4 hnn4 _ _ h
 refine wpc_snd (.q (.r []) .z) ?_
 obtain ⟨H, h⟩ := h
 cases h
 simp (disch := omega) only [vm, seval, H]
 refine ⟨(hR _ _ _ _ _ _ (by simp (disch := omega) only [vm, seval, H]; rfl) (List.Sublist.refl _) ?_ (by omega) ?_).1⟩ <;> first | (simp (disch := omega) only [vm, seval, H]; done) | rfl
 intro k2 Jk2 hk2 h
 simp (disch := omega) only [vm, seval, h.1]
 refine ⟨sloop (σ := Int) (γ := Unit) (fun k s => ref13_run_L1 N a0 k2 k s) (fun s g => [.int .i64 s]) (fun s g => m) [4, 5, 6, 7, 8, 9, 10, 11, 12, 13, 14, 15] [3] 0 () h (fun _ => rfl) (by first | (simp (disch := omega) only [vm, seval, h.1]; done) | rfl) (by first | (simp (disch := omega) only [vm, seval, h.1]; done) | rfl) ?_⟩
 clear h
 rintro k5 s3 _ nL0_1 hnL0_1 _ h Jk5 hk5
 change _ ∧ ref13_run_L1 N a0 k2 (k5 + 1) s3 = _ at h
 rw [ref13_run_L1] at h
 refine wpc_snd (.q .z (.r [])) ?_
 simp (disch := omega) only [vm, seval, h.1]
 refine ⟨sjoin (γ := Unit) h [4, 5, 6, 7, 8, 9, 10, 11, 12] [13] (fun j6 g => [.bool j6]) (fun j6 g => m) (.r []) ?_ ?_⟩ <;> clear h
 rintro j6 _ n9 hnn9 _ _ h
 refine wpc_snd (.c .z .z) ?_
 replace h := ite_a h
 rcases h with h | h
 simp (disch := omega) only [vm, seval, h.1]
 refine ⟨hk5 (wr .i64 (s3 + 1)) () _ _ _ _ h.2 (List.Sublist.refl _) ?_ ?_ ?_ (by omega)⟩ <;> first | (simp (disch := omega) only [vm, seval, h.1]; done) | rfl
 simp (disch := omega) only [vm, seval, h.1]
 refine ⟨hk2 s3 () _ _ _ _ h.2 (List.Sublist.refl _) ?_ ?_ ?_ (by omega)⟩ <;> first | (simp (disch := omega) only [vm, seval, h.1]; done) | rfl
 intro k7 Jk7 hk7 h
 replace h := ite_a h
 rcases h with h | h
 replace h := bind_a h
 obtain ⟨x10, h⟩ := h
 replace h := bind_a h
 obtain ⟨y11, h⟩ := h
 simp (disch := omega) only [vm, seval, h.1]
 refine ⟨ref01_IsDigit_w h.1.1 (by first | (simp (disch := omega) only [vm, seval, h.1]; done) | rfl) fun n12 hn12 => ?_⟩
 simp (disch := omega) only [vm, seval, h.1]
 refine ⟨hk7 y11 () _ _ _ _ h.2 (List.Sublist.refl _) ?_ ?_ ?_ (by omega)⟩ <;> first | (simp (disch := omega) only [vm, seval, h.1]; done) | rfl
 simp (disch := omega) only [vm, seval, h.1]
 refine ⟨hk7 false () _ _ _ _ h.2 (List.Sublist.refl _) ?_ ?_ ?_ (by omega)⟩ <;> first | (simp (disch := omega) only [vm, seval, h.1]; done) | rfl
theorem ref01_Index_w {a0 a1 r} (h : ref01_Index N a0 a1 = some r) (ha : args = [.str a0, .str a1]) (hQ : ∀ n', n ≤ n' → Gl (Q (.int .i64 r) ⟨m, n'⟩)) : ACall vE 56 args ⟨m, n⟩ Q := by
 rw [ref01_Index] at h
 subst ha
 refine ent hQ Try.func56 rfl Try.ntmps56 Try.results56 (.q (.r []) .z) fun R hR => ?_
 replace h := And.intro trivial h
 simp (disch := omega) only [vm, seval, h.1]
 refine ⟨sjoin (γ := Unit) h [4, 5, 6, 7, 8, 9, 10, 11, 12, 13, 14, 15, 16, 17] [] (fun j1 g => []) (fun j1 g => m) (.q (.r []) .z) ?_ ?_⟩ <;> clear h
 rintro j1 _ n4 hnn4 _ _ h
 refine wpc_snd (.q (.r []) .z) ?_
 obtain ⟨H, h⟩ := h
 cases h
 simp (disch := omega) only [vm, seval, H]
 refine ⟨(hR _ _ _ _ _ _ (by simp (disch := omega) only [vm, seval, H]; rfl) (List.Sublist.refl _) ?_ (by omega) ?_).1⟩ <;> first | (simp (disch := omega) only [vm, seval, H]; done) | rfl
 intro k2 Jk2 hk2 h
 replace h := grd_a h
 obtain ⟨hfk5, h⟩ := h
 simp (disch := omega) only [vm, seval, h.1]
 refine ⟨sloopr (σ := Unit) (γ := Unit) a0 hfk5 (fun xs i s => ref01_Index_L1 N a1 k2 xs i) (fun i s g => [.int .i64 i]) (fun i s g => m) [4, 6, 7, 8, 9, 10, 11, 12, 13, 14, 15, 16, 17] [5] () () h (by first | (simp (disch := omega) only [vm, seval, h.1]; done) | rfl) (by first | (simp (disch := omega) only [vm, seval, h.1]; done) | rfl) ?_ ?_⟩ <;> clear h
 rintro s5 _ _ nL0_1 hnL0_1 _ h
 change _ ∧ ref01_Index_L1 N a1 k2 [] s5 = _ at h
 rw [ref01_Index_L1] at h
 refine wpc_snd (.q (.q (.r []) (.c .z .z)) (.q (.q (.r []) (.c (.q (.r []) .z) .z)) (.r []))) ?_
 simp (disch := omega) only [vm, seval, h.1]
 refine ⟨hk2 () () _ _ _ _ h.2 (List.Sublist.refl _) ?_ ?_ ?_ (by omega)⟩ <;> first | (simp (disch := omega) only [vm, seval, h.1]; done) | rfl
 rintro xk5 xsk5 s5 _ _ nL0_1 hnL0_1 _ h Jk5 hk5
 change _ ∧ ref01_Index_L1 N a1 k2 (xk5 :: xsk5) s5 = _ at h
 rw [ref01_Index_L1] at h
 refine wpc_snd (.q (.q (.r []) (.c .z .z)) (.q (.q (.r []) (.c (.q (.r []) .z) .z)) (.r []))) ?_
 replace h := bind_a h
 obtain ⟨y6, h⟩ := h
 simp (disch := omega) only [vm, seval, h.1]
 refine ⟨ref01_In_w h.1.1 (by first | (simp (disch := omega) only [vm, seval, h.1]; done) | rfl) fun n7 hn7 => ?_⟩
 replace h := ite_a h
 rcases h with h | h
 obtain ⟨H, h⟩ := h
 cases h
 simp (disch := omega) only [vm, seval, H]
 refine ⟨(hR _ _ _ _ _ _ (by simp (disch := omega) only [vm, seval, H]; rfl) (List.Sublist.refl _) ?_ (by omega) ?_).1⟩ <;> first | (simp (disch := omega) only [vm, seval, H]; done) | rfl
 simp (disch := omega) only [vm, seval, h.1]
 refine ⟨hk5 () () _ _ _ _ h.2 (List.Sublist.refl _) ?_ ?_ ?_ (by omega)⟩ <;> first | (simp (disch := omega) only [vm, seval, h.1]; done) | rfl
theorem ref13_exponent_w {a0 r} (h : ref13_exponent N a0 = some r) (ha : args = [.str a0]) (hQ : ∀ n', n ≤ n' → Gl (Q (.int .i64 r) ⟨m, n'⟩)) : ACall vE 57 args ⟨m, n⟩ Q := by
 rw [ref13_exponent] at h
 subst ha
 refine ent hQ Try.func57 rfl Try.ntmps57 Try.results57 (.q (.r []) .z) fun R hR => ?_
 replace h := And.intro trivial h
 simp (disch := omega) only [vm, seval, h.1]
 refine ⟨sjoin (γ := Unit) h [6, 7, 8, 9, 10, 11, 12] [3] (fun j1 g => [.bool j1]) (fun j1 g => m) (.r []) ?_ ?_⟩ <;> clear h
 rintro j1 _ n4 hnn4 _ _ h
 refine wpc_snd .z ?_
 simp (disch := omega) only [vm, seval, h.1]
 refine ⟨sjoin (γ := Unit) h [13, 14, 15, 16, 17, 18, 19, 20, 21] [0] (fun j6 g => [.str j6]) (fun j6 g => m) .z ?_ ?_⟩ <;> clear h
 rintro j6 _ n9 hnn9 _ _ h
 refine wpc_snd (.q (.r []) .z) ?_
 simp (disch := omega) only [vm, seval, h.1]
 refine ⟨sjoin (γ := Unit) h [5, 22, 23, 24, 25, 26, 27, 28, 29, 30, 31, 32, 33, 34, 35, 36] [4] (fun j18 g => [.int .i64 j18]) (fun j18 g => m) (.q (.r []) .z) ?_ ?_⟩ <;> clear h
 rintro j18 _ n21 hnn21 _ _ h
 refine wpc_snd (.q (.q (.r []) (.c (.q (.r []) .z) .z)) (.q (.r []) .z)) ?_
 replace h := ite_a h
 rcases h with h | h
 obtain ⟨H, h⟩ := h
 cases h
 simp (disch := omega) only [vm, seval, H]
 refine ⟨(hR _ _ _ _ _ _ (by simp (disch := omega) only [vm, seval, H]; rfl) (List.Sublist.refl _) ?_ (by omega) ?_).1⟩ <;> first | (simp (disch := omega) only [vm, seval, H]; done) | rfl
 obtain ⟨H, h⟩ := h
 cases h
 simp (disch := omega) only [vm, seval, H]
 refine ⟨(hR _ _ _ _ _ _ (by simp (disch := omega) only [vm, seval, H]; rfl) (List.Sublist.refl _) ?_ (by omega) ?_).1⟩ <;> first | (simp (disch := omega) only [vm, seval, H]; done) | rfl
 intro k19 Jk19 hk19 h
 replace h := grd_a h
 obtain ⟨hfk22, h⟩ := h
 simp (disch := omega) only [vm, seval, h.1]
 refine ⟨sloopr (σ := Int) (γ := Unit) j6 hfk22 (fun xs i s => ref13_exponent_L1 N k19 xs s) (fun i s g => [.int .i64 s, .int .i64 i]) (fun i s g => m) [22, 23, 24, 25, 26, 27, 28, 29, 30, 31, 32, 33, 34, 35, 36] [4, 5] 0 () h (by first | (simp (disch := omega) only [vm, seval, h.1]; done) | rfl) (by first | (simp (disch := omega) only [vm, seval, h.1]; done) | rfl) ?_ ?_⟩ <;> clear h
 rintro s5 s4 _ nL0_1 hnL0_1 _ h
 change _ ∧ ref13_exponent_L1 N k19 [] s4 = _ at h
 rw [ref13_exponent_L1] at h
 refine wpc_snd (.q (.q (.r []) (.c .z .z)) (.q (.r []) (.r []))) ?_
 simp (disch := omega) only [vm, seval, h.1]
 refine ⟨hk19 s4 () _ _ _ _ h.2 (List.Sublist.refl _) ?_ ?_ ?_ (by omega)⟩ <;> first | (simp (disch := omega) only [vm, seval, h.1]; done) | rfl
 rintro xk22 xsk22 s5 s4 _ nL0_1 hnL0_1 _ h Jk22 hk22
 change _ ∧ ref13_exponent_L1 N k19 (xk22 :: xsk22) s4 = _ at h
 rw [ref13_exponent_L1] at h
 refine wpc_snd (.q (.q (.r []) (.c .z .z)) (.q (.r []) (.r []))) ?_
 simp (disch := omega) only [vm, seval, h.1]
 refine ⟨hk22 (if 1073741824 < (wr .i64 ((wr .i64 (s4 * 10)) + (wr .i64 (wr .u8 ((bord xk22) - 48))))) then 1073741824 else (wr .i64 ((wr .i64 (s4 * 10)) + (wr .i64 (wr .u8 ((bord xk22) - 48)))))) () _ _ _ _ h.2 (List.Sublist.refl _) ?_ ?_ ?_ (by omega)⟩ <;> first | (simp (disch := omega) only [vm, seval, h.1]; done) | rfl
 intro k7 Jk7 hk7 h
 simp (disch := omega) only [vm, seval, h.1]
 refine ⟨sjoin (γ := Unit) h [13, 14, 15, 16, 17, 18] [19] (fun j10 g => [.bool j10]) (fun j10 g => m) (.r []) ?_ ?_⟩ <;> clear h
 rintro j10 _ n13 hnn13 _ _ h
 refine wpc_snd (.c (.r []) .z) ?_
 replace h := ite_a h
 rcases h with h | h
 replace h := bind_a h
 obtain ⟨x17, h⟩ := h
 simp (disch := omega) only [vm, seval, h.1]
 refine ⟨hk7 x17 () _ _ _ _ h.2 (List.Sublist.refl _) ?_ ?_ ?_ (by omega)⟩ <;> first | (simp (disch := omega) only [vm, seval, h.1]; done) | rfl
 simp (disch := omega) only [vm, seval, h.1]
 refine ⟨hk7 a0 () _ _ _ _ h.2 (List.Sublist.refl _) ?_ ?_ ?_ (by omega)⟩ <;> first | (simp (disch := omega) only [vm, seval, h.1]; done) | rfl
 intro k11 Jk11 hk11 h
 replace h := ite_a h
 rcases h with h | h
 simp (disch := omega) only [vm, seval, h.1]
 refine ⟨hk11 false () _ _ _ _ h.2 (List.Sublist.refl _) ?_ ?_ ?_ (by omega)⟩ <;> first | (simp (disch := omega) only [vm, seval, h.1]; done) | rfl
 replace h := bind_a h
 obtain ⟨x14, h⟩ := h
 replace h := bind_a h
 obtain ⟨y15, h⟩ := h
 simp (disch := omega) only [vm, seval, h.1]
 refine ⟨ref01_In_w h.1.1 (by first | (simp (disch := omega) only [vm, seval, h.1]; done) | rfl) fun n16 hn16 => ?_⟩
 simp (disch := omega) only [vm, seval, h.1]
 refine ⟨hk11 y15 () _ _ _ _ h.2 (List.Sublist.refl _) ?_ ?_ ?_ (by omega)⟩ <;> first | (simp (disch := omega) only [vm, seval, h.1]; done) | rfl
 intro k2 Jk2 hk2 h
 replace h := ite_a h
 rcases h with h | h
 simp (disch := omega) only [vm, seval, h.1]
 refine ⟨hk2 false () _ _ _ _ h.2 (List.Sublist.refl _) ?_ ?_ ?_ (by omega)⟩ <;> first | (simp (disch := omega) only [vm, seval, h.1]; done) | rfl
 replace h := bind_a h
 obtain ⟨x5, h⟩ := h
 simp (disch := omega) only [vm, seval, h.1]
 refine ⟨hk2 ((bord x5) == 45) () _ _ _ _ h.2 (List.Sublist.refl _) ?_ ?_ ?_ (by omega)⟩ <;> first | (simp (disch := omega) only [vm, seval, h.1]; done) | rfl
theorem ref13_white_w {a0 r} (h : ref13_white N a0 = some r) (ha : args = [.int .u8 a0]) (hQ : ∀ n', n ≤ n' → Gl (Q (.bool r) ⟨m, n'⟩)) : ACall vE 60 args ⟨m, n⟩ Q := by
 rw [ref13_white] at h
 subst ha
 refine ent hQ Try.func60 rfl Try.ntmps60 Try.results60 (.q (.r []) (.q (.r []) .z)) fun R hR => ?_
 replace h := And.intro trivial h
 replace h := bind_a h
 obtain ⟨y1, h⟩ := h
 simp (disch := omega) only [vm, seval, h.1]
 refine ⟨ref01_In_w h.1.1 (by first | (simp (disch := omega) only [vm, seval, h.1]; done) | rfl) fun n2 hn2 => ?_⟩
 obtain ⟨H, h⟩ := h
 cases h
 simp (disch := omega) only [vm, seval, H]
 refine ⟨(hR _ _ _ _ _ _ (by simp (disch := omega) only [vm, seval, H]; rfl) (List.Sublist.refl _) ?_ (by omega) ?_).1⟩ <;> first | (simp (disch := omega) only [vm, seval, H]; done) | rfl
theorem ref01_IsHex_w {a0 r} (h : ref01_IsHex N a0 = some r) (ha : args = [.int .u8 a0]) (hQ : ∀ n', n ≤ n' → Gl (Q (.bool r) ⟨m, n'⟩)) : ACall vE 74 args ⟨m, n⟩ Q := by
 rw [ref01_IsHex] at h
 subst ha
 refine ent hQ Try.func74 rfl Try.ntmps74 Try.results74 (.q (.r []) (.q (.r []) .z)) fun R hR => ?_
 replace h := And.intro trivial h
 replace h := bind_a h
 obtain ⟨y1, h⟩ := h
 simp (disch := omega) only [vm, seval, h.1]
 refine ⟨ref01_IsDigit_w h.1.1 (by first | (simp (disch := omega) only [vm, seval, h.1]; done) | rfl) fun n2 hn2 => ?_⟩
 replace h := ite_a h
 rcases h with h | h
 obtain ⟨H, h⟩ := h
 cases h
 simp (disch := omega) only [vm, seval, H]
 refine ⟨(hR _ _ _ _ _ _ (by simp (disch := omega) only [vm, seval, H]; rfl) (List.Sublist.refl _) ?_ (by omega) ?_).1⟩ <;> first | (simp (disch := omega) only [vm, seval, H]; done) | rfl
 replace h := ite_a h
 rcases h with h | h
 replace h := ite_a h
 rcases h with h | h
 obtain ⟨H, h⟩ := h
 cases h
 simp (disch := omega) only [vm, seval, H]
 refine ⟨(hR _ _ _ _ _ _ (by simp (disch := omega) only [vm, seval, H]; rfl) (List.Sublist.refl _) ?_ (by omega) ?_).1⟩ <;> first | (simp (disch := omega) only [vm, seval, H]; done) | rfl
 replace h := ite_a h
 rcases h with h | h
 obtain ⟨H, h⟩ := h
 cases h
 simp (disch := omega) only [vm, seval, H]
 refine ⟨(hR _ _ _ _ _ _ (by simp (disch := omega) only [vm, seval, H]; rfl) (List.Sublist.refl _) ?_ (by omega) ?_).1⟩ <;> first | (simp (disch := omega) only [vm, seval, H]; done) | rfl
 obtain ⟨H, h⟩ := h
 cases h
 simp (disch := omega) only [vm, seval, H]
 refine ⟨(hR _ _ _ _ _ _ (by simp (disch := omega) only [vm, seval, H]; rfl) (List.Sublist.refl _) ?_ (by omega) ?_).1⟩ <;> first | (simp (disch := omega) only [vm, seval, H]; done) | rfl
 replace h := ite_a h
 rcases h with h | h
 obtain ⟨H, h⟩ := h
 cases h
 simp (disch := omega) only [vm, seval, H]
 refine ⟨(hR _ _ _ _ _ _ (by simp (disch := omega) only [vm, seval, H]; rfl) (List.Sublist.refl _) ?_ (by omega) ?_).1⟩ <;> first | (simp (disch := omega) only [vm, seval, H]; done) | rfl
 obtain ⟨H, h⟩ := h
 cases h
 simp (disch := omega) only [vm, seval, H]
 refine ⟨(hR _ _ _ _ _ _ (by simp (disch := omega) only [vm, seval, H]; rfl) (List.Sublist.refl _) ?_ (by omega) ?_).1⟩ <;> first | (simp (disch := omega) only [vm, seval, H]; done) | rfl
theorem ref02_Encode_w {a0 r} (h : ref02_Encode N a0 = some r) (ha : args = [.int .i64 a0]) (hQ : ∀ n', n ≤ n' → Gl (Q (.tuple [.str r.1, .int .i64 r.2]) ⟨m, n'⟩)) : ACall vE 69 args ⟨m, n⟩ Q := by
 rw [ref02_Encode] at h
 subst ha
 refine ent hQ Try.func69 rfl Try.ntmps69 Try.results69 (.q (.r []) (.q (.q (.r []) (.c (.q (.r []) .z) (.q (.r []) (.c (.q (.r []) .z) (.q (.r []) (.c (.q (.r []) .z) (.q (.r []) (.c (.q (.r []) .z) .z)))))))) (.q (.r []) .z))) fun R hR => ?_
 replace h := And.intro trivial h
 replace h := bind_a h
 obtain ⟨y1, h⟩ := h
 simp (disch := omega) only [vm, seval, h.1]
 refine ⟨ref02_point_w h.1.1 (by first | (simp (disch := omega) only [vm, seval, h.1]; done) | rfl) fun n2 hn2 => ?_⟩
 replace h := ite_a h
 rcases h with h | h
 replace h := ite_a h
 rcases h with h | h
 obtain ⟨H, h⟩ := h
 cases h
 simp (disch := omega) only [vm, seval, H]
 refine ⟨(hR _ _ _ _ _ _ (by simp (disch := omega) only [vm, seval, H]; rfl) (List.Sublist.refl _) ?_ (by omega) ?_).1⟩ <;> first | (simp (disch := omega) only [vm, seval, H]; done) | rfl
 replace h := ite_a h
 rcases h with h | h
 refine letL_a h ?_
 clear h
 intro l3 c h
 replace c := congrArg (List.map (AVal.int .u8)) c
 simp only [List.map_cons, List.map_nil, eE] at c
 replace h := and_in c h
 obtain ⟨H, h⟩ := h
 cases h
 simp (disch := omega) only [vm, seval, H]
 refine ⟨(hR _ _ _ _ _ _ (by simp (disch := omega) only [vm, seval, H]; rfl) (List.Sublist.refl _) ?_ (by omega) ?_).1⟩ <;> first | (simp (disch := omega) only [vm, seval, H]; done) | rfl
 replace h := ite_a h
 rcases h with h | h
 refine letL_a h ?_
 clear h
 intro l4 c h
 replace c := congrArg (List.map (AVal.int .u8)) c
 simp only [List.map_cons, List.map_nil, eE] at c
 replace h := and_in c h
 obtain ⟨H, h⟩ := h
 cases h
 simp (disch := omega) only [vm, seval, H]
 refine ⟨(hR _ _ _ _ _ _ (by simp (disch := omega) only [vm, seval, H]; rfl) (List.Sublist.refl _) ?_ (by omega) ?_).1⟩ <;> first | (simp (disch := omega) only [vm, seval, H]; done) | rfl
 refine letL_a h ?_
 clear h
 intro l5 c h
 replace c := congrArg (List.map (AVal.int .u8)) c
 simp only [List.map_cons, List.map_nil, eE] at c
 replace h := and_in c h
 obtain ⟨H, h⟩ := h
 cases h
 simp (disch := omega) only [vm, seval, H]
 refine ⟨(hR _ _ _ _ _ _ (by simp (disch := omega) only [vm, seval, H]; rfl) (List.Sublist.refl _) ?_ (by omega) ?_).1⟩ <;> first | (simp (disch := omega) only [vm, seval, H]; done) | rfl
 obtain ⟨H, h⟩ := h
 cases h
 simp (disch := omega) only [vm, seval, H]
 refine ⟨(hR _ _ _ _ _ _ (by simp (disch := omega) only [vm, seval, H]; rfl) (List.Sublist.refl _) ?_ (by omega) ?_).1⟩ <;> first | (simp (disch := omega) only [vm, seval, H]; done) | rfl
theorem jrd_decoder_text_w {a0 a1 r} {i0 : Nat} (h : jrd_decoder_text N a0 a1 = some r) (ha : args = [.ptr i0 0, encApiValue a1]) (hi0 : mget m i0 = some [.int .i64 a0.e]) (hQ : ∀ n', n ≤ n' → Gl (Q (.str r.1) ⟨mset m i0 [.int .i64 r.2.e], n'⟩)) : ACall vE 28 args ⟨m, n⟩ Q := by
 rw [jrd_decoder_text] at h
 subst ha
 refine ACall.front hi0 fun hin => ent (fun n' k => ⟨_, rfl, (hQ n' k).go⟩) Try.func28 rfl Try.ntmps28 Try.results28 (.q (.r []) (.q (.q (.r []) (.c (.q (.r []) (.q (.r []) .z)) .z)) (.q (.r []) .z))) fun R hR => ?_
 replace h := And.intro trivial h
 replace h := ite_a h
 rcases h with h | h
 replace h := bind_a h
 obtain ⟨y1, h⟩ := h
 simp (disch := omega) only [vm, seval, h.1]
 refine ⟨jrd_decoder_fail_w h.1.1 (by first | (simp (disch := omega) only [vm, seval, h.1]; done) | rfl) (i0 := i0) (by simp (disch := omega) only [vm, seval, h.1]) fun n2 hn2 => ?_⟩
 obtain ⟨H, h⟩ := h
 cases h
 simp (disch := omega) only [vm, seval, H]
 refine ⟨(hR _ _ _ _ _ _ (by simp (disch := omega) only [vm, seval, H]; rfl) (.cons _ (List.Sublist.refl _)) ?_ (by omega) ?_).1⟩ <;> first | (simp (disch := omega) only [vm, seval, H]; done) | rfl
 obtain ⟨H, h⟩ := h
 cases h
 simp (disch := omega) only [vm, seval, H]
 refine ⟨(hR _ _ _ _ _ _ (by simp (disch := omega) only [vm, seval, H]; rfl) (.cons _ (List.Sublist.refl _)) ?_ (by omega) ?_).1⟩ <;> first | (simp (disch := omega) only [vm, seval, H]; done) | rfl
theorem jrd_decoder_items_w {a0 a1 a2 a3 a4 r} {i0 : Nat} (h : jrd_decoder_items N a0 a1 a2 a3 a4 = some r) (ha : args = [.ptr i0 0, encApiValue a1, .str a2, .int .i64 a3, .int .i64 a4]) (hi0 : mget m i0 = some [.int .i64 a0.e]) (hQ : ∀ n', n ≤ n' → Gl (Q (encApiValue r.1) ⟨mset m i0 [.int .i64 r.2.e], n'⟩)) : ACall vE 27 args ⟨m, n⟩ Q := by
 rw [jrd_decoder_items] at h
 subst ha
 refine ACall.front hi0 fun hin => ent_s (fun n' k => ⟨_, rfl, (hQ n' k).go⟩) Try.func27 rfl Try.ntmps27 Try.results27 (.q (.r []) (.q (.r []) (.q .z (.q (.r []) .z)))) fun R hR => ?_
 replace h := And.intro trivial h
 replace h := bind_a h
 obtain ⟨y1, h⟩ := h
 simp (disch := omega) only [vm, seval, h.1]
 refine ⟨jsondoc_Get_w h.1.1 (by first | (simp (disch := omega) only [vm, seval, h.1]; done) | rfl) fun n2 hn2 => ?_⟩
 simp (disch := omega) only [vm, seval, h.1]
 refine ⟨sjoin (γ := Unit) h [20, 21, 22, 23, 24, 25, 26, 27, 28] [19] (fun j3 g => [.bool j3]) (fun j3 g => (n2, [.int .i64 y1.1.kind, .str y1.1.text, .slice 1 (List.map AVal.str y1.1.keys) false, .slice 4 (List.map encApiValue y1.1.items) false]) :: ((n + 1), [.int .i64 0, .str [], .slice 1 (List.map AVal.str []) true, .slice 4 (List.map encApiValue []) true]) :: (n, [.int .i64 a1.kind, .str a1.text, .slice 1 (List.map AVal.str a1.keys) false, .slice 4 (List.map encApiValue a1.items) false]) :: (i0, [.int .i64 a0.e]) :: mdel m i0) (.r []) ?_ ?_⟩ <;> clear h
 rintro j3 _ n6 hnn6 _ _ h
 refine wpc_snd (.c (.q (.r []) .z) (.q (.r []) (.c (.q (.r []) (.q (.r []) .z)) (.q (.r []) (.c (.q (.r []) (.q (.r []) .z)) .z))))) ?_
 replace h := ite_a h
 rcases h with h | h
 obtain ⟨H, h⟩ := h
 cases h
 simp (disch := omega) only [vm, seval, H]
 refine ⟨(hR _ _ _ _ _ _ (by simp (disch := omega) only [vm, seval, H]; rfl) (.cons _ (.cons _ (.cons _ (List.Sublist.refl _)))) ?_ (by omega) ?_).1⟩ <;> first | (simp (disch := omega) only [vm, seval, H]; done) | rfl
 replace h := ite_a h
 rcases h with h | h
 replace h := bind_a h
 obtain ⟨y7, h⟩ := h
 simp (disch := omega) only [vm, seval, h.1]
 refine ⟨jrd_decoder_fail_w h.1.1 (by first | (simp (disch := omega) only [vm, seval, h.1]; done) | rfl) (i0 := i0) (by simp (disch := omega) only [vm, seval, h.1]) fun n8 hn8 => ?_⟩
 obtain ⟨H, h⟩ := h
 cases h
 simp (disch := omega) only [vm, seval, H]
 refine ⟨(hR _ _ _ _ _ _ (by simp (disch := omega) only [vm, seval, H]; rfl) (.cons _ (.cons _ (.cons _ (List.Sublist.refl _)))) ?_ (by omega) ?_).1⟩ <;> first | (simp (disch := omega) only [vm, seval, H]; done) | rfl
 replace h := bind_a h
 obtain ⟨y9, h⟩ := h
 simp (disch := omega) only [vm, seval, h.1]
 refine ⟨jrd_count_w h.1.1 (by first | (simp (disch := omega) only [vm, seval, h.1]; done) | rfl) fun n10 hn10 => ?_⟩
 replace h := ite_a h
 rcases h with h | h
 replace h := bind_a h
 obtain ⟨y11, h⟩ := h
 simp (disch := omega) only [vm, seval, h.1]
 refine ⟨jrd_decoder_fail_w h.1.1 (by first | (simp (disch := omega) only [vm, seval, h.1]; done) | rfl) (i0 := i0) (by simp (disch := omega) only [vm, seval, h.1]) fun n12 hn12 => ?_⟩
 obtain ⟨H, h⟩ := h
 cases h
 simp (disch := omega) only [vm, seval, H]
 refine ⟨(hR _ _ _ _ _ _ (by simp (disch := omega) only [vm, seval, H]; rfl) (.cons _ (.cons _ (.cons _ (List.Sublist.refl _)))) ?_ (by omega) ?_).1⟩ <;> first | (simp (disch := omega) only [vm, seval, H]; done) | rfl
 obtain ⟨H, h⟩ := h
 cases h
 simp (disch := omega) only [vm, seval, H]
 refine ⟨(hR _ _ _ _ _ _ (by simp (disch := omega) only [vm, seval, H]; rfl) (.cons _ (.cons _ (.cons _ (List.Sublist.refl _)))) ?_ (by omega) ?_).1⟩ <;> first | (simp (disch := omega) only [vm, seval, H]; done) | rfl
 intro k4 Jk4 hk4 h
 replace h := ite_a h
 rcases h with h | h
 simp (disch := omega) only [vm, seval, h.1]
 refine ⟨hk4 (a0.e != 0) () _ _ _ _ h.2 (List.Sublist.refl _) ?_ ?_ ?_ (by omega)⟩ <;> first | (simp (disch := omega) only [vm, seval, h.1]; done) | rfl
 simp (disch := omega) only [vm, seval, h.1]
 refine ⟨hk4 true () _ _ _ _ h.2 (List.Sublist.refl _) ?_ ?_ ?_ (by omega)⟩ <;> first | (simp (disch := omega) only [vm, seval, h.1]; done) | rfl
theorem keep_Value_w {a0 a1 r} (h : keep_Value N a0 a1 = some r) (ha : args = [encApiValue a0, .int .i64 a1]) (hQ : ∀ n', n ≤ n' → Gl (Q (.bool r) ⟨m, n'⟩)) : ACall vE 9 args ⟨m, n⟩ Q := by
 rw [keep_Value] at h
 subst ha
 refine ent hQ Try.func9 rfl Try.ntmps9 Try.results9 (.q (.r []) (.q (.r []) .z)) fun R hR => ?_
 replace h := And.intro trivial h
 replace h := bind_a h
 obtain ⟨y1, h⟩ := h
 simp (disch := omega) only [vm, seval, h.1]
 refine ⟨keep_size_w h.1.1 (by first | (simp (disch := omega) only [vm, seval, h.1]; done) | rfl) fun n2 hn2 => ?_⟩
 obtain ⟨H, h⟩ := h
 cases h
 simp (disch := omega) only [vm, seval, H]
 refine ⟨(hR _ _ _ _ _ _ (by simp (disch := omega) only [vm, seval, H]; rfl) (.cons _ (List.Sublist.refl _)) ?_ (by omega) ?_).1⟩ <;> first | (simp (disch := omega) only [vm, seval, H]; done) | rfl
theorem ref16_reader_text_w {a0 a1 a2 a3 r} {i0 : Nat} (h : ref16_reader_text N a0 a1 a2 a3 = some r) (ha : args = [.ptr i0 0, encApiValue a1, .str a2, .bool a3]) (hi0 : mget m i0 = some [.int .i64 a0.fail]) (hQ : ∀ n', n ≤ n' → Gl (Q (.str r.1) ⟨mset m i0 [.int .i64 r.2.fail], n'⟩)) : ACall vE 31 args ⟨m, n⟩ Q := by
 rw [ref16_reader_text] at h
 subst ha
 refine ACall.front hi0 fun hin => ent (fun n' k => ⟨_, rfl, (hQ n' k).go⟩) Try.func31 rfl Try.ntmps31 Try.results31 (.q (.r []) (.q (.r []) .z)) fun R hR => ?_
 replace h := And.intro trivial h
 replace h := bind_a h
 obtain ⟨y1, h⟩ := h
 simp (disch := omega) only [vm, seval, h.1]
 refine ⟨ref14_Get_w h.1.1 (by first | (simp (disch := omega) only [vm, seval, h.1]; done) | rfl) fun n2 hn2 => ?_⟩
 simp (disch := omega) only [vm, seval, h.1]
 refine ⟨sjoin (γ := Unit) h [17, 18, 19, 20, 21, 22, 23, 24, 25, 26, 27, 28, 29, 30, 31] [] (fun j3 g => []) (fun j3 g => (n2, [.int .i64 y1.1.kind, .str y1.1.text, .slice 1 (List.map AVal.str y1.1.keys) false, .slice 4 (List.map encApiValue y1.1.items) false]) :: (n, [.int .i64 a1.kind, .str a1.text, .slice 1 (List.map AVal.str a1.keys) false, .slice 4 (List.map encApiValue a1.items) false]) :: (i0, [.int .i64 j3.fail]) :: mdel m i0) .z ?_ ?_⟩ <;> clear h
 rintro j3 _ n6 hnn6 _ _ h
 refine wpc_snd (.q (.q (.r []) (.c (.q (.r []) .z) .z)) (.q (.r []) .z)) ?_
 replace h := ite_a h
 rcases h with h | h
 obtain ⟨H, h⟩ := h
 cases h
 simp (disch := omega) only [vm, seval, H]
 refine ⟨(hR _ _ _ _ _ _ (by simp (disch := omega) only [vm, seval, H]; rfl) (.cons _ (.cons _ (List.Sublist.refl _))) ?_ (by omega) ?_).1⟩ <;> first | (simp (disch := omega) only [vm, seval, H]; done) | rfl
 obtain ⟨H, h⟩ := h
 cases h
 simp (disch := omega) only [vm, seval, H]
 refine ⟨(hR _ _ _ _ _ _ (by simp (disch := omega) only [vm, seval, H]; rfl) (.cons _ (.cons _ (List.Sublist.refl _))) ?_ (by omega) ?_).1⟩ <;> first | (simp (disch := omega) only [vm, seval, H]; done) | rfl
 intro k4 Jk4 hk4 h
 simp (disch := omega) only [vm, seval, h.1]
 refine ⟨sjoin (γ := Unit) h [17, 18, 19, 20, 21, 22, 23, 24, 25, 26, 27, 28] [29] (fun j7 g => [.bool j7]) (fun j7 g => (n2, [.int .i64 y1.1.kind, .str y1.1.text, .slice 1 (List.map AVal.str y1.1.keys) false, .slice 4 (List.map encApiValue y1.1.items) false]) :: (n, [.int .i64 a1.kind, .str a1.text, .slice 1 (List.map AVal.str a1.keys) false, .slice 4 (List.map encApiValue a1.items) false]) :: (i0, [.int .i64 a0.fail]) :: mdel m i0) (.r []) ?_ ?_⟩ <;> clear h
 rintro j7 _ n10 hnn10 _ _ h
 refine wpc_snd (.c (.r []) .z) ?_
 replace h := ite_a h
 rcases h with h | h
 replace h := bind_a h
 obtain ⟨y11, h⟩ := h
 simp (disch := omega) only [vm, seval, h.1]
 refine ⟨ref16_reader_stop_w h.1.1 (by first | (simp (disch := omega) only [vm, seval, h.1]; done) | rfl) (i0 := i0) (by simp (disch := omega) only [vm, seval, h.1]) fun n12 hn12 => ?_⟩
 simp (disch := omega) only [vm, seval, h.1]
 refine ⟨hk4 y11 () _ _ _ _ h.2 (List.Sublist.refl _) ?_ ?_ ?_ (by omega)⟩ <;> first | (simp (disch := omega) only [vm, seval, h.1]; done) | rfl
 simp (disch := omega) only [vm, seval, h.1]
 refine ⟨hk4 a0 () _ _ _ _ h.2 (List.Sublist.refl _) ?_ ?_ ?_ (by omega)⟩ <;> first | (simp (disch := omega) only [vm, seval, h.1]; done) | rfl
 intro k8 Jk8 hk8 h
 replace h := ite_a h
 rcases h with h | h
 replace h := ite_a h
 rcases h with h | h
 simp (disch := omega) only [vm, seval, h.1]
 refine ⟨hk8 true () _ _ _ _ h.2 (List.Sublist.refl _) ?_ ?_ ?_ (by omega)⟩ <;> first | (simp (disch := omega) only [vm, seval, h.1]; done) | rfl
 simp (disch := omega) only [vm, seval, h.1]
 refine ⟨hk8 false () _ _ _ _ h.2 (List.Sublist.refl _) ?_ ?_ ?_ (by omega)⟩ <;> first | (simp (disch := omega) only [vm, seval, h.1]; done) | rfl
 simp (disch := omega) only [vm, seval, h.1]
 refine ⟨hk8 a3 () _ _ _ _ h.2 (List.Sublist.refl _) ?_ ?_ ?_ (by omega)⟩ <;> first | (simp (disch := omega) only [vm, seval, h.1]; done) | rfl
theorem ref16_reader_items_w {a0 a1 a2 a3 a4 r} {i0 : Nat} (h : ref16_reader_items N a0 a1 a2 a3 a4 = some r) (ha : args = [.ptr i0 0, encApiValue a1, .str a2, .int .i64 a3, .int .i64 a4]) (hi0 : mget m i0 = some [.int .i64 a0.fail]) (hQ : ∀ n', n ≤ n' → Gl (Q (encApiValue r.1) ⟨mset m i0 [.int .i64 r.2.fail], n'⟩)) : ACall vE 34 args ⟨m, n⟩ Q := by
 rw [ref16_reader_items] at h
 subst ha
 refine ACall.front hi0 fun hin => ent_s (fun n' k => ⟨_, rfl, (hQ n' k).go⟩) Try.func34 rfl Try.ntmps34 Try.results34 (.q (.r []) (.q (.r []) (.q (.q (.r []) (.c (.q (.r []) .z) (.q (.r []) (.c (.q (.r []) (.q (.r []) .z)) .z)))) .z))) fun R hR => ?_
 replace h := And.intro trivial h
 replace h := bind_a h
 obtain ⟨y1, h⟩ := h
 simp (disch := omega) only [vm, seval, h.1]
 refine ⟨ref14_Get_w h.1.1 (by first | (simp (disch := omega) only [vm, seval, h.1]; done) | rfl) fun n2 hn2 => ?_⟩
 replace h := ite_a h
 rcases h with h | h
 replace h := ite_a h
 rcases h with h | h
 replace h := bind_a h
 obtain ⟨y3, h⟩ := h
 simp (disch := omega) only [vm, seval, h.1]
 refine ⟨ref16_reader_stop_w h.1.1 (by first | (simp (disch := omega) only [vm, seval, h.1]; done) | rfl) (i0 := i0) (by simp (disch := omega) only [vm, seval, h.1]) fun n4 hn4 => ?_⟩
 obtain ⟨H, h⟩ := h
 cases h
 simp (disch := omega) only [vm, seval, H]
 refine ⟨(hR _ _ _ _ _ _ (by simp (disch := omega) only [vm, seval, H]; rfl) (.cons _ (.cons _ (.cons _ (List.Sublist.refl _)))) ?_ (by omega) ?_).1⟩ <;> first | (simp (disch := omega) only [vm, seval, H]; done) | rfl
 simp (disch := omega) only [vm, seval, h.1]
 refine ⟨sjoin (γ := Unit) h [13, 32, 33, 34, 35, 36, 37, 38, 39, 40, 41, 42, 43, 44, 45, 46, 47, 48, 49, 50] [] (fun j5 g => []) (fun j5 g => (n2, [.int .i64 y1.1.kind, .str y1.1.text, .slice 1 (List.map AVal.str j5.1) false, .slice 4 (List.map encApiValue j5.2) false]) :: ((n + 1), [.int .i64 0, .str [], .slice 1 (List.map AVal.str []) true, .slice 4 (List.map encApiValue []) true]) :: (n, [.int .i64 a1.kind, .str a1.text, .slice 1 (List.map AVal.str a1.keys) false, .slice 4 (List.map encApiValue a1.items) false]) :: (i0, [.int .i64 a0.fail]) :: mdel m i0) (.q (.r []) (.c (.q (.r []) .z) .z)) ?_ ?_⟩ <;> clear h
 rintro j5 _ n8 hnn8 _ _ h
 refine wpc_snd (.q (.q (.r []) (.c (.q (.r []) (.q (.r []) .z)) .z)) (.q (.r []) .z)) ?_
 replace h := ite_a h
 rcases h with h | h
 replace h := bind_a h
 obtain ⟨y11, h⟩ := h
 simp (disch := omega) only [vm, seval, h.1]
 refine ⟨ref16_reader_stop_w h.1.1 (by first | (simp (disch := omega) only [vm, seval, h.1]; done) | rfl) (i0 := i0) (by simp (disch := omega) only [vm, seval, h.1]) fun n12 hn12 => ?_⟩
 obtain ⟨H, h⟩ := h
 cases h
 simp (disch := omega) only [vm, seval, H]
 refine ⟨(hR _ _ _ _ _ _ (by simp (disch := omega) only [vm, seval, H]; rfl) (.cons _ (.cons _ (.cons _ (List.Sublist.refl _)))) ?_ (by omega) ?_).1⟩ <;> first | (simp (disch := omega) only [vm, seval, H]; done) | rfl
 obtain ⟨H, h⟩ := h
 cases h
 simp (disch := omega) only [vm, seval, H]
 refine ⟨(hR _ _ _ _ _ _ (by simp (disch := omega) only [vm, seval, H]; rfl) (.cons _ (.cons _ (.cons _ (List.Sublist.refl _)))) ?_ (by omega) ?_).1⟩ <;> first | (simp (disch := omega) only [vm, seval, H]; done) | rfl
 intro k6 Jk6 hk6 h
 replace h := ite_a h
 rcases h with h | h
 replace h := bind_a h
 obtain ⟨x9, h⟩ := h
 replace h := bind_a h
 obtain ⟨x10, h⟩ := h
 simp (disch := omega) only [vm, seval, h.1]
 refine ⟨awp_drw [] (.take 0 (.take 1 (.take 2 (.take 3 (.take 4 (.take 5 (.take 6 (.take 7 (.take 8 (.alt 9 [7, 6] (.take 10 (.alt 11 [] (.done) (.stop))) (.stop))))))))))) vE_mixed (by kernel_rfl) ?_⟩
 simp (disch := omega) only [vm, seval, h.1]
 refine ⟨hk6 (x9, x10) () _ _ _ _ h.2 (List.Sublist.refl _) ?_ ?_ ?_ (by omega)⟩ <;> first | (simp (disch := omega) only [vm, seval, h.1]; done) | rfl
 simp (disch := omega) only [vm, seval, h.1]
 refine ⟨hk6 (y1.1.keys, y1.1.items) () _ _ _ _ h.2 (List.Sublist.refl _) ?_ ?_ ?_ (by omega)⟩ <;> first | (simp (disch := omega) only [vm, seval, h.1]; done) | rfl
 obtain ⟨H, h⟩ := h
 cases h
 simp (disch := omega) only [vm, seval, H]
 refine ⟨(hR _ _ _ _ _ _ (by simp (disch := omega) only [vm, seval, H]; rfl) (.cons _ (.cons _ (.cons _ (List.Sublist.refl _)))) ?_ (by omega) ?_).1⟩ <;> first | (simp (disch := omega) only [vm, seval, H]; done) | rfl
theorem ref16_SameLink_w {a0 a1 r} (h : ref16_SameLink N a0 a1 = some r) (ha : args = [encApiLink a0, encApiLink a1]) (hQ : ∀ n', n ≤ n' → Gl (Q (.bool r) ⟨m, n'⟩)) : ACall vE 21 args ⟨m, n⟩ Q := by
 rw [ref16_SameLink] at h
 subst ha
 refine ent hQ Try.func21 rfl Try.ntmps21 Try.results21 (.q (.r []) (.q (.r []) .z)) fun R hR => ?_
 replace h := And.intro trivial h
 replace h := ite_a h
 rcases h with h | h
 replace h := ite_a h
 rcases h with h | h
 replace h := ite_a h
 rcases h with h | h
 replace h := ite_a h
 rcases h with h | h
 replace h := bind_a h
 obtain ⟨y1, h⟩ := h
 simp (disch := omega) only [vm, seval, h.1]
 refine ⟨ref16_sameProperties_w h.1.1 (by first | (simp (disch := omega) only [vm, seval, h.1]; done) | rfl) fun n2 hn2 => ?_⟩
 replace h := ite_a h
 rcases h with h | h
 replace h := bind_a h
 obtain ⟨y3, h⟩ := h
 simp (disch := omega) only [vm, seval, h.1]
 refine ⟨ref16_sameProperties_w h.1.1 (by first | (simp (disch := omega) only [vm, seval, h.1]; done) | rfl) fun n4 hn4 => ?_⟩
 obtain ⟨H, h⟩ := h
 cases h
 simp (disch := omega) only [vm, seval, H]
 refine ⟨(hR _ _ _ _ _ _ (by simp (disch := omega) only [vm, seval, H]; rfl) (.cons _ (.cons _ (List.Sublist.refl _))) ?_ (by omega) ?_).1⟩ <;> first | (simp (disch := omega) only [vm, seval, H]; done) | rfl
 obtain ⟨H, h⟩ := h
 cases h
 simp (disch := omega) only [vm, seval, H]
 refine ⟨(hR _ _ _ _ _ _ (by simp (disch := omega) only [vm, seval, H]; rfl) (.cons _ (.cons _ (List.Sublist.refl _))) ?_ (by omega) ?_).1⟩ <;> first | (simp (disch := omega) only [vm, seval, H]; done) | rfl
 obtain ⟨H, h⟩ := h
 cases h
 simp (disch := omega) only [vm, seval, H]
 refine ⟨(hR _ _ _ _ _ _ (by simp (disch := omega) only [vm, seval, H]; rfl) (.cons _ (.cons _ (List.Sublist.refl _))) ?_ (by omega) ?_).1⟩ <;> first | (simp (disch := omega) only [vm, seval, H]; done) | rfl
 obtain ⟨H, h⟩ := h
 cases h
 simp (disch := omega) only [vm, seval, H]
 refine ⟨(hR _ _ _ _ _ _ (by simp (disch := omega) only [vm, seval, H]; rfl) (.cons _ (.cons _ (List.Sublist.refl _))) ?_ (by omega) ?_).1⟩ <;> first | (simp (disch := omega) only [vm, seval, H]; done) | rfl
 obtain ⟨H, h⟩ := h
 cases h
 simp (disch := omega) only [vm, seval, H]
 refine ⟨(hR _ _ _ _ _ _ (by simp (disch := omega) only [vm, seval, H]; rfl) (.cons _ (.cons _ (List.Sublist.refl _))) ?_ (by omega) ?_).1⟩ <;> first | (simp (disch := omega) only [vm, seval, H]; done) | rfl
 obtain ⟨H, h⟩ := h
 cases h
 simp (disch := omega) only [vm, seval, H]
 refine ⟨(hR _ _ _ _ _ _ (by simp (disch := omega) only [vm, seval, H]; rfl) (.cons _ (.cons _ (List.Sublist.refl _))) ?_ (by omega) ?_).1⟩ <;> first | (simp (disch := omega) only [vm, seval, H]; done) | rfl
theorem ref16_some_w {a0 a1 a2 r} (h : ref16_some N a0 a1 a2 = some r) (ha : args = [encApiValue a0, .str a1, .str a2]) (hQ : ∀ n', n ≤ n' → Gl (Q (encApiValue r) ⟨m, n'⟩)) : ACall vE 37 args ⟨m, n⟩ Q := by
 rw [ref16_some] at h
 subst ha
 refine ent hQ Try.func37 rfl Try.ntmps37 Try.results37 (.q (.r []) (.q (.q (.r []) (.c (.q (.r []) .z) .z)) (.q .z .z))) fun R hR => ?_
 replace h := And.intro trivial h
 replace h := ite_a h
 rcases h with h | h
 obtain ⟨H, h⟩ := h
 cases h
 simp (disch := omega) only [vm, seval, H]
 refine ⟨(hR _ _ _ _ _ _ (by simp (disch := omega) only [vm, seval, H]; rfl) (.cons _ (.cons _ (List.Sublist.refl _))) ?_ (by omega) ?_).1⟩ <;> first | (simp (disch := omega) only [vm, seval, H]; done) | rfl
 replace h := bind_a h
 obtain ⟨y1, h⟩ := h
 have cy1 := h.1.1
 replace h := bind_a h
 obtain ⟨y3, h⟩ := h
 have cy3 := h.1.1
 simp (disch := omega) only [vm, seval, h.1]
 refine ⟨awp_drw [] (.take 0 (.take 1 (.take 2 (.alt 3 [1, 0] (.alt 4 [2] (.alt 5 [] (.done) (.stop)) (.stop)) (.stop))))) vE_mixed (by kernel_rfl) ?_⟩
 simp (disch := omega) only [vm, seval, h.1]
 refine ⟨ref16_Text_w cy1 (by first | (simp (disch := omega) only [vm, seval, h.1]; done) | rfl) fun n2 hn2 => ?_⟩
 simp (disch := omega) only [vm, seval, h.1]
 refine ⟨ref16_with_w cy3 (by first | (simp (disch := omega) only [vm, seval, h.1]; done) | rfl) fun n4 hn4 => ?_⟩
 obtain ⟨H, h⟩ := h
 cases h
 simp (disch := omega) only [vm, seval, H]
 refine ⟨(hR _ _ _ _ _ _ (by simp (disch := omega) only [vm, seval, H]; rfl) (.cons _ (.cons _ (List.Sublist.refl _))) ?_ (by omega) ?_).1⟩ <;> first | (simp (disch := omega) only [vm, seval, H]; done) | rfl
theorem ref16_Array_w {a0 r} (h : ref16_Array N a0 = some r) (ha : args = [.slice 1 (List.map AVal.str a0) false]) (hQ : ∀ n', n ≤ n' → Gl (Q (encApiValue r) ⟨m, n'⟩)) : ACall vE 39 args ⟨m, n⟩ Q := by
 rw [ref16_Array] at h
 subst ha
 refine ent hQ Try.func39 rfl Try.ntmps39 Try.results39 (.q (.r []) (.q (.r []) .z)) fun R hR => ?_
 replace h := And.intro trivial h
 simp (disch := omega) only [vm, seval, h.1]
 refine ⟨sjoin (γ := Unit) h [5, 7, 8, 9, 10, 11, 12, 13, 14, 15, 16, 17, 18, 19, 20] [] (fun j1 g => []) (fun j1 g => ((n + 1), [.int .i64 6, .str [], .slice 1 (List.map AVal.str []) true, .slice 4 (List.map encApiValue j1) true]) :: (n, [.int .i64 0, .str [], .slice 1 (List.map AVal.str []) true, .slice 4 (List.map encApiValue []) true]) :: m) (.q (.r []) .z) ?_ ?_⟩ <;> clear h
 rintro j1 _ n4 hnn4 _ _ h
 refine wpc_snd (.q (.r []) .z) ?_
 obtain ⟨H, h⟩ := h
 cases h
 simp (disch := omega) only [vm, seval, H]
 refine ⟨(hR _ _ _ _ _ _ (by simp (disch := omega) only [vm, seval, H]; rfl) (.cons _ (.cons _ (List.Sublist.refl _))) ?_ (by omega) ?_).1⟩ <;> first | (simp (disch := omega) only [vm, seval, H]; done) | rfl
 · intro k2 Jk2 hk2 h
   replace h := grd_a h
   obtain ⟨hfk5, h⟩ := h
   simp (disch := omega) only [vm, seval, h.1]
   refine ⟨sloopr (σ := (List ApiValue)) (γ := Unit) a0 hfk5 (fun xs i s => ref16_Array_L1 N k2 xs s) (fun i s g => [.int .i64 i]) (fun i s g => ((n + 1), [.int .i64 6, .str [], .slice 1 (List.map AVal.str []) true, .slice 4 (List.map encApiValue s) true]) :: (n, [.int .i64 0, .str [], .slice 1 (List.map AVal.str []) true, .slice 4 (List.map encApiValue []) true]) :: m) [5, 10, 11, 12, 13, 14, 15, 16, 17, 18, 19, 20] [9] [] () h (by first | (simp (disch := omega) only [vm, seval, h.1]; done) | rfl) (by first | (simp (disch := omega) only [vm, seval, h.1]; done) | rfl) ?_ ?_⟩ <;> clear h
   rintro s9 bn1_items _ nL0_1 hnL0_1 _ h
   change _ ∧ ref16_Array_L1 N k2 [] bn1_items = _ at h
   rw [ref16_Array_L1] at h
   refine wpc_snd (.q (.r []) (.q (.c .z .z) .z)) ?_
   simp (disch := omega) only [vm, seval, h.1]
   refine ⟨hk2 bn1_items () _ _ _ _ h.2 (List.Sublist.refl _) ?_ ?_ ?_ (by omega)⟩ <;> first | (simp (disch := omega) only [vm, seval, h.1]; done) | rfl
   · rintro xk5 xsk5 s9 bn1_items _ nL0_1 hnL0_1 _ h Jk5 hk5
     change _ ∧ ref16_Array_L1 N k2 (xk5 :: xsk5) bn1_items = _ at h
     rw [ref16_Array_L1] at h
     refine wpc_snd (.q (.r []) (.q (.c .z .z) .z)) ?_
     simp (disch := omega) only [vm, seval, h.1]
     refine ⟨sjoin (γ := Unit) h [5, 11, 12, 13, 14, 15, 16, 17, 18, 19] [] (fun j6 g => []) (fun j6 g => ((n + 1), [.int .i64 6, .str [], .slice 1 (List.map AVal.str []) true, .slice 4 (List.map encApiValue j6) true]) :: (n, [.int .i64 0, .str [], .slice 1 (List.map AVal.str []) true, .slice 4 (List.map encApiValue []) true]) :: m) (.q (.r []) .z) ?_ ?_⟩ <;> clear h
     rintro j6 _ n9 hnn9 _ _ h
     refine wpc_snd (.r []) ?_
     simp (disch := omega) only [vm, seval, h.1]
     refine ⟨hk5 j6 () _ _ _ _ h.2 (List.Sublist.refl _) ?_ ?_ ?_ (by omega)⟩ <;> first | (simp (disch := omega) only [vm, seval, h.1]; done) | rfl
     · intro k7 Jk7 hk7 h
       replace h := bind_a h
       obtain ⟨y10, h⟩ := h
       have cy10 := h.1.1
       replace h := grd_a h
       obtain ⟨c, h⟩ := h
       try simp only [liE, seval] at c
       replace h := and_in c h
       simp (disch := omega) only [vm, seval, h.1]
       refine ⟨awp_drw [14] (.take 0 (.take 2 (.alt 1 [2] (.alt 3 [0] (.take 4 (.alt 5 [2, 0] (.take 6 (.alt 7 [] (.done) (.stop))) (.stop))) (.stop)) (.alt 3 [0] (.take 4 (.alt 1 [4, 2] (.alt 5 [2, 0] (.take 6 (.alt 7 [] (.done) (.stop))) (.stop)) (.stop))) (.stop))))) vE_mixed (by kernel_rfl) ?_⟩
       all_goals
        simp (disch := omega) only [vm, seval, h.1]
        repeat' refine Gl_and ?_ ?_
        all_goals
         refine ⟨ref16_Text_w cy10 (by first | (simp (disch := omega) only [vm, seval, h.1]; done) | rfl) fun n11 hn11 => ?_⟩
         simp (disch := omega) only [vm, seval, h.1]
         refine ⟨hk7 (bn1_items ++ [y10]) () _ _ _ _ h.2 (List.Sublist.refl _) ?_ ?_ ?_ (by omega)⟩ <;> first | (simp (disch := omega) only [vm, seval, h.1]; done) | rfl
theorem ref16_members_w {a0 a1 a2 r} (h : ref16_members N a0 a1 a2 = some r) (ha : args = [encApiValue a0, .str a1, .slice 3 (List.map encApiProperty a2) false]) (hQ : ∀ n', n ≤ n' → Gl (Q (encApiValue r) ⟨m, n'⟩)) : ACall vE 40 args ⟨m, n⟩ Q := by
 rw [ref16_members] at h
 subst ha
 refine ent hQ Try.func40 rfl Try.ntmps40 Try.results40 (.q (.r []) (.q (.q (.r []) (.c (.q (.r []) .z) .z)) (.q (.r []) .z))) fun R hR => ?_
 replace h := And.intro trivial h
 replace h := ite_a h
 rcases h with h | h
 obtain ⟨H, h⟩ := h
 cases h
 simp (disch := omega) only [vm, seval, H]
 refine ⟨(hR _ _ _ _ _ _ (by simp (disch := omega) only [vm, seval, H]; rfl) (.cons _ (.cons _ (List.Sublist.refl _))) ?_ (by omega) ?_).1⟩ <;> first | (simp (disch := omega) only [vm, seval, H]; done) | rfl
 simp (disch := omega) only [vm, seval, h.1]
 refine ⟨sjoin (γ := Unit) h [9, 15, 16, 17, 18, 19, 20, 21, 22, 23, 24, 25, 26, 27, 28, 29, 30, 31, 32, 33, 34, 35] [] (fun j1 g => []) (fun j1 g => ((n + 2), [.int .i64 j1.1, .str j1.2.1, .slice 1 (List.map AVal.str j1.2.2.1) false, .slice 4 (List.map encApiValue j1.2.2.2) false]) :: ((n + 1), [.int .i64 0, .str [], .slice 1 (List.map AVal.str []) true, .slice 4 (List.map encApiValue []) true]) :: (n, [.int .i64 a0.kind, .str a0.text, .slice 1 (List.map AVal.str a0.keys) false, .slice 4 (List.map encApiValue a0.items) false]) :: m) (.q (.r []) .z) ?_ ?_⟩ <;> clear h
 rintro j1 _ n4 hnn4 _ _ h
 refine wpc_snd (.q (.r []) .z) ?_
 replace h := bind_a h
 obtain ⟨y16, h⟩ := h
 simp (disch := omega) only [vm, seval, h.1]
 refine ⟨ref16_with_w h.1.1 (by first | (simp (disch := omega) only [vm, seval, h.1]; done) | rfl) fun n17 hn17 => ?_⟩
 obtain ⟨H, h⟩ := h
 cases h
 simp (disch := omega) only [vm, seval, H]
 refine ⟨(hR _ _ _ _ _ _ (by simp (disch := omega) only [vm, seval, H]; rfl) (.cons _ (.cons _ (.cons _ (List.Sublist.refl _)))) ?_ (by omega) ?_).1⟩ <;> first | (simp (disch := omega) only [vm, seval, H]; done) | rfl
 intro k2 Jk2 hk2 h
 replace h := grd_a h
 obtain ⟨hfk5, h⟩ := h
 simp (disch := omega) only [vm, seval, h.1]
 refine ⟨sloopr (σ := Int × (List UInt8) × (List (List UInt8)) × (List ApiValue)) (γ := Bool × Bool) a2 hfk5 (fun xs i s => ref16_members_L1 N k2 xs s.1 s.2.1 s.2.2.1 s.2.2.2) (fun i s g => [.int .i64 i]) (fun i s g => ((n + 2), [.int .i64 s.1, .str s.2.1, .slice 1 (List.map AVal.str s.2.2.1) g.1, .slice 4 (List.map encApiValue s.2.2.2) g.2]) :: ((n + 1), [.int .i64 0, .str [], .slice 1 (List.map AVal.str []) true, .slice 4 (List.map encApiValue []) true]) :: (n, [.int .i64 a0.kind, .str a0.text, .slice 1 (List.map AVal.str a0.keys) false, .slice 4 (List.map encApiValue a0.items) false]) :: m) [9, 18, 19, 20, 21, 22, 23, 24, 25, 26, 27, 28, 29, 30, 31, 32, 33, 34, 35] [17] (7, [], [], []) (true, true) h (by first | (simp (disch := omega) only [vm, seval, h.1]; done) | rfl) (by first | (simp (disch := omega) only [vm, seval, h.1]; done) | rfl) ?_ ?_⟩ <;> clear h
 rintro s17 ⟨bn2_kind, bn2_text, bn2_keys, bn2_items⟩ ⟨p0_2, p0_3⟩ nL0_1 hnL0_1 _ h
 change _ ∧ ref16_members_L1 N k2 [] bn2_kind bn2_text bn2_keys bn2_items = _ at h
 rw [ref16_members_L1] at h
 refine awp_stripBox (i := (n + 2)) (by simp (disch := omega) only [vm, seval, h.1]; rfl) ?_
 refine wpc_snd (.q (.r []) (.q (.c .z .z) .z)) ?_
 simp (disch := omega) only [vm, seval, h.1]
 refine ⟨hk2 (bn2_kind, bn2_text, bn2_keys, bn2_items) () _ _ _ _ h.2 (List.Sublist.refl _) ?_ ?_ ?_ (by omega)⟩ <;> first | (simp (disch := omega) only [vm, seval, h.1]; done) | rfl
 rintro xk5 xsk5 s17 ⟨bn2_kind, bn2_text, bn2_keys, bn2_items⟩ ⟨p0_2, p0_3⟩ nL0_1 hnL0_1 _ h Jk5 hk5
 change _ ∧ ref16_members_L1 N k2 (xk5 :: xsk5) bn2_kind bn2_text bn2_keys bn2_items = _ at h
 rw [ref16_members_L1] at h
 refine awp_stripBox (i := (n + 2)) (by simp (disch := omega) only [vm, seval, h.1]; rfl) ?_
 refine wpc_snd (.q (.r []) (.q (.c .z .z) .z)) ?_
 simp (disch := omega) only [vm, seval, h.1]
 refine ⟨sjoin (γ := Unit) h [9, 19, 20, 21, 22, 23, 24, 25, 26, 27, 28, 29, 30, 31, 32, 33, 34] [] (fun j6 g => []) (fun j6 g => ((n + 2), [.int .i64 j6.kind, .str j6.text, .slice 1 (List.map AVal.str j6.keys) false, .slice 4 (List.map encApiValue j6.items) false]) :: ((n + 1), [.int .i64 0, .str [], .slice 1 (List.map AVal.str []) true, .slice 4 (List.map encApiValue []) true]) :: (n, [.int .i64 a0.kind, .str a0.text, .slice 1 (List.map AVal.str a0.keys) false, .slice 4 (List.map encApiValue a0.items) false]) :: m) (.q (.r []) (.q (.r []) (.c (.r []) .z))) ?_ ?_⟩ <;> clear h
 rintro j6 _ n9 hnn9 _ _ h
 refine wpc_snd (.r []) ?_
 simp (disch := omega) only [vm, seval, h.1]
 refine ⟨hk5 (j6.kind, j6.text, j6.keys, j6.items) (false, false) _ _ _ _ h.2 (List.Sublist.refl _) ?_ ?_ ?_ (by omega)⟩ <;> first | (simp (disch := omega) only [vm, seval, h.1]; done) | rfl
 intro k7 Jk7 hk7 h
 replace h := ite_a h
 rcases h with h | h
 replace h := bind_a h
 obtain ⟨y10, h⟩ := h
 simp (disch := omega) only [vm, seval, h.1]
 refine ⟨ref16_with_w h.1.1 (by first | (simp (disch := omega) only [vm, seval, h.1]; done) | rfl) fun n11 hn11 => ?_⟩
 simp (disch := omega) only [vm, seval, h.1]
 refine ⟨hk7 y10 () _ _ _ _ h.2 (.cons _ (List.Sublist.refl _)) ?_ ?_ ?_ (by omega)⟩ <;> first | (simp (disch := omega) only [vm, seval, h.1]; done) | rfl
 replace h := bind_a h
 obtain ⟨y12, h⟩ := h
 have cy12 := h.1.1
 replace h := bind_a h
 obtain ⟨y14, h⟩ := h
 have cy14 := h.1.1
 simp (disch := omega) only [vm, seval, h.1]
 refine ⟨awp_drw [] (.take 0 (.take 1 (.take 2 (.take 3 (.take 4 (.alt 5 [3, 2, 1, 0] (.alt 6 [4, 3, 1] (.alt 7 [] (.done) (.stop)) (.stop)) (.stop))))))) vE_mixed (by kernel_rfl) ?_⟩
 simp (disch := omega) only [vm, seval, h.1]
 refine ⟨ref16_Text_w cy12 (by first | (simp (disch := omega) only [vm, seval, h.1]; done) | rfl) fun n13 hn13 => ?_⟩
 simp (disch := omega) only [vm, seval, h.1]
 refine ⟨ref16_with_w cy14 (by first | (simp (disch := omega) only [vm, seval, h.1]; done) | rfl) fun n15 hn15 => ?_⟩
 simp (disch := omega) only [vm, seval, h.1]
 refine ⟨hk7 y14 () _ _ _ _ h.2 (.cons _ (List.Sublist.refl _)) ?_ ?_ ?_ (by omega)⟩ <;> first | (simp (disch := omega) only [vm, seval, h.1]; done) | rfl
theorem jrd_object_text_w {a0 a1 a2 r} {i0 : Nat} (h : jrd_object_text N a0 a1 a2 = some r) (ha : args = [.ptr i0 0, .str a1, .str a2]) (hi0 : mget m i0 = some [.int .i64 a0.value.kind, .str a0.value.text, .slice 1 (List.map AVal.str a0.value.keys) true, .slice 4 (List.map encApiValue a0.value.items) true]) (hQ : ∀ n', n ≤ n' → Gl (Q (.tuple []) ⟨mset m i0 [.int .i64 r.value.kind, .str r.value.text, .slice 1 (List.map AVal.str r.value.keys) true, .slice 4 (List.map encApiValue r.value.items) true], n'⟩)) : ACall vE 41 args ⟨m, n⟩ Q := by
 rw [jrd_object_text] at h
 subst ha
 refine ACall.front hi0 fun hin => ent (fun n' k => ⟨_, rfl, (hQ n' k).go⟩) Try.func41 rfl Try.ntmps41 Try.results41 (.q (.r []) (.c (.r []) .z)) fun R hR => ?_
 replace h := And.intro trivial h
 replace h := ite_a h
 rcases h with h | h
 obtain ⟨H, h⟩ := h
 cases h
 simp (disch := omega) only [vm, seval, H]
 refine ⟨(hR _ _ _ _ _ _ (by simp (disch := omega) only [vm, seval, H]; rfl) (List.Sublist.refl _) ?_ (by omega) ?_).2⟩ <;> first | (simp (disch := omega) only [vm, seval, H]; done) | rfl
 replace h := bind_a h
 obtain ⟨y1, h⟩ := h
 simp (disch := omega) only [vm, seval, h.1]
 refine ⟨jrd_object_add_w h.1.1 (by first | (simp (disch := omega) only [vm, seval, h.1]; done) | rfl) (i0 := i0) (by simp (disch := omega) only [vm, seval, h.1]) fun n2 hn2 => ?_⟩
 obtain ⟨H, h⟩ := h
 cases h
 simp (disch := omega) only [vm, seval, H]
 refine ⟨(hR _ _ _ _ _ _ (by simp (disch := omega) only [vm, seval, H]; rfl) (List.Sublist.refl _) ?_ (by omega) ?_).2⟩ <;> first | (simp (disch := omega) only [vm, seval, H]; done) | rfl
theorem jrd_object_list_w {a0 a1 a2 r} {i0 : Nat} (h : jrd_object_list N a0 a1 a2 = some r) (ha : args = [.ptr i0 0, .str a1, .slice 4 (List.map encApiValue a2) false]) (hi0 : mget m i0 = some [.int .i64 a0.value.kind, .str a0.value.text, .slice 1 (List.map AVal.str a0.value.keys) true, .slice 4 (List.map encApiValue a0.value.items) true]) (hQ : ∀ n', n ≤ n' → Gl (Q (.tuple []) ⟨mset m i0 [.int .i64 r.value.kind, .str r.value.text, .slice 1 (List.map AVal.str r.value.keys) true, .slice 4 (List.map encApiValue r.value.items) true], n'⟩)) : ACall vE 42 args ⟨m, n⟩ Q := by
 rw [jrd_object_list] at h
 subst ha
 refine ACall.front hi0 fun hin => ent (fun n' k => ⟨_, rfl, (hQ n' k).go⟩) Try.func42 rfl Try.ntmps42 Try.results42 (.q (.r []) (.c (.r []) .z)) fun R hR => ?_
 replace h := And.intro trivial h
 replace h := ite_a h
 rcases h with h | h
 replace h := bind_a h
 obtain ⟨y1, h⟩ := h
 simp (disch := omega) only [vm, seval, h.1]
 refine ⟨jrd_object_add_w h.1.1 (by first | (simp (disch := omega) only [vm, seval, h.1]; done) | rfl) (i0 := i0) (by simp (disch := omega) only [vm, seval, h.1]) fun n2 hn2 => ?_⟩
 obtain ⟨H, h⟩ := h
 cases h
 simp (disch := omega) only [vm, seval, H]
 refine ⟨(hR _ _ _ _ _ _ (by simp (disch := omega) only [vm, seval, H]; rfl) (List.Sublist.refl _) ?_ (by omega) ?_).2⟩ <;> first | (simp (disch := omega) only [vm, seval, H]; done) | rfl
 obtain ⟨H, h⟩ := h
 cases h
 simp (disch := omega) only [vm, seval, H]
 refine ⟨(hR _ _ _ _ _ _ (by simp (disch := omega) only [vm, seval, H]; rfl) (List.Sublist.refl _) ?_ (by omega) ?_).2⟩ <;> first | (simp (disch := omega) only [vm, seval, H]; done) | rfl
theorem jrd_object_properties_w {a0 a1 a2 r} {i0 : Nat} (h : jrd_object_properties N a0 a1 a2 = some r) (ha : args = [.ptr i0 0, .str a1, .slice 3 (List.map encApiProperty a2) false]) (hi0 : mget m i0 = some [.int .i64 a0.value.kind, .str a0.value.text, .slice 1 (List.map AVal.str a0.value.keys) true, .slice 4 (List.map encApiValue a0.value.items) true]) (hQ : ∀ n', n ≤ n' → Gl (Q (.tuple []) ⟨mset m i0 [.int .i64 r.value.kind, .str r.value.text, .slice 1 (List.map AVal.str r.value.keys) true, .slice 4 (List.map encApiValue r.value.items) true], n'⟩)) : ACall vE 43 args ⟨m, n⟩ Q := by
 rw [jrd_object_properties] at h
 subst ha
 refine ACall.front hi0 fun hin => ent (fun n' k => ⟨_, rfl, (hQ n' k).go⟩) Try.func43 rfl Try.ntmps43 Try.results43 (.q (.q (.r []) (.c .z .z)) (.q (.r []) .z)) fun R hR => ?_
 replace h := And.intro trivial h
 replace h := ite_a h
 rcases h with h | h
 obtain ⟨H, h⟩ := h
 cases h
 simp (disch := omega) only [vm, seval, H]
 refine ⟨(hR _ _ _ _ _ _ (by simp (disch := omega) only [vm, seval, H]; rfl) (List.Sublist.refl _) ?_ (by omega) ?_).1⟩ <;> first | (simp (disch := omega) only [vm, seval, H]; done) | rfl
 simp (disch := omega) only [vm, seval, h.1]
 refine ⟨sjoin (γ := Unit) h [8, 9, 15, 16, 17, 18, 19, 20, 21, 22, 23, 24, 25, 26, 27, 28, 29, 30, 31] [] (fun j1 g => []) (fun j1 g => (n, [.int .i64 j1.1, .str j1.2.1, .slice 1 (List.map AVal.str j1.2.2.1) true, .slice 4 (List.map encApiValue j1.2.2.2) true]) :: (i0, [.int .i64 a0.value.kind, .str a0.value.text, .slice 1 (List.map AVal.str a0.value.keys) true, .slice 4 (List.map encApiValue a0.value.items) true]) :: mdel m i0) (.q (.r []) .z) ?_ ?_⟩ <;> clear h
 rintro j1 _ n4 hnn4 _ _ h
 refine wpc_snd (.r []) ?_
 replace h := bind_a h
 obtain ⟨y12, h⟩ := h
 simp (disch := omega) only [vm, seval, h.1]
 refine ⟨jrd_object_add_w h.1.1 (by first | (simp (disch := omega) only [vm, seval, h.1]; done) | rfl) (i0 := i0) (by simp (disch := omega) only [vm, seval, h.1]) fun n13 hn13 => ?_⟩
 obtain ⟨H, h⟩ := h
 cases h
 simp (disch := omega) only [vm, seval, H]
 refine ⟨(hR _ _ _ _ _ _ (by simp (disch := omega) only [vm, seval, H]; rfl) (.cons _ (List.Sublist.refl _)) ?_ (by omega) ?_).2⟩ <;> first | (simp (disch := omega) only [vm, seval, H]; done) | rfl
 intro k2 Jk2 hk2 h
 replace h := grd_a h
 obtain ⟨hfk5, h⟩ := h
 simp (disch := omega) only [vm, seval, h.1]
 refine ⟨sloopr (σ := Int × (List UInt8) × (List (List UInt8)) × (List ApiValue)) (γ := Unit) a2 hfk5 (fun xs i s => jrd_object_properties_L1 N k2 xs s.1 s.2.1 s.2.2.1 s.2.2.2) (fun i s g => [.int .i64 i]) (fun i s g => (n, [.int .i64 s.1, .str s.2.1, .slice 1 (List.map AVal.str s.2.2.1) true, .slice 4 (List.map encApiValue s.2.2.2) true]) :: (i0, [.int .i64 a0.value.kind, .str a0.value.text, .slice 1 (List.map AVal.str a0.value.keys) true, .slice 4 (List.map encApiValue a0.value.items) true]) :: mdel m i0) [8, 9, 18, 19, 20, 21, 22, 23, 24, 25, 26, 27, 28, 29, 30, 31] [17] (7, [], [], []) () h (by first | (simp (disch := omega) only [vm, seval, h.1]; done) | rfl) (by first | (simp (disch := omega) only [vm, seval, h.1]; done) | rfl) ?_ ?_⟩ <;> clear h
 rintro s17 ⟨bn_value_kind, bn_value_text, bn_value_keys, bn_value_items⟩ _ nL0_1 hnL0_1 _ h
 change _ ∧ jrd_object_properties_L1 N k2 [] bn_value_kind bn_value_text bn_value_keys bn_value_items = _ at h
 rw [jrd_object_properties_L1] at h
 refine wpc_snd (.q (.r []) (.q (.c .z .z) (.q (.q (.r []) (.q (.r []) .z)) (.r [])))) ?_
 simp (disch := omega) only [vm, seval, h.1]
 refine ⟨hk2 (bn_value_kind, bn_value_text, bn_value_keys, bn_value_items) () _ _ _ _ h.2 (List.Sublist.refl _) ?_ ?_ ?_ (by omega)⟩ <;> first | (simp (disch := omega) only [vm, seval, h.1]; done) | rfl
 rintro xk5 xsk5 s17 ⟨bn_value_kind, bn_value_text, bn_value_keys, bn_value_items⟩ _ nL0_1 hnL0_1 _ h Jk5 hk5
 change _ ∧ jrd_object_properties_L1 N k2 (xk5 :: xsk5) bn_value_kind bn_value_text bn_value_keys bn_value_items = _ at h
 rw [jrd_object_properties_L1] at h
 refine wpc_snd (.q (.r []) (.q (.c .z .z) (.q (.q (.r []) (.q (.r []) .z)) (.r [])))) ?_
 simp (disch := omega) only [vm, seval, h.1]
 refine ⟨sjoin (γ := Unit) h [24, 25, 26] [] (fun j6 g => []) (fun j6 g => ((nL0_1 + 1), [.int .i64 j6.1, .str j6.2, .slice 1 (List.map AVal.str []) true, .slice 4 (List.map encApiValue []) true]) :: (nL0_1, [.str xk5.name, .str xk5.value, .bool xk5.null]) :: (n, [.int .i64 bn_value_kind, .str bn_value_text, .slice 1 (List.map AVal.str bn_value_keys) true, .slice 4 (List.map encApiValue bn_value_items) true]) :: (i0, [.int .i64 a0.value.kind, .str a0.value.text, .slice 1 (List.map AVal.str a0.value.keys) true, .slice 4 (List.map encApiValue a0.value.items) true]) :: mdel m i0) (.q (.r []) (.c (.r []) .z)) ?_ ?_⟩ <;> clear h
 rintro j6 _ n9 hnn9 _ _ h
 refine wpc_snd (.r []) ?_
 replace h := bind_a h
 obtain ⟨y10, h⟩ := h
 simp (disch := omega) only [vm, seval, h.1]
 refine ⟨jrd_object_add_w h.1.1 (by first | (simp (disch := omega) only [vm, seval, h.1]; done) | rfl) (i0 := n) (by simp (disch := omega) only [vm, seval, h.1]) fun n11 hn11 => ?_⟩
 simp (disch := omega) only [vm, seval, h.1]
 refine ⟨hk5 (y10.value.kind, y10.value.text, y10.value.keys, y10.value.items) () _ _ _ _ h.2 (.cons _ (.cons _ (List.Sublist.refl _))) ?_ ?_ ?_ (by omega)⟩ <;> first | (simp (disch := omega) only [vm, seval, h.1]; done) | rfl
 intro k7 Jk7 hk7 h
 replace h := ite_a h
 rcases h with h | h
 simp (disch := omega) only [vm, seval, h.1]
 refine ⟨hk7 (1, []) () _ _ _ _ h.2 (List.Sublist.refl _) ?_ ?_ ?_ (by omega)⟩ <;> first | (simp (disch := omega) only [vm, seval, h.1]; done) | rfl
 simp (disch := omega) only [vm, seval, h.1]
 refine ⟨hk7 (5, xk5.value) () _ _ _ _ h.2 (List.Sublist.refl _) ?_ ?_ ?_ (by omega)⟩ <;> first | (simp (disch := omega) only [vm, seval, h.1]; done) | rfl
end Go.Proofs.Ytdbeiialamganaa
