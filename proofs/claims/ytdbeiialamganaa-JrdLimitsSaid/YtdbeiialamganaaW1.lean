/- That the code computes these functions; written by decomp.py. -/
import Derived.Test.YtdbeiialamganaaVmFacts
import Derived.Test.YtdbeiialamganaaDefs
import Derived.Test.YtdbeiialamganaaVM2
import Derived.Test.YtdbeiialamganaaW0
set_option linter.unusedVariables false
set_option linter.unusedSimpArgs false
set_option maxHeartbeats 4000000
set_option maxRecDepth 100000
set_option linter.defProp false
namespace Go.Proofs.Ytdbeiialamganaa
open Go.VM
variable {N n : Nat} {m : MS} {Q : PQ} {args : List AVal}
theorem ref13_run_w {a0 r} (h : ref13_run N a0 = some r) (ha : args = [.str a0]) (hQ : ∀ n', n ≤ n' → Gl (Q (.int .i64 r) ⟨m, n'⟩)) : ACall vE 65 args ⟨m, n⟩ Q := by
 rw [ref13_run] at h
 subst ha
 refine ent hQ Try.func65 rfl Try.ntmps65 Try.results65 (.q (.r []) (.q (.r []) .z)) fun R hR => ?_
 replace h := And.intro trivial h
 simp (disch := omega) only [vm, seval, h.1]
 refine ⟨sjoin (γ := Unit) h [4, 5, 6, 7, 8, 9, 10, 11, 12, 13, 14, 15] [3] (fun j1 g => [.int .i64 j1]) (fun j1 g => m) .z ?_ ?_⟩ <;> clear h
 rintro j1 _ n4 hnn4 _ _ h
 refine wpc_snd (.q (.r []) .z) ?_
 obtain ⟨H, h⟩ := h
 cases h
 simp (disch := omega) only [vm, seval, H]
 refine ⟨(hR _ _ _ _ _ _ (by simp (disch := omega) only [vm, seval, H]; rfl) (List.Sublist.refl _) ?_ (by omega) ?_).1⟩ <;> first | (simp (disch := omega) only [vm, seval, H]; done) | rfl
 intro k2 Jk2 hk2 h
 simp (disch := omega) only [vm, seval, h.1]
 refine ⟨sloop (σ := Int) (γ := Unit) (fun k s => ref13_run_L1 N a0 k2 k s) (fun s g => [.int .i64 s]) (fun s g => m) [4, 5, 6, 7, 8, 9, 10, 11, 12, 13, 14, 15] [3] 0 () h (fun _ => rfl) (by first | (simp (disch := omega) only [vm, seval, h.1]; done) | rfl) (by first | (simp (disch := omega) only [vm, seval, h.1]; done) | rfl) ?_⟩
 clear h
 rintro k5 s3 _ nL0_1 hnL0_1 _ h Jk5 hk5
 change _ ∧ ref13_run_L1 N a0 k2 (k5 + 1) s3 = _ at h
 rw [ref13_run_L1] at h
 refine wpc_snd (.q .z (.r [])) ?_
 simp (disch := omega) only [vm, seval, h.1]
 refine ⟨sjoin (γ := Unit) h [4, 5, 6, 7, 8, 9, 10, 11, 12] [13] (fun j6 g => [.bool j6]) (fun j6 g => m) (.r []) ?_ ?_⟩ <;> clear h
 rintro j6 _ n9 hnn9 _ _ h
 refine wpc_snd (.c .z .z) ?_
 replace h := ite_a h
 rcases h with h | h
 simp (disch := omega) only [vm, seval, h.1]
 refine ⟨hk5 (wr .i64 (s3 + 1)) () _ _ _ _ h.2 (List.Sublist.refl _) ?_ ?_ ?_ (by omega)⟩ <;> first | (simp (disch := omega) only [vm, seval, h.1]; done) | rfl
 simp (disch := omega) only [vm, seval, h.1]
 refine ⟨hk2 s3 () _ _ _ _ h.2 (List.Sublist.refl _) ?_ ?_ ?_ (by omega)⟩ <;> first | (simp (disch := omega) only [vm, seval, h.1]; done) | rfl
 intro k7 Jk7 hk7 h
 replace h := ite_a h
 rcases h with h | h
 replace h := bind_a h
 obtain ⟨x10, h⟩ := h
 replace h := bind_a h
 obtain ⟨y11, h⟩ := h
 simp (disch := omega) only [vm, seval, h.1]
 refine ⟨ref01_IsDigit_w h.1.1 (by first | (simp (disch := omega) only [vm, seval, h.1]; done) | rfl) fun n12 hn12 => ?_⟩
 simp (disch := omega) only [vm, seval, h.1]
 refine ⟨hk7 y11 () _ _ _ _ h.2 (List.Sublist.refl _) ?_ ?_ ?_ (by omega)⟩ <;> first | (simp (disch := omega) only [vm, seval, h.1]; done) | rfl
 simp (disch := omega) only [vm, seval, h.1]
 refine ⟨hk7 false () _ _ _ _ h.2 (List.Sublist.refl _) ?_ ?_ ?_ (by omega)⟩ <;> first | (simp (disch := omega) only [vm, seval, h.1]; done) | rfl
theorem ref01_Index_w {a0 a1 r} (h : ref01_Index N a0 a1 = some r) (ha : args = [.str a0, .str a1]) (hQ : ∀ n', n ≤ n' → Gl (Q (.int .i64 r) ⟨m, n'⟩)) : ACall vE 56 args ⟨m, n⟩ Q := by
 rw [ref01_Index] at h
 subst ha
 refine ent hQ Try.func56 rfl Try.ntmps56 Try.results56 (.q (.r []) .z) fun R hR => ?_
 replace h := And.intro trivial h
 simp (disch := omega) only [vm, seval, h.1]
 refine ⟨sjoin (γ := Unit) h [4, 5, 6, 7, 8, 9, 10, 11, 12, 13, 14, 15, 16, 17] [] (fun j1 g => []) (fun j1 g => m) (.q (.r []) .z) ?_ ?_⟩ <;> clear h
 rintro j1 _ n4 hnn4 _ _ h
 refine wpc_snd (.q (.r []) .z) ?_
 obtain ⟨H, h⟩ := h
 cases h
 simp (disch := omega) only [vm, seval, H]
 refine ⟨(hR _ _ _ _ _ _ (by simp (disch := omega) only [vm, seval, H]; rfl) (List.Sublist.refl _) ?_ (by omega) ?_).1⟩ <;> first | (simp (disch := omega) only [vm, seval, H]; done) | rfl
 intro k2 Jk2 hk2 h
 replace h := grd_a h
 obtain ⟨hfk5, h⟩ := h
 simp (disch := omega) only [vm, seval, h.1]
 refine ⟨sloopr (σ := Unit) (γ := Unit) a0 hfk5 (fun xs i s => ref01_Index_L1 N a1 k2 xs i) (fun i s g => [.int .i64 i]) (fun i s g => m) [4, 6, 7, 8, 9, 10, 11, 12, 13, 14, 15, 16, 17] [5] () () h (by first | (simp (disch := omega) only [vm, seval, h.1]; done) | rfl) (by first | (simp (disch := omega) only [vm, seval, h.1]; done) | rfl) ?_ ?_⟩ <;> clear h
 rintro s5 _ _ nL0_1 hnL0_1 _ h
 change _ ∧ ref01_Index_L1 N a1 k2 [] s5 = _ at h
 rw [ref01_Index_L1] at h
 refine wpc_snd (.q (.q (.r []) (.c .z .z)) (.q (.q (.r []) (.c (.q (.r []) .z) .z)) (.r []))) ?_
 simp (disch := omega) only [vm, seval, h.1]
 refine ⟨hk2 () () _ _ _ _ h.2 (List.Sublist.refl _) ?_ ?_ ?_ (by omega)⟩ <;> first | (simp (disch := omega) only [vm, seval, h.1]; done) | rfl
 rintro xk5 xsk5 s5 _ _ nL0_1 hnL0_1 _ h Jk5 hk5
 change _ ∧ ref01_Index_L1 N a1 k2 (xk5 :: xsk5) s5 = _ at h
 rw [ref01_Index_L1] at h
 refine wpc_snd (.q (.q (.r []) (.c .z .z)) (.q (.q (.r []) (.c (.q (.r []) .z) .z)) (.r []))) ?_
 replace h := bind_a h
 obtain ⟨y6, h⟩ := h
 simp (disch := omega) only [vm, seval, h.1]
 refine ⟨ref01_In_w h.1.1 (by first | (simp (disch := omega) only [vm, seval, h.1]; done) | rfl) fun n7 hn7 => ?_⟩
 replace h := ite_a h
 rcases h with h | h
 obtain ⟨H, h⟩ := h
 cases h
 simp (disch := omega) only [vm, seval, H]
 refine ⟨(hR _ _ _ _ _ _ (by simp (disch := omega) only [vm, seval, H]; rfl) (List.Sublist.refl _) ?_ (by omega) ?_).1⟩ <;> first | (simp (disch := omega) only [vm, seval, H]; done) | rfl
 simp (disch := omega) only [vm, seval, h.1]
 refine ⟨hk5 () () _ _ _ _ h.2 (List.Sublist.refl _) ?_ ?_ ?_ (by omega)⟩ <;> first | (simp (disch := omega) only [vm, seval, h.1]; done) | rfl
theorem ref13_exponent_w {a0 r} (h : ref13_exponent N a0 = some r) (ha : args = [.str a0]) (hQ : ∀ n', n ≤ n' → Gl (Q (.int .i64 r) ⟨m, n'⟩)) : ACall vE 57 args ⟨m, n⟩ Q := by
 rw [ref13_exponent] at h
 subst ha
 refine ent hQ Try.func57 rfl Try.ntmps57 Try.results57 (.q (.r []) .z) fun R hR => ?_
 replace h := And.intro trivial h
 simp (disch := omega) only [vm, seval, h.1]
 refine ⟨sjoin (γ := Unit) h [6, 7, 8, 9, 10, 11, 12] [3] (fun j1 g => [.bool j1]) (fun j1 g => m) (.r []) ?_ ?_⟩ <;> clear h
 rintro j1 _ n4 hnn4 _ _ h
 refine wpc_snd .z ?_
 simp (disch := omega) only [vm, seval, h.1]
 refine ⟨sjoin (γ := Unit) h [13, 14, 15, 16, 17, 18, 19, 20, 21] [0] (fun j6 g => [.str j6]) (fun j6 g => m) .z ?_ ?_⟩ <;> clear h
 rintro j6 _ n9 hnn9 _ _ h
 refine wpc_snd (.q (.r []) .z) ?_
 simp (disch := omega) only [vm, seval, h.1]
 refine ⟨sjoin (γ := Unit) h [5, 22, 23, 24, 25, 26, 27, 28, 29, 30, 31, 32, 33, 34, 35, 36] [4] (fun j18 g => [.int .i64 j18]) (fun j18 g => m) (.q (.r []) .z) ?_ ?_⟩ <;> clear h
 rintro j18 _ n21 hnn21 _ _ h
 refine wpc_snd (.q (.q (.r []) (.c (.q (.r []) .z) .z)) (.q (.r []) .z)) ?_
 replace h := ite_a h
 rcases h with h | h
 obtain ⟨H, h⟩ := h
 cases h
 simp (disch := omega) only [vm, seval, H]
 refine ⟨(hR _ _ _ _ _ _ (by simp (disch := omega) only [vm, seval, H]; rfl) (List.Sublist.refl _) ?_ (by omega) ?_).1⟩ <;> first | (simp (disch := omega) only [vm, seval, H]; done) | rfl
 obtain ⟨H, h⟩ := h
 cases h
 simp (disch := omega) only [vm, seval, H]
 refine ⟨(hR _ _ _ _ _ _ (by simp (disch := omega) only [vm, seval, H]; rfl) (List.Sublist.refl _) ?_ (by omega) ?_).1⟩ <;> first | (simp (disch := omega) only [vm, seval, H]; done) | rfl
 intro k19 Jk19 hk19 h
 replace h := grd_a h
 obtain ⟨hfk22, h⟩ := h
 simp (disch := omega) only [vm, seval, h.1]
 refine ⟨sloopr (σ := Int) (γ := Unit) j6 hfk22 (fun xs i s => ref13_exponent_L1 N k19 xs s) (fun i s g => [.int .i64 s, .int .i64 i]) (fun i s g => m) [22, 23, 24, 25, 26, 27, 28, 29, 30, 31, 32, 33, 34, 35, 36] [4, 5] 0 () h (by first | (simp (disch := omega) only [vm, seval, h.1]; done) | rfl) (by first | (simp (disch := omega) only [vm, seval, h.1]; done) | rfl) ?_ ?_⟩ <;> clear h
 rintro s5 s4 _ nL0_1 hnL0_1 _ h
 change _ ∧ ref13_exponent_L1 N k19 [] s4 = _ at h
 rw [ref13_exponent_L1] at h
 refine wpc_snd (.q (.q (.r []) (.c .z .z)) (.q (.r []) (.r []))) ?_
 simp (disch := omega) only [vm, seval, h.1]
 refine ⟨hk19 s4 () _ _ _ _ h.2 (List.Sublist.refl _) ?_ ?_ ?_ (by omega)⟩ <;> first | (simp (disch := omega) only [vm, seval, h.1]; done) | rfl
 rintro xk22 xsk22 s5 s4 _ nL0_1 hnL0_1 _ h Jk22 hk22
 change _ ∧ ref13_exponent_L1 N k19 (xk22 :: xsk22) s4 = _ at h
 rw [ref13_exponent_L1] at h
 refine wpc_snd (.q (.q (.r []) (.c .z .z)) (.q (.r []) (.r []))) ?_
 simp (disch := omega) only [vm, seval, h.1]
 refine ⟨hk22 (if 1073741824 < (wr .i64 ((wr .i64 (s4 * 10)) + (wr .i64 (wr .u8 ((bord xk22) - 48))))) then 1073741824 else (wr .i64 ((wr .i64 (s4 * 10)) + (wr .i64 (wr .u8 ((bord xk22) - 48)))))) () _ _ _ _ h.2 (List.Sublist.refl _) ?_ ?_ ?_ (by omega)⟩ <;> first | (simp (disch := omega) only [vm, seval, h.1]; done) | rfl
 intro k7 Jk7 hk7 h
 simp (disch := omega) only [vm, seval, h.1]
 refine ⟨sjoin (γ := Unit) h [13, 14, 15, 16, 17, 18] [19] (fun j10 g => [.bool j10]) (fun j10 g => m) (.r []) ?_ ?_⟩ <;> clear h
 rintro j10 _ n13 hnn13 _ _ h
 refine wpc_snd (.c (.r []) .z) ?_
 replace h := ite_a h
 rcases h with h | h
 replace h := bind_a h
 obtain ⟨x17, h⟩ := h
 simp (disch := omega) only [vm, seval, h.1]
 refine ⟨hk7 x17 () _ _ _ _ h.2 (List.Sublist.refl _) ?_ ?_ ?_ (by omega)⟩ <;> first | (simp (disch := omega) only [vm, seval, h.1]; done) | rfl
 simp (disch := omega) only [vm, seval, h.1]
 refine ⟨hk7 a0 () _ _ _ _ h.2 (List.Sublist.refl _) ?_ ?_ ?_ (by omega)⟩ <;> first | (simp (disch := omega) only [vm, seval, h.1]; done) | rfl
 intro k11 Jk11 hk11 h
 replace h := ite_a h
 rcases h with h | h
 simp (disch := omega) only [vm, seval, h.1]
 refine ⟨hk11 false () _ _ _ _ h.2 (List.Sublist.refl _) ?_ ?_ ?_ (by omega)⟩ <;> first | (simp (disch := omega) only [vm, seval, h.1]; done) | rfl
 replace h := bind_a h
 obtain ⟨x14, h⟩ := h
 replace h := bind_a h
 obtain ⟨y15, h⟩ := h
 simp (disch := omega) only [vm, seval, h.1]
 refine ⟨ref01_In_w h.1.1 (by first | (simp (disch := omega) only [vm, seval, h.1]; done) | rfl) fun n16 hn16 => ?_⟩
 simp (disch := omega) only [vm, seval, h.1]
 refine ⟨hk11 y15 () _ _ _ _ h.2 (List.Sublist.refl _) ?_ ?_ ?_ (by omega)⟩ <;> first | (simp (disch := omega) only [vm, seval, h.1]; done) | rfl
 intro k2 Jk2 hk2 h
 replace h := ite_a h
 rcases h with h | h
 simp (disch := omega) only [vm, seval, h.1]
 refine ⟨hk2 false () _ _ _ _ h.2 (List.Sublist.refl _) ?_ ?_ ?_ (by omega)⟩ <;> first | (simp (disch := omega) only [vm, seval, h.1]; done) | rfl
 replace h := bind_a h
 obtain ⟨x5, h⟩ := h
 simp (disch := omega) only [vm, seval, h.1]
 refine ⟨hk2 ((bord x5) == 45) () _ _ _ _ h.2 (List.Sublist.refl _) ?_ ?_ ?_ (by omega)⟩ <;> first | (simp (disch := omega) only [vm, seval, h.1]; done) | rfl
theorem ref13_white_w {a0 r} (h : ref13_white N a0 = some r) (ha : args = [.int .u8 a0]) (hQ : ∀ n', n ≤ n' → Gl (Q (.bool r) ⟨m, n'⟩)) : ACall vE 60 args ⟨m, n⟩ Q := by
 rw [ref13_white] at h
 subst ha
 refine ent hQ Try.func60 rfl Try.ntmps60 Try.results60 (.q (.r []) (.q (.r []) .z)) fun R hR => ?_
 replace h := And.intro trivial h
 replace h := bind_a h
 obtain ⟨y1, h⟩ := h
 simp (disch := omega) only [vm, seval, h.1]
 refine ⟨ref01_In_w h.1.1 (by first | (simp (disch := omega) only [vm, seval, h.1]; done) | rfl) fun n2 hn2 => ?_⟩
 obtain ⟨H, h⟩ := h
 cases h
 simp (disch := omega) only [vm, seval, H]
 refine ⟨(hR _ _ _ _ _ _ (by simp (disch := omega) only [vm, seval, H]; rfl) (List.Sublist.refl _) ?_ (by omega) ?_).1⟩ <;> first | (simp (disch := omega) only [vm, seval, H]; done) | rfl
theorem ref01_IsHex_w {a0 r} (h : ref01_IsHex N a0 = some r) (ha : args = [.int .u8 a0]) (hQ : ∀ n', n ≤ n' → Gl (Q (.bool r) ⟨m, n'⟩)) : ACall vE 74 args ⟨m, n⟩ Q := by
 rw [ref01_IsHex] at h
 subst ha
 refine ent hQ Try.func74 rfl Try.ntmps74 Try.results74 (.q (.r []) (.q (.r []) .z)) fun R hR => ?_
 replace h := And.intro trivial h
 replace h := bind_a h
 obtain ⟨y1, h⟩ := h
 simp (disch := omega) only [vm, seval, h.1]
 refine ⟨ref01_IsDigit_w h.1.1 (by first | (simp (disch := omega) only [vm, seval, h.1]; done) | rfl) fun n2 hn2 => ?_⟩
 replace h := ite_a h
 rcases h with h | h
 obtain ⟨H, h⟩ := h
 cases h
 simp (disch := omega) only [vm, seval, H]
 refine ⟨(hR _ _ _ _ _ _ (by simp (disch := omega) only [vm, seval, H]; rfl) (List.Sublist.refl _) ?_ (by omega) ?_).1⟩ <;> first | (simp (disch := omega) only [vm, seval, H]; done) | rfl
 replace h := ite_a h
 rcases h with h | h
 replace h := ite_a h
 rcases h with h | h
 obtain ⟨H, h⟩ := h
 cases h
 simp (disch := omega) only [vm, seval, H]
 refine ⟨(hR _ _ _ _ _ _ (by simp (disch := omega) only [vm, seval, H]; rfl) (List.Sublist.refl _) ?_ (by omega) ?_).1⟩ <;> first | (simp (disch := omega) only [vm, seval, H]; done) | rfl
 replace h := ite_a h
 rcases h with h | h
 obtain ⟨H, h⟩ := h
 cases h
 simp (disch := omega) only [vm, seval, H]
 refine ⟨(hR _ _ _ _ _ _ (by simp (disch := omega) only [vm, seval, H]; rfl) (List.Sublist.refl _) ?_ (by omega) ?_).1⟩ <;> first | (simp (disch := omega) only [vm, seval, H]; done) | rfl
 obtain ⟨H, h⟩ := h
 cases h
 simp (disch := omega) only [vm, seval, H]
 refine ⟨(hR _ _ _ _ _ _ (by simp (disch := omega) only [vm, seval, H]; rfl) (List.Sublist.refl _) ?_ (by omega) ?_).1⟩ <;> first | (simp (disch := omega) only [vm, seval, H]; done) | rfl
 replace h := ite_a h
 rcases h with h | h
 obtain ⟨H, h⟩ := h
 cases h
 simp (disch := omega) only [vm, seval, H]
 refine ⟨(hR _ _ _ _ _ _ (by simp (disch := omega) only [vm, seval, H]; rfl) (List.Sublist.refl _) ?_ (by omega) ?_).1⟩ <;> first | (simp (disch := omega) only [vm, seval, H]; done) | rfl
 obtain ⟨H, h⟩ := h
 cases h
 simp (disch := omega) only [vm, seval, H]
 refine ⟨(hR _ _ _ _ _ _ (by simp (disch := omega) only [vm, seval, H]; rfl) (List.Sublist.refl _) ?_ (by omega) ?_).1⟩ <;> first | (simp (disch := omega) only [vm, seval, H]; done) | rfl
theorem ref02_Encode_w {a0 r} (h : ref02_Encode N a0 = some r) (ha : args = [.int .i64 a0]) (hQ : ∀ n', n ≤ n' → Gl (Q (.tuple [.str r.1, .int .i64 r.2]) ⟨m, n'⟩)) : ACall vE 69 args ⟨m, n⟩ Q := by
 rw [ref02_Encode] at h
 subst ha
 refine ent hQ Try.func69 rfl Try.ntmps69 Try.results69 (.q (.r []) (.q (.q (.r []) (.c (.q (.r []) .z) (.q (.r []) (.c (.q (.r []) .z) (.q (.r []) (.c (.q (.r []) .z) (.q (.r []) (.c (.q (.r []) .z) .z)))))))) (.q (.r []) .z))) fun R hR => ?_
 replace h := And.intro trivial h
 replace h := bind_a h
 obtain ⟨y1, h⟩ := h
 simp (disch := omega) only [vm, seval, h.1]
 refine ⟨ref02_point_w h.1.1 (by first | (simp (disch := omega) only [vm, seval, h.1]; done) | rfl) fun n2 hn2 => ?_⟩
 replace h := ite_a h
 rcases h with h | h
 replace h := ite_a h
 rcases h with h | h
 obtain ⟨H, h⟩ := h
 cases h
 simp (disch := omega) only [vm, seval, H]
 refine ⟨(hR _ _ _ _ _ _ (by simp (disch := omega) only [vm, seval, H]; rfl) (List.Sublist.refl _) ?_ (by omega) ?_).1⟩ <;> first | (simp (disch := omega) only [vm, seval, H]; done) | rfl
 replace h := ite_a h
 rcases h with h | h
 refine letL_a h ?_
 clear h
 intro l3 c h
 replace c := congrArg (List.map (AVal.int .u8)) c
 simp only [List.map_cons, List.map_nil, eE] at c
 replace h := and_in c h
 obtain ⟨H, h⟩ := h
 cases h
 simp (disch := omega) only [vm, seval, H]
 refine ⟨(hR _ _ _ _ _ _ (by simp (disch := omega) only [vm, seval, H]; rfl) (List.Sublist.refl _) ?_ (by omega) ?_).1⟩ <;> first | (simp (disch := omega) only [vm, seval, H]; done) | rfl
 replace h := ite_a h
 rcases h with h | h
 refine letL_a h ?_
 clear h
 intro l4 c h
 replace c := congrArg (List.map (AVal.int .u8)) c
 simp only [List.map_cons, List.map_nil, eE] at c
 replace h := and_in c h
 obtain ⟨H, h⟩ := h
 cases h
 simp (disch := omega) only [vm, seval, H]
 refine ⟨(hR _ _ _ _ _ _ (by simp (disch := omega) only [vm, seval, H]; rfl) (List.Sublist.refl _) ?_ (by omega) ?_).1⟩ <;> first | (simp (disch := omega) only [vm, seval, H]; done) | rfl
 refine letL_a h ?_
 clear h
 intro l5 c h
 replace c := congrArg (List.map (AVal.int .u8)) c
 simp only [List.map_cons, List.map_nil, eE] at c
 replace h := and_in c h
 obtain ⟨H, h⟩ := h
 cases h
 simp (disch := omega) only [vm, seval, H]
 refine ⟨(hR _ _ _ _ _ _ (by simp (disch := omega) only [vm, seval, H]; rfl) (List.Sublist.refl _) ?_ (by omega) ?_).1⟩ <;> first | (simp (disch := omega) only [vm, seval, H]; done) | rfl
 obtain ⟨H, h⟩ := h
 cases h
 simp (disch := omega) only [vm, seval, H]
 refine ⟨(hR _ _ _ _ _ _ (by simp (disch := omega) only [vm, seval, H]; rfl) (List.Sublist.refl _) ?_ (by omega) ?_).1⟩ <;> first | (simp (disch := omega) only [vm, seval, H]; done) | rfl
theorem jrd_decoder_text_w {a0 a1 r} {i0 : Nat} (h : jrd_decoder_text N a0 a1 = some r) (ha : args = [.ptr i0 0, encApiValue a1]) (hi0 : mget m i0 = some ([.int .i64 a0.e])) (hQ : ∀ n', n ≤ n' → Gl (Q (.str r.1) ⟨mset m i0 ([.int .i64 r.2.e]), n'⟩)) : ACall vE 28 args ⟨m, n⟩ Q := by
 rw [jrd_decoder_text] at h
 subst ha
 refine ACall.front hi0 fun hin => ent (fun n' k => ⟨_, rfl, (hQ n' k).go⟩) Try.func28 rfl Try.ntmps28 Try.results28 (.q (.r []) (.q (.q (.r []) (.c (.q (.r []) (.q (.r []) .z)) .z)) (.q (.r []) .z))) fun R hR => ?_
 replace h := And.intro trivial h
 replace h := ite_a h
 rcases h with h | h
 replace h := bind_a h
 obtain ⟨y1, h⟩ := h
 simp (disch := omega) only [vm, seval, h.1]
 refine ⟨jrd_decoder_fail_w h.1.1 (by first | (simp (disch := omega) only [vm, seval, h.1]; done) | rfl) (i0 := i0) (by simp (disch := omega) only [vm, seval, h.1]) fun n2 hn2 => ?_⟩
 obtain ⟨H, h⟩ := h
 cases h
 simp (disch := omega) only [vm, seval, H]
 refine ⟨(hR _ _ _ _ _ _ (by simp (disch := omega) only [vm, seval, H]; rfl) (.cons _ (List.Sublist.refl _)) ?_ (by omega) ?_).1⟩ <;> first | (simp (disch := omega) only [vm, seval, H]; done) | rfl
 obtain ⟨H, h⟩ := h
 cases h
 simp (disch := omega) only [vm, seval, H]
 refine ⟨(hR _ _ _ _ _ _ (by simp (disch := omega) only [vm, seval, H]; rfl) (.cons _ (List.Sublist.refl _)) ?_ (by omega) ?_).1⟩ <;> first | (simp (disch := omega) only [vm, seval, H]; done) | rfl
theorem jrd_decoder_items_w {a0 a1 a2 a3 a4 r} {i0 : Nat} (h : jrd_decoder_items N a0 a1 a2 a3 a4 = some r) (ha : args = [.ptr i0 0, encApiValue a1, .str a2, .int .i64 a3, .int .i64 a4]) (hi0 : mget m i0 = some ([.int .i64 a0.e])) (hQ : ∀ n', n ≤ n' → Gl (Q (encApiValue r.1) ⟨mset m i0 ([.int .i64 r.2.e]), n'⟩)) : ACall vE 27 args ⟨m, n⟩ Q := by
 rw [jrd_decoder_items] at h
 subst ha
 refine ACall.front hi0 fun hin => ent_s (fun n' k => ⟨_, rfl, (hQ n' k).go⟩) Try.func27 rfl Try.ntmps27 Try.results27 (.q (.r []) (.q (.r []) (.q .z (.q (.r []) .z)))) fun R hR => ?_
 replace h := And.intro trivial h
 replace h := bind_a h
 obtain ⟨y1, h⟩ := h
 simp (disch := omega) only [vm, seval, h.1]
 refine ⟨jsondoc_Get_w h.1.1 (by first | (simp (disch := omega) only [vm, seval, h.1]; done) | rfl) fun n2 hn2 => ?_⟩
 simp (disch := omega) only [vm, seval, h.1]
 refine ⟨sjoin (γ := Unit) h [20, 21, 22, 23, 24, 25, 26, 27, 28] [19] (fun j3 g => [.bool j3]) (fun j3 g => (n2, [.int .i64 y1.1.kind, .str y1.1.text, .slice 1 (List.map AVal.str y1.1.keys) false, .slice 4 (List.map encApiValue y1.1.items) false]) :: ((n + 1), [.int .i64 0, .str [], .slice 1 (List.map AVal.str []) true, .slice 4 (List.map encApiValue []) true]) :: (n, [.int .i64 a1.kind, .str a1.text, .slice 1 (List.map AVal.str a1.keys) false, .slice 4 (List.map encApiValue a1.items) false]) :: (i0, [.int .i64 a0.e]) :: mdel m i0) (.r []) ?_ ?_⟩ <;> clear h
 rintro j3 _ n6 hnn6 _ _ h
 refine wpc_snd (.c (.q (.r []) .z) (.q (.r []) (.c (.q (.r []) (.q (.r []) .z)) (.q (.r []) (.c (.q (.r []) (.q (.r []) .z)) .z))))) ?_
 replace h := ite_a h
 rcases h with h | h
 obtain ⟨H, h⟩ := h
 cases h
 simp (disch := omega) only [vm, seval, H]
 refine ⟨(hR _ _ _ _ _ _ (by simp (disch := omega) only [vm, seval, H]; rfl) (.cons _ (.cons _ (.cons _ (List.Sublist.refl _)))) ?_ (by omega) ?_).1⟩ <;> first | (simp (disch := omega) only [vm, seval, H]; done) | rfl
 replace h := ite_a h
 rcases h with h | h
 replace h := bind_a h
 obtain ⟨y7, h⟩ := h
 simp (disch := omega) only [vm, seval, h.1]
 refine ⟨jrd_decoder_fail_w h.1.1 (by first | (simp (disch := omega) only [vm, seval, h.1]; done) | rfl) (i0 := i0) (by simp (disch := omega) only [vm, seval, h.1]) fun n8 hn8 => ?_⟩
 obtain ⟨H, h⟩ := h
 cases h
 simp (disch := omega) only [vm, seval, H]
 refine ⟨(hR _ _ _ _ _ _ (by simp (disch := omega) only [vm, seval, H]; rfl) (.cons _ (.cons _ (.cons _ (List.Sublist.refl _)))) ?_ (by omega) ?_).1⟩ <;> first | (simp (disch := omega) only [vm, seval, H]; done) | rfl
 replace h := bind_a h
 obtain ⟨y9, h⟩ := h
 simp (disch := omega) only [vm, seval, h.1]
 refine ⟨jrd_count_w h.1.1 (by first | (simp (disch := omega) only [vm, seval, h.1]; done) | rfl) fun n10 hn10 => ?_⟩
 replace h := ite_a h
 rcases h with h | h
 replace h := bind_a h
 obtain ⟨y11, h⟩ := h
 simp (disch := omega) only [vm, seval, h.1]
 refine ⟨jrd_decoder_fail_w h.1.1 (by first | (simp (disch := omega) only [vm, seval, h.1]; done) | rfl) (i0 := i0) (by simp (disch := omega) only [vm, seval, h.1]) fun n12 hn12 => ?_⟩
 obtain ⟨H, h⟩ := h
 cases h
 simp (disch := omega) only [vm, seval, H]
 refine ⟨(hR _ _ _ _ _ _ (by simp (disch := omega) only [vm, seval, H]; rfl) (.cons _ (.cons _ (.cons _ (List.Sublist.refl _)))) ?_ (by omega) ?_).1⟩ <;> first | (simp (disch := omega) only [vm, seval, H]; done) | rfl
 obtain ⟨H, h⟩ := h
 cases h
 simp (disch := omega) only [vm, seval, H]
 refine ⟨(hR _ _ _ _ _ _ (by simp (disch := omega) only [vm, seval, H]; rfl) (.cons _ (.cons _ (.cons _ (List.Sublist.refl _)))) ?_ (by omega) ?_).1⟩ <;> first | (simp (disch := omega) only [vm, seval, H]; done) | rfl
 intro k4 Jk4 hk4 h
 replace h := ite_a h
 rcases h with h | h
 simp (disch := omega) only [vm, seval, h.1]
 refine ⟨hk4 (a0.e != 0) () _ _ _ _ h.2 (List.Sublist.refl _) ?_ ?_ ?_ (by omega)⟩ <;> first | (simp (disch := omega) only [vm, seval, h.1]; done) | rfl
 simp (disch := omega) only [vm, seval, h.1]
 refine ⟨hk4 true () _ _ _ _ h.2 (List.Sublist.refl _) ?_ ?_ ?_ (by omega)⟩ <;> first | (simp (disch := omega) only [vm, seval, h.1]; done) | rfl
end Go.Proofs.Ytdbeiialamganaa
