/- That the code computes these functions; written by decomp.py. -/
import Derived.Test.YtdbeiialamganaaVmFacts
import Derived.Test.YtdbeiialamganaaDefs
import Derived.Test.YtdbeiialamganaaVM2
import Derived.Test.YtdbeiialamganaaW2
import Derived.Test.YtdbeiialamganaaW5
set_option linter.unusedVariables false
set_option linter.unusedSimpArgs false
set_option maxHeartbeats 4000000
set_option maxRecDepth 100000
set_option linter.defProp false
namespace Go.Proofs.Ytdbeiialamganaa
open Go.VM
variable {N n : Nat} {m : MS} {Q : PQ} {args : List AVal}
theorem ref13_text_w {a0 a1 r} (h : ref13_text N a0 a1 = some r) (ha : args = [.str a0, .int .i64 a1]) (hQ : ∀ n', n ≤ n' → Gl (Q (.tuple [.str r.1, .int .i64 r.2.1, .int .i64 r.2.2]) ⟨m, n'⟩)) : ACall vE 62 args ⟨m, n⟩ Q := by
 rw [ref13_text] at h
 subst ha
 refine ent hQ Try.func62 rfl Try.ntmps62 Try.results62 (.q (.r []) (.q (.r []) .z)) fun R hR => ?_
 replace h := And.intro trivial h
 simp (disch := omega) only [vm, seval, h.1]
 refine ⟨sjoin (γ := Unit) h [4, 5, 6, 7, 8, 9, 10, 11, 12, 13, 14, 15, 16, 17, 18, 19, 20, 21, 22, 23, 24, 25, 26, 27, 28, 29, 30, 31, 32, 33, 34, 35, 36, 37, 38, 39, 40, 41, 42, 43, 44, 45, 46, 47, 48, 49, 50, 51, 52, 53, 54, 55, 56, 57, 58, 59, 60, 61, 62, 63, 64, 65, 66, 67, 68, 69] [] (fun j1 g => []) (fun j1 g => m) (.q (.r []) .z) ?_ ?_⟩ <;> clear h
 rintro j1 _ n4 hnn4 _ _ h
 refine wpc_snd (.q (.r []) .z) ?_
 obtain ⟨H, h⟩ := h
 cases h
 simp (disch := omega) only [vm, seval, H]
 refine ⟨(hR _ _ _ _ _ _ (by simp (disch := omega) only [vm, seval, H]; rfl) (List.Sublist.refl _) ?_ (by omega) ?_).1⟩ <;> first | (simp (disch := omega) only [vm, seval, H]; done) | rfl
 intro k2 Jk2 hk2 h
 simp (disch := omega) only [vm, seval, h.1]
 refine ⟨sloop (σ := (List UInt8) × Int) (γ := Unit) (fun k s => ref13_text_L1 N a0 k2 k s.1 s.2) (fun s g => [.str s.1, .int .i64 s.2]) (fun s g => m) [4, 5, 6, 9, 10, 11, 12, 13, 14, 17, 18, 19, 20, 21, 22, 23, 24, 25, 26, 27, 28, 29, 30, 31, 32, 33, 34, 35, 36, 37, 38, 39, 40, 41, 42, 43, 44, 45, 46, 47, 48, 49, 50, 51, 52, 53, 54, 55, 56, 57, 58, 59, 60, 61, 62, 63, 64, 65, 66, 67, 68, 69] [7, 8] ([], (wr .i64 (a1 + 1))) () h (fun _ => rfl) (by first | (simp (disch := omega) only [vm, seval, h.1]; done) | rfl) (by first | (simp (disch := omega) only [vm, seval, h.1]; done) | rfl) ?_⟩
 clear h
 rintro k5 ⟨s7, s8⟩ _ nL0_1 hnL0_1 _ h Jk5 hk5
 change _ ∧ ref13_text_L1 N a0 k2 (k5 + 1) s7 s8 = _ at h
 rw [ref13_text_L1] at h
 refine wpc_snd (.q (.q (.r []) (.c .z .z)) (.q (.r []) (.c (.q (.r []) .z) (.q (.r []) (.c (.q (.r []) (.q (.q (.r []) (.c (.q (.r []) .z) .z)) (.r []))) (.q (.r []) (.c (.q (.r []) .z) (.q (.r []) (.q (.q (.r []) (.c (.q (.r []) .z) .z)) (.r [])))))))))) ?_
 replace h := ite_a h
 rcases h with h | h
 replace h := bind_a h
 obtain ⟨x6, h⟩ := h
 replace h := ite_a h
 rcases h with h | h
 obtain ⟨H, h⟩ := h
 cases h
 simp (disch := omega) only [vm, seval, H]
 refine ⟨(hR _ _ _ _ _ _ (by simp (disch := omega) only [vm, seval, H]; rfl) (List.Sublist.refl _) ?_ (by omega) ?_).1⟩ <;> first | (simp (disch := omega) only [vm, seval, H]; done) | rfl
 replace h := ite_a h
 rcases h with h | h
 replace h := bind_a h
 obtain ⟨y7, h⟩ := h
 simp (disch := omega) only [vm, seval, h.1]
 refine ⟨ref13_escape_w h.1.1 (by first | (simp (disch := omega) only [vm, seval, h.1]; done) | rfl) fun n8 hn8 => ?_⟩
 replace h := ite_a h
 rcases h with h | h
 obtain ⟨H, h⟩ := h
 cases h
 simp (disch := omega) only [vm, seval, H]
 refine ⟨(hR _ _ _ _ _ _ (by simp (disch := omega) only [vm, seval, H]; rfl) (List.Sublist.refl _) ?_ (by omega) ?_).1⟩ <;> first | (simp (disch := omega) only [vm, seval, H]; done) | rfl
 replace h := grd_a h
 obtain ⟨c, h⟩ := h
 try simp only [liE, seval] at c
 replace h := and_in c h
 simp (disch := omega) only [vm, seval, h.1]
 refine ⟨hk5 ((s7 ++ y7.1), y7.2.1) () _ _ _ _ h.2 (List.Sublist.refl _) ?_ ?_ ?_ (by omega)⟩ <;> first | (simp (disch := omega) only [vm, seval, h.1]; done) | rfl
 replace h := ite_a h
 rcases h with h | h
 obtain ⟨H, h⟩ := h
 cases h
 simp (disch := omega) only [vm, seval, H]
 refine ⟨(hR _ _ _ _ _ _ (by simp (disch := omega) only [vm, seval, H]; rfl) (List.Sublist.refl _) ?_ (by omega) ?_).1⟩ <;> first | (simp (disch := omega) only [vm, seval, H]; done) | rfl
 replace h := bind_a h
 obtain ⟨y9, h⟩ := h
 simp (disch := omega) only [vm, seval, h.1]
 refine ⟨ref02_Decode_w h.1.1 (by first | (simp (disch := omega) only [vm, seval, h.1]; done) | rfl) fun n10 hn10 => ?_⟩
 replace h := ite_a h
 rcases h with h | h
 obtain ⟨H, h⟩ := h
 cases h
 simp (disch := omega) only [vm, seval, H]
 refine ⟨(hR _ _ _ _ _ _ (by simp (disch := omega) only [vm, seval, H]; rfl) (List.Sublist.refl _) ?_ (by omega) ?_).1⟩ <;> first | (simp (disch := omega) only [vm, seval, H]; done) | rfl
 replace h := bind_a h
 obtain ⟨x11, h⟩ := h
 replace h := grd_a h
 obtain ⟨c, h⟩ := h
 try simp only [liE, seval] at c
 replace h := and_in c h
 simp (disch := omega) only [vm, seval, h.1]
 refine ⟨hk5 ((s7 ++ x11), y9.2.1) () _ _ _ _ h.2 (List.Sublist.refl _) ?_ ?_ ?_ (by omega)⟩ <;> first | (simp (disch := omega) only [vm, seval, h.1]; done) | rfl
 simp (disch := omega) only [vm, seval, h.1]
 refine ⟨hk2 () () _ _ _ _ h.2 (List.Sublist.refl _) ?_ ?_ ?_ (by omega)⟩ <;> first | (simp (disch := omega) only [vm, seval, h.1]; done) | rfl
end Go.Proofs.Ytdbeiialamganaa
