/- That the code computes these functions; written by decomp.py. -/
import Derived.Test.YtmdjjhakfoenpaaDoorVmFacts
import Derived.Test.YtmdjjhakfoenpaaDoorDefs
import Derived.Test.YtmdjjhakfoenpaaDoorVM2
import Derived.Test.YtmdjjhakfoenpaaDoorW1
import Derived.Test.YtmdjjhakfoenpaaDoorW3
import Derived.Test.YtmdjjhakfoenpaaDoorW6
import Derived.Test.YtmdjjhakfoenpaaDoorW7
import Derived.Test.YtmdjjhakfoenpaaDoorW8
import Derived.Test.YtmdjjhakfoenpaaDoorW10
import Derived.Test.YtmdjjhakfoenpaaDoorW11
import Derived.Test.YtmdjjhakfoenpaaDoorW12
set_option linter.unusedVariables false
set_option linter.unusedSimpArgs false
set_option maxHeartbeats 4000000
set_option maxRecDepth 100000
set_option linter.defProp false
namespace Go.Proofs.YtmdjjhakfoenpaaDoor
open Go.VM
variable {N n : Nat} {m : MS} {Q : PQ} {args : List AVal}
theorem law13_TokenReads_w {a0 a1 r} (h : law13_TokenReads N a0 a1 = some r) (ha : args = [.str a0, .int .i64 a1]) (hQ : ∀ n', n ≤ n' → Gl (Q (.bool r) ⟨m, n'⟩)) : ACall vE 3 args ⟨m, n⟩ Q := by
 rw [law13_TokenReads] at h
 subst ha
 refine ent hQ Tryd.func3 rfl Tryd.ntmps3 Tryd.results3 (.q (.r []) (.q (.q (.r []) (.c (.q (.r []) .z) .z)) (.q (.q (.r []) (.c (.q (.r []) .z) .z)) .z))) fun R hR => ?_
 replace h := And.intro trivial h
 replace h := bind_a h
 obtain ⟨y1, h⟩ := h
 simp (disch := omega) only [vm, seval, h.1]
 refine ⟨law13_sane_w h.1.1 (by first | (simp (disch := omega) only [vm, seval, h.1]; done) | rfl) fun n2 hn2 => ?_⟩
 replace h := ite_a h
 rcases h with h | h
 replace h := ite_a h
 rcases h with h | h
 obtain ⟨H, h⟩ := h
 cases h
 simp (disch := omega) only [vm, seval, H]
 refine ⟨(hR _ _ _ _ _ _ (by simp (disch := omega) only [vm, seval, H]; rfl) (List.Sublist.refl _) ?_ (by omega) ?_).1⟩ <;> first | (simp (disch := omega) only [vm, seval, H]; done) | rfl
 simp (disch := omega) only [vm, seval, h.1]
 refine ⟨sjoin (γ := Unit) h [4, 6, 7, 8, 9, 10, 11, 12, 18, 19, 20, 21, 22, 23, 24, 25, 26, 27, 28, 29, 30, 31, 32, 33, 34, 35, 36, 37, 38, 39, 40, 41, 42, 43, 44, 45, 46, 47, 48, 49, 50, 51, 52] [] (fun j3 g => []) (fun j3 g => m) (.q (.r []) .z) ?_ ?_⟩ <;> clear h
 rintro j3 _ n6 hnn6 _ _ h
 refine wpc_snd (.q (.r []) .z) ?_
 obtain ⟨H, h⟩ := h
 cases h
 simp (disch := omega) only [vm, seval, H]
 refine ⟨(hR _ _ _ _ _ _ (by simp (disch := omega) only [vm, seval, H]; rfl) (List.Sublist.refl _) ?_ (by omega) ?_).1⟩ <;> first | (simp (disch := omega) only [vm, seval, H]; done) | rfl
 intro k4 Jk4 hk4 h
 refine letL_a h ?_
 clear h
 intro l7 c h
 replace c := congrArg (List.map (AVal.int .i64)) c
 simp only [List.map_cons, List.map_nil, eE] at c
 replace h := and_in c h
 replace h := grd_a h
 obtain ⟨hfk8, h⟩ := h
 simp (disch := omega) only [vm, seval, h.1]
 refine ⟨sloopr (σ := Unit) (γ := Unit) l7 hfk8 (fun xs i s => law13_TokenReads_L1 N a0 k4 xs) (fun i s g => [.int .i64 i]) (fun i s g => m) [4, 6, 7, 8, 9, 10, 11, 12, 22, 23, 24, 25, 26, 27, 28, 29, 30, 31, 32, 33, 34, 35, 36, 37, 38, 39, 40, 41, 42, 43, 44, 45, 46, 47, 48, 49, 50, 51, 52] [21] () () h (by first | (simp (disch := omega) only [vm, seval, h.1]; done) | rfl) (by first | (simp (disch := omega) only [vm, seval, h.1]; done) | rfl) ?_ ?_⟩ <;> clear h
 rintro s21 _ _ nL0_1 hnL0_1 _ h
 change _ ∧ law13_TokenReads_L1 N a0 k4 [] = _ at h
 rw [law13_TokenReads_L1] at h
 refine wpc_snd (.q (.r []) (.q (.c .z .z) (.q (.q (.r []) (.q (.r []) (.q (.r []) .z))) (.r [])))) ?_
 simp (disch := omega) only [vm, seval, h.1]
 refine ⟨hk4 () () _ _ _ _ h.2 (List.Sublist.refl _) ?_ ?_ ?_ (by omega)⟩ <;> first | (simp (disch := omega) only [vm, seval, h.1]; done) | rfl
 rintro xk8 xsk8 s21 _ _ nL0_1 hnL0_1 _ h Jk8 hk8
 change _ ∧ law13_TokenReads_L1 N a0 k4 (xk8 :: xsk8) = _ at h
 rw [law13_TokenReads_L1] at h
 refine wpc_snd (.q (.r []) (.q (.c .z .z) (.q (.q (.r []) (.q (.r []) (.q (.r []) .z))) (.r [])))) ?_
 replace h := bind_a h
 obtain ⟨y9, h⟩ := h
 simp (disch := omega) only [vm, seval, h.1]
 refine ⟨token_Next_w h.1.1 (by first | (simp (disch := omega) only [vm, seval, h.1]; done) | rfl) fun n10 hn10 => ?_⟩
 replace h := bind_a h
 obtain ⟨y11, h⟩ := h
 simp (disch := omega) only [vm, seval, h.1]
 refine ⟨ref13_Next_w h.1.1 (by first | (simp (disch := omega) only [vm, seval, h.1]; done) | rfl) fun n12 hn12 => ?_⟩
 simp (disch := omega) only [vm, seval, h.1]
 refine ⟨sjoin (γ := Unit) h [39, 40, 41, 42, 43, 44, 45, 46, 47, 48, 49, 50] [51] (fun j13 g => [.bool j13]) (fun j13 g => (n12, [.int .i64 y11.1.kind, .str y11.1.text, .int .i64 y11.1.at_]) :: (n10, [.int .i64 y9.1.kind, .str y9.1.text, .int .i64 y9.1.at_]) :: m) (.r []) ?_ ?_⟩ <;> clear h
 rintro j13 _ n16 hnn16 _ _ h
 refine wpc_snd (.c (.q (.r []) .z) .z) ?_
 replace h := ite_a h
 rcases h with h | h
 obtain ⟨H, h⟩ := h
 cases h
 simp (disch := omega) only [vm, seval, H]
 refine ⟨(hR _ _ _ _ _ _ (by simp (disch := omega) only [vm, seval, H]; rfl) (.cons _ (.cons _ (List.Sublist.refl _))) ?_ (by omega) ?_).1⟩ <;> first | (simp (disch := omega) only [vm, seval, H]; done) | rfl
 simp (disch := omega) only [vm, seval, h.1]
 refine ⟨hk8 () () _ _ _ _ h.2 (.cons _ (.cons _ (List.Sublist.refl _))) ?_ ?_ ?_ (by omega)⟩ <;> first | (simp (disch := omega) only [vm, seval, h.1]; done) | rfl
 intro k14 Jk14 hk14 h
 replace h := ite_a h
 rcases h with h | h
 replace h := ite_a h
 rcases h with h | h
 simp (disch := omega) only [vm, seval, h.1]
 refine ⟨hk14 true () _ _ _ _ h.2 (List.Sublist.refl _) ?_ ?_ ?_ (by omega)⟩ <;> first | (simp (disch := omega) only [vm, seval, h.1]; done) | rfl
 simp (disch := omega) only [vm, seval, h.1]
 refine ⟨hk14 (y9.2.2 != y11.2.2) () _ _ _ _ h.2 (List.Sublist.refl _) ?_ ?_ ?_ (by omega)⟩ <;> first | (simp (disch := omega) only [vm, seval, h.1]; done) | rfl
 simp (disch := omega) only [vm, seval, h.1]
 refine ⟨hk14 true () _ _ _ _ h.2 (List.Sublist.refl _) ?_ ?_ ?_ (by omega)⟩ <;> first | (simp (disch := omega) only [vm, seval, h.1]; done) | rfl
 obtain ⟨H, h⟩ := h
 cases h
 simp (disch := omega) only [vm, seval, H]
 refine ⟨(hR _ _ _ _ _ _ (by simp (disch := omega) only [vm, seval, H]; rfl) (List.Sublist.refl _) ?_ (by omega) ?_).1⟩ <;> first | (simp (disch := omega) only [vm, seval, H]; done) | rfl
theorem law13_TokenQuotes_w {a0 r} (h : law13_TokenQuotes N a0 = some r) (ha : args = [.str a0]) (hQ : ∀ n', n ≤ n' → Gl (Q (.bool r) ⟨m, n'⟩)) : ACall vE 4 args ⟨m, n⟩ Q := by
 rw [law13_TokenQuotes] at h
 subst ha
 refine ent hQ Tryd.func4 rfl Tryd.ntmps4 Tryd.results4 (.q (.r []) (.q (.q (.r []) (.c (.q (.r []) .z) .z)) (.q (.q (.r []) (.c (.q (.r []) .z) .z)) (.q (.r []) (.q (.r []) (.q .z (.q (.r []) (.q (.r []) .z)))))))) fun R hR => ?_
 replace h := And.intro trivial h
 replace h := bind_a h
 obtain ⟨y1, h⟩ := h
 simp (disch := omega) only [vm, seval, h.1]
 refine ⟨law13_sane_w h.1.1 (by first | (simp (disch := omega) only [vm, seval, h.1]; done) | rfl) fun n2 hn2 => ?_⟩
 replace h := ite_a h
 rcases h with h | h
 replace h := ite_a h
 rcases h with h | h
 obtain ⟨H, h⟩ := h
 cases h
 simp (disch := omega) only [vm, seval, H]
 refine ⟨(hR _ _ _ _ _ _ (by simp (disch := omega) only [vm, seval, H]; rfl) (List.Sublist.refl _) ?_ (by omega) ?_).1⟩ <;> first | (simp (disch := omega) only [vm, seval, H]; done) | rfl
 replace h := bind_a h
 obtain ⟨y3, h⟩ := h
 simp (disch := omega) only [vm, seval, h.1]
 refine ⟨token_Quote_w h.1.1 (by first | (simp (disch := omega) only [vm, seval, h.1]; done) | rfl) fun n4 hn4 => ?_⟩
 replace h := bind_a h
 obtain ⟨y5, h⟩ := h
 simp (disch := omega) only [vm, seval, h.1]
 refine ⟨ref13_Quote_w h.1.1 (by first | (simp (disch := omega) only [vm, seval, h.1]; done) | rfl) fun n6 hn6 => ?_⟩
 simp (disch := omega) only [vm, seval, h.1]
 refine ⟨sjoin (γ := Unit) h [25, 26, 27, 28, 29, 30, 31, 32, 33, 34, 35] [36] (fun j7 g => [.bool j7]) (fun j7 g => m) (.r []) ?_ ?_⟩ <;> clear h
 rintro j7 _ n10 hnn10 _ _ h
 refine wpc_snd (.c (.q (.r []) .z) .z) ?_
 replace h := ite_a h
 rcases h with h | h
 replace h := ite_a h
 rcases h with h | h
 obtain ⟨H, h⟩ := h
 cases h
 simp (disch := omega) only [vm, seval, H]
 refine ⟨(hR _ _ _ _ _ _ (by simp (disch := omega) only [vm, seval, H]; rfl) (List.Sublist.refl _) ?_ (by omega) ?_).1⟩ <;> first | (simp (disch := omega) only [vm, seval, H]; done) | rfl
 obtain ⟨H, h⟩ := h
 cases h
 simp (disch := omega) only [vm, seval, H]
 refine ⟨(hR _ _ _ _ _ _ (by simp (disch := omega) only [vm, seval, H]; rfl) (List.Sublist.refl _) ?_ (by omega) ?_).1⟩ <;> first | (simp (disch := omega) only [vm, seval, H]; done) | rfl
 replace h := bind_a h
 obtain ⟨y11, h⟩ := h
 simp (disch := omega) only [vm, seval, h.1]
 refine ⟨token_Next_w h.1.1 (by first | (simp (disch := omega) only [vm, seval, h.1]; done) | rfl) fun n12 hn12 => ?_⟩
 replace h := ite_a h
 rcases h with h | h
 replace h := ite_a h
 rcases h with h | h
 obtain ⟨H, h⟩ := h
 cases h
 simp (disch := omega) only [vm, seval, H]
 refine ⟨(hR _ _ _ _ _ _ (by simp (disch := omega) only [vm, seval, H]; rfl) (.cons _ (List.Sublist.refl _)) ?_ (by omega) ?_).1⟩ <;> first | (simp (disch := omega) only [vm, seval, H]; done) | rfl
 obtain ⟨H, h⟩ := h
 cases h
 simp (disch := omega) only [vm, seval, H]
 refine ⟨(hR _ _ _ _ _ _ (by simp (disch := omega) only [vm, seval, H]; rfl) (.cons _ (List.Sublist.refl _)) ?_ (by omega) ?_).1⟩ <;> first | (simp (disch := omega) only [vm, seval, H]; done) | rfl
 obtain ⟨H, h⟩ := h
 cases h
 simp (disch := omega) only [vm, seval, H]
 refine ⟨(hR _ _ _ _ _ _ (by simp (disch := omega) only [vm, seval, H]; rfl) (.cons _ (List.Sublist.refl _)) ?_ (by omega) ?_).1⟩ <;> first | (simp (disch := omega) only [vm, seval, H]; done) | rfl
 intro k8 Jk8 hk8 h
 replace h := ite_a h
 rcases h with h | h
 replace h := ite_a h
 rcases h with h | h
 simp (disch := omega) only [vm, seval, h.1]
 refine ⟨hk8 true () _ _ _ _ h.2 (List.Sublist.refl _) ?_ ?_ ?_ (by omega)⟩ <;> first | (simp (disch := omega) only [vm, seval, h.1]; done) | rfl
 simp (disch := omega) only [vm, seval, h.1]
 refine ⟨hk8 (y3.2 != 0) () _ _ _ _ h.2 (List.Sublist.refl _) ?_ ?_ ?_ (by omega)⟩ <;> first | (simp (disch := omega) only [vm, seval, h.1]; done) | rfl
 simp (disch := omega) only [vm, seval, h.1]
 refine ⟨hk8 true () _ _ _ _ h.2 (List.Sublist.refl _) ?_ ?_ ?_ (by omega)⟩ <;> first | (simp (disch := omega) only [vm, seval, h.1]; done) | rfl
 obtain ⟨H, h⟩ := h
 cases h
 simp (disch := omega) only [vm, seval, H]
 refine ⟨(hR _ _ _ _ _ _ (by simp (disch := omega) only [vm, seval, H]; rfl) (List.Sublist.refl _) ?_ (by omega) ?_).1⟩ <;> first | (simp (disch := omega) only [vm, seval, H]; done) | rfl
theorem law13_TokenNumbers_w {a0 r} (h : law13_TokenNumbers N a0 = some r) (ha : args = [.str a0]) (hQ : ∀ n', n ≤ n' → Gl (Q (.bool r) ⟨m, n'⟩)) : ACall vE 5 args ⟨m, n⟩ Q := by
 rw [law13_TokenNumbers] at h
 subst ha
 refine ent hQ Tryd.func5 rfl Tryd.ntmps5 Tryd.results5 (.q (.r []) (.q (.q (.r []) (.c (.q (.r []) .z) .z)) (.q (.r []) (.q (.r []) (.q (.r []) .z))))) fun R hR => ?_
 replace h := And.intro trivial h
 replace h := bind_a h
 obtain ⟨y1, h⟩ := h
 simp (disch := omega) only [vm, seval, h.1]
 refine ⟨law13_sane_w h.1.1 (by first | (simp (disch := omega) only [vm, seval, h.1]; done) | rfl) fun n2 hn2 => ?_⟩
 replace h := ite_a h
 rcases h with h | h
 replace h := bind_a h
 obtain ⟨y3, h⟩ := h
 simp (disch := omega) only [vm, seval, h.1]
 refine ⟨token_Number_w h.1.1 (by first | (simp (disch := omega) only [vm, seval, h.1]; done) | rfl) fun n4 hn4 => ?_⟩
 replace h := bind_a h
 obtain ⟨y5, h⟩ := h
 simp (disch := omega) only [vm, seval, h.1]
 refine ⟨ref13_Number_w h.1.1 (by first | (simp (disch := omega) only [vm, seval, h.1]; done) | rfl) fun n6 hn6 => ?_⟩
 replace h := ite_a h
 rcases h with h | h
 obtain ⟨H, h⟩ := h
 cases h
 simp (disch := omega) only [vm, seval, H]
 refine ⟨(hR _ _ _ _ _ _ (by simp (disch := omega) only [vm, seval, H]; rfl) (List.Sublist.refl _) ?_ (by omega) ?_).1⟩ <;> first | (simp (disch := omega) only [vm, seval, H]; done) | rfl
 replace h := ite_a h
 rcases h with h | h
 obtain ⟨H, h⟩ := h
 cases h
 simp (disch := omega) only [vm, seval, H]
 refine ⟨(hR _ _ _ _ _ _ (by simp (disch := omega) only [vm, seval, H]; rfl) (List.Sublist.refl _) ?_ (by omega) ?_).1⟩ <;> first | (simp (disch := omega) only [vm, seval, H]; done) | rfl
 obtain ⟨H, h⟩ := h
 cases h
 simp (disch := omega) only [vm, seval, H]
 refine ⟨(hR _ _ _ _ _ _ (by simp (disch := omega) only [vm, seval, H]; rfl) (List.Sublist.refl _) ?_ (by omega) ?_).1⟩ <;> first | (simp (disch := omega) only [vm, seval, H]; done) | rfl
 obtain ⟨H, h⟩ := h
 cases h
 simp (disch := omega) only [vm, seval, H]
 refine ⟨(hR _ _ _ _ _ _ (by simp (disch := omega) only [vm, seval, H]; rfl) (List.Sublist.refl _) ?_ (by omega) ?_).1⟩ <;> first | (simp (disch := omega) only [vm, seval, H]; done) | rfl
theorem law13_TokenOnce_w {a0 r} (h : law13_TokenOnce N a0 = some r) (ha : args = [.str a0]) (hQ : ∀ n', n ≤ n' → Gl (Q (.bool r) ⟨m, n'⟩)) : ACall vE 6 args ⟨m, n⟩ Q := by
 rw [law13_TokenOnce] at h
 subst ha
 refine ent hQ Tryd.func6 rfl Tryd.ntmps6 Tryd.results6 (.q (.r []) (.q (.q (.r []) (.c (.q (.r []) .z) .z)) (.q (.q (.r []) (.c (.q (.r []) .z) .z)) (.q (.r []) (.q (.q (.r []) (.c (.q (.r []) .z) .z)) (.q (.r []) (.q (.r []) (.q (.r []) .z)))))))) fun R hR => ?_
 replace h := And.intro trivial h
 replace h := bind_a h
 obtain ⟨y1, h⟩ := h
 simp (disch := omega) only [vm, seval, h.1]
 refine ⟨law13_sane_w h.1.1 (by first | (simp (disch := omega) only [vm, seval, h.1]; done) | rfl) fun n2 hn2 => ?_⟩
 replace h := ite_a h
 rcases h with h | h
 replace h := ite_a h
 rcases h with h | h
 obtain ⟨H, h⟩ := h
 cases h
 simp (disch := omega) only [vm, seval, H]
 refine ⟨(hR _ _ _ _ _ _ (by simp (disch := omega) only [vm, seval, H]; rfl) (List.Sublist.refl _) ?_ (by omega) ?_).1⟩ <;> first | (simp (disch := omega) only [vm, seval, H]; done) | rfl
 replace h := bind_a h
 obtain ⟨y3, h⟩ := h
 simp (disch := omega) only [vm, seval, h.1]
 refine ⟨token_Number_w h.1.1 (by first | (simp (disch := omega) only [vm, seval, h.1]; done) | rfl) fun n4 hn4 => ?_⟩
 replace h := ite_a h
 rcases h with h | h
 obtain ⟨H, h⟩ := h
 cases h
 simp (disch := omega) only [vm, seval, H]
 refine ⟨(hR _ _ _ _ _ _ (by simp (disch := omega) only [vm, seval, H]; rfl) (List.Sublist.refl _) ?_ (by omega) ?_).1⟩ <;> first | (simp (disch := omega) only [vm, seval, H]; done) | rfl
 replace h := bind_a h
 obtain ⟨y5, h⟩ := h
 simp (disch := omega) only [vm, seval, h.1]
 refine ⟨token_Number_w h.1.1 (by first | (simp (disch := omega) only [vm, seval, h.1]; done) | rfl) fun n6 hn6 => ?_⟩
 replace h := bind_a h
 obtain ⟨y7, h⟩ := h
 simp (disch := omega) only [vm, seval, h.1]
 refine ⟨token_Next_w h.1.1 (by first | (simp (disch := omega) only [vm, seval, h.1]; done) | rfl) fun n8 hn8 => ?_⟩
 replace h := ite_a h
 rcases h with h | h
 replace h := ite_a h
 rcases h with h | h
 replace h := ite_a h
 rcases h with h | h
 replace h := ite_a h
 rcases h with h | h
 obtain ⟨H, h⟩ := h
 cases h
 simp (disch := omega) only [vm, seval, H]
 refine ⟨(hR _ _ _ _ _ _ (by simp (disch := omega) only [vm, seval, H]; rfl) (.cons _ (List.Sublist.refl _)) ?_ (by omega) ?_).1⟩ <;> first | (simp (disch := omega) only [vm, seval, H]; done) | rfl
 obtain ⟨H, h⟩ := h
 cases h
 simp (disch := omega) only [vm, seval, H]
 refine ⟨(hR _ _ _ _ _ _ (by simp (disch := omega) only [vm, seval, H]; rfl) (.cons _ (List.Sublist.refl _)) ?_ (by omega) ?_).1⟩ <;> first | (simp (disch := omega) only [vm, seval, H]; done) | rfl
 obtain ⟨H, h⟩ := h
 cases h
 simp (disch := omega) only [vm, seval, H]
 refine ⟨(hR _ _ _ _ _ _ (by simp (disch := omega) only [vm, seval, H]; rfl) (.cons _ (List.Sublist.refl _)) ?_ (by omega) ?_).1⟩ <;> first | (simp (disch := omega) only [vm, seval, H]; done) | rfl
 obtain ⟨H, h⟩ := h
 cases h
 simp (disch := omega) only [vm, seval, H]
 refine ⟨(hR _ _ _ _ _ _ (by simp (disch := omega) only [vm, seval, H]; rfl) (.cons _ (List.Sublist.refl _)) ?_ (by omega) ?_).1⟩ <;> first | (simp (disch := omega) only [vm, seval, H]; done) | rfl
 obtain ⟨H, h⟩ := h
 cases h
 simp (disch := omega) only [vm, seval, H]
 refine ⟨(hR _ _ _ _ _ _ (by simp (disch := omega) only [vm, seval, H]; rfl) (.cons _ (List.Sublist.refl _)) ?_ (by omega) ?_).1⟩ <;> first | (simp (disch := omega) only [vm, seval, H]; done) | rfl
 obtain ⟨H, h⟩ := h
 cases h
 simp (disch := omega) only [vm, seval, H]
 refine ⟨(hR _ _ _ _ _ _ (by simp (disch := omega) only [vm, seval, H]; rfl) (List.Sublist.refl _) ?_ (by omega) ?_).1⟩ <;> first | (simp (disch := omega) only [vm, seval, H]; done) | rfl
theorem law13_TokenScales_w {a0 a1 a2 r} (h : law13_TokenScales N a0 a1 a2 = some r) (ha : args = [.int .u32 a0, .int .u8 a1, .int .u8 a2]) (hQ : ∀ n', n ≤ n' → Gl (Q (.bool r) ⟨m, n'⟩)) : ACall vE 7 args ⟨m, n⟩ Q := by
 rw [law13_TokenScales] at h
 subst ha
 refine ent hQ Tryd.func7 rfl Tryd.ntmps7 Tryd.results7 (.q (.r []) (.q (.q (.r []) (.c (.q (.r []) .z) .z)) (.q (.q (.r []) (.c (.q (.r []) .z) .z)) (.q (.r []) (.q (.r []) .z))))) fun R hR => ?_
 replace h := And.intro trivial h
 replace h := bind_a h
 obtain ⟨y1, h⟩ := h
 simp (disch := omega) only [vm, seval, h.1]
 refine ⟨law13_sane_w h.1.1 (by first | (simp (disch := omega) only [vm, seval, h.1]; done) | rfl) fun n2 hn2 => ?_⟩
 replace h := ite_a h
 rcases h with h | h
 replace h := ite_a h
 rcases h with h | h
 obtain ⟨H, h⟩ := h
 cases h
 simp (disch := omega) only [vm, seval, H]
 refine ⟨(hR _ _ _ _ _ _ (by simp (disch := omega) only [vm, seval, H]; rfl) (List.Sublist.refl _) ?_ (by omega) ?_).1⟩ <;> first | (simp (disch := omega) only [vm, seval, H]; done) | rfl
 replace h := bind_a h
 obtain ⟨y3, h⟩ := h
 simp (disch := omega) only [vm, seval, h.1]
 refine ⟨law13_digits_w h.1.1 (by first | (simp (disch := omega) only [vm, seval, h.1]; done) | rfl) fun n4 hn4 => ?_⟩
 simp (disch := omega) only [vm, seval, h.1]
 refine ⟨sjoin (γ := Unit) h [10, 28, 29, 30, 31, 32, 33, 34] [9] (fun j5 g => [.str j5]) (fun j5 g => m) (.q (.r []) .z) ?_ ?_⟩ <;> clear h
 rintro j5 _ n8 hnn8 _ _ h
 refine wpc_snd (.q (.r []) (.q (.r []) (.q (.r []) (.q (.r []) .z)))) ?_
 replace h := grd_a h
 obtain ⟨c, h⟩ := h
 try simp only [liE, seval] at c
 replace h := and_in c h
 replace h := bind_a h
 obtain ⟨y10, h⟩ := h
 simp (disch := omega) only [vm, seval, h.1]
 refine ⟨law13_digits_w h.1.1 (by first | (simp (disch := omega) only [vm, seval, h.1]; done) | rfl) fun n11 hn11 => ?_⟩
 replace h := grd_a h
 obtain ⟨c, h⟩ := h
 try simp only [liE, seval] at c
 replace h := and_in c h
 replace h := bind_a h
 obtain ⟨y12, h⟩ := h
 simp (disch := omega) only [vm, seval, h.1]
 refine ⟨token_Number_w h.1.1 (by first | (simp (disch := omega) only [vm, seval, h.1]; done) | rfl) fun n13 hn13 => ?_⟩
 replace h := grd_a h
 obtain ⟨c, h⟩ := h
 try simp only [liE, seval] at c
 replace h := and_in c h
 replace h := bind_a h
 obtain ⟨y14, h⟩ := h
 simp (disch := omega) only [vm, seval, h.1]
 refine ⟨law13_digits_w h.1.1 (by first | (simp (disch := omega) only [vm, seval, h.1]; done) | rfl) fun n15 hn15 => ?_⟩
 replace h := grd_a h
 obtain ⟨c, h⟩ := h
 try simp only [liE, seval] at c
 replace h := and_in c h
 replace h := bind_a h
 obtain ⟨y16, h⟩ := h
 simp (disch := omega) only [vm, seval, h.1]
 refine ⟨token_Number_w h.1.1 (by first | (simp (disch := omega) only [vm, seval, h.1]; done) | rfl) fun n17 hn17 => ?_⟩
 replace h := grd_a h
 obtain ⟨c, h⟩ := h
 try simp only [liE, seval] at c
 replace h := and_in c h
 replace h := bind_a h
 obtain ⟨y18, h⟩ := h
 simp (disch := omega) only [vm, seval, h.1]
 refine ⟨law13_digits_w h.1.1 (by first | (simp (disch := omega) only [vm, seval, h.1]; done) | rfl) fun n19 hn19 => ?_⟩
 replace h := grd_a h
 obtain ⟨c, h⟩ := h
 try simp only [liE, seval] at c
 replace h := and_in c h
 replace h := bind_a h
 obtain ⟨y20, h⟩ := h
 simp (disch := omega) only [vm, seval, h.1]
 refine ⟨token_Number_w h.1.1 (by first | (simp (disch := omega) only [vm, seval, h.1]; done) | rfl) fun n21 hn21 => ?_⟩
 replace h := ite_a h
 rcases h with h | h
 replace h := ite_a h
 rcases h with h | h
 replace h := ite_a h
 rcases h with h | h
 replace h := ite_a h
 rcases h with h | h
 obtain ⟨H, h⟩ := h
 cases h
 simp (disch := omega) only [vm, seval, H]
 refine ⟨(hR _ _ _ _ _ _ (by simp (disch := omega) only [vm, seval, H]; rfl) (List.Sublist.refl _) ?_ (by omega) ?_).1⟩ <;> first | (simp (disch := omega) only [vm, seval, H]; done) | rfl
 obtain ⟨H, h⟩ := h
 cases h
 simp (disch := omega) only [vm, seval, H]
 refine ⟨(hR _ _ _ _ _ _ (by simp (disch := omega) only [vm, seval, H]; rfl) (List.Sublist.refl _) ?_ (by omega) ?_).1⟩ <;> first | (simp (disch := omega) only [vm, seval, H]; done) | rfl
 obtain ⟨H, h⟩ := h
 cases h
 simp (disch := omega) only [vm, seval, H]
 refine ⟨(hR _ _ _ _ _ _ (by simp (disch := omega) only [vm, seval, H]; rfl) (List.Sublist.refl _) ?_ (by omega) ?_).1⟩ <;> first | (simp (disch := omega) only [vm, seval, H]; done) | rfl
 obtain ⟨H, h⟩ := h
 cases h
 simp (disch := omega) only [vm, seval, H]
 refine ⟨(hR _ _ _ _ _ _ (by simp (disch := omega) only [vm, seval, H]; rfl) (List.Sublist.refl _) ?_ (by omega) ?_).1⟩ <;> first | (simp (disch := omega) only [vm, seval, H]; done) | rfl
 obtain ⟨H, h⟩ := h
 cases h
 simp (disch := omega) only [vm, seval, H]
 refine ⟨(hR _ _ _ _ _ _ (by simp (disch := omega) only [vm, seval, H]; rfl) (List.Sublist.refl _) ?_ (by omega) ?_).1⟩ <;> first | (simp (disch := omega) only [vm, seval, H]; done) | rfl
 intro k6 Jk6 hk6 h
 replace h := grd_a h
 obtain ⟨hfk9, h⟩ := h
 simp (disch := omega) only [vm, seval, h.1]
 refine ⟨sloopc (σ := (List UInt8)) (γ := Unit) 0 (wr .i64 (a1.tmod 30)) hfk9 (fun xs i s => law13_TokenScales_L1 N k6 xs s) (fun i s g => [.str s, .int .i64 i]) (fun i s g => m) [28, 29, 30, 31, 32, 33, 34] [9, 10] y3 () h (by first | (simp (disch := omega) only [vm, seval, h.1]; done) | rfl) (by first | (simp (disch := omega) only [vm, seval, h.1]; done) | rfl) ?_ ?_⟩ <;> clear h
 rintro s10 s9 _ nL0_1 hnL0_1 _ h
 change _ ∧ law13_TokenScales_L1 N k6 0 s9 = _ at h
 rw [law13_TokenScales_L1] at h
 refine wpc_snd (.q (.q (.r []) (.c .z .z)) (.q (.r []) (.r []))) ?_
 simp (disch := omega) only [vm, seval, h.1]
 refine ⟨hk6 s9 () _ _ _ _ h.2 (List.Sublist.refl _) ?_ ?_ ?_ (by omega)⟩ <;> first | (simp (disch := omega) only [vm, seval, h.1]; done) | rfl
 rintro xsk9 s10 s9 _ nL0_1 hnL0_1 _ h Jk9 hk9
 change _ ∧ law13_TokenScales_L1 N k6 (xsk9 + 1) s9 = _ at h
 rw [law13_TokenScales_L1] at h
 refine wpc_snd (.q (.q (.r []) (.c .z .z)) (.q (.r []) (.r []))) ?_
 replace h := grd_a h
 obtain ⟨c, h⟩ := h
 try simp only [liE, seval] at c
 replace h := and_in c h
 simp (disch := omega) only [vm, seval, h.1]
 refine ⟨hk9 (s9 ++ ([48] : List UInt8)) () _ _ _ _ h.2 (List.Sublist.refl _) ?_ ?_ ?_ (by omega)⟩ <;> first | (simp (disch := omega) only [vm, seval, h.1]; done) | rfl
 obtain ⟨H, h⟩ := h
 cases h
 simp (disch := omega) only [vm, seval, H]
 refine ⟨(hR _ _ _ _ _ _ (by simp (disch := omega) only [vm, seval, H]; rfl) (List.Sublist.refl _) ?_ (by omega) ?_).1⟩ <;> first | (simp (disch := omega) only [vm, seval, H]; done) | rfl
theorem law13_TokenEscapes_w {a0 a1 r} (h : law13_TokenEscapes N a0 a1 = some r) (ha : args = [.int .u32 a0, .bool a1]) (hQ : ∀ n', n ≤ n' → Gl (Q (.bool r) ⟨m, n'⟩)) : ACall vE 8 args ⟨m, n⟩ Q := by
 rw [law13_TokenEscapes] at h
 subst ha
 refine ent hQ Tryd.func8 rfl Tryd.ntmps8 Tryd.results8 (.q (.r []) (.q (.q (.r []) (.c (.q (.r []) .z) .z)) (.q (.r []) (.q (.r []) (.q (.r []) .z))))) fun R hR => ?_
 replace h := And.intro trivial h
 replace h := bind_a h
 obtain ⟨y1, h⟩ := h
 simp (disch := omega) only [vm, seval, h.1]
 refine ⟨law13_sane_w h.1.1 (by first | (simp (disch := omega) only [vm, seval, h.1]; done) | rfl) fun n2 hn2 => ?_⟩
 replace h := ite_a h
 rcases h with h | h
 replace h := bind_a h
 obtain ⟨y3, h⟩ := h
 simp (disch := omega) only [vm, seval, h.1]
 refine ⟨ref02_Encode_w h.1.1 (by first | (simp (disch := omega) only [vm, seval, h.1]; done) | rfl) fun n4 hn4 => ?_⟩
 replace h := bind_a h
 obtain ⟨y5, h⟩ := h
 simp (disch := omega) only [vm, seval, h.1]
 refine ⟨law13_unit_w h.1.1 (by first | (simp (disch := omega) only [vm, seval, h.1]; done) | rfl) fun n6 hn6 => ?_⟩
 replace h := grd_a h
 obtain ⟨c, h⟩ := h
 try simp only [liE, seval] at c
 replace h := and_in c h
 replace h := grd_a h
 obtain ⟨c, h⟩ := h
 try simp only [liE, seval] at c
 replace h := and_in c h
 simp (disch := omega) only [vm, seval, h.1]
 refine ⟨sjoin (γ := Unit) h [27, 28, 29, 30, 31, 32, 33, 34, 35, 36, 37, 38, 39, 40, 41, 42, 43] [8] (fun j7 g => [.str j7]) (fun j7 g => m) (.q (.r []) (.c (.r []) .z)) ?_ ?_⟩ <;> clear h
 rintro j7 _ n10 hnn10 _ _ h
 refine wpc_snd (.q (.r []) (.q (.q (.r []) (.c (.q (.r []) .z) .z)) (.q (.r []) .z))) ?_
 replace h := bind_a h
 obtain ⟨y15, h⟩ := h
 simp (disch := omega) only [vm, seval, h.1]
 refine ⟨token_Next_w h.1.1 (by first | (simp (disch := omega) only [vm, seval, h.1]; done) | rfl) fun n16 hn16 => ?_⟩
 replace h := ite_a h
 rcases h with h | h
 replace h := ite_a h
 rcases h with h | h
 obtain ⟨H, h⟩ := h
 cases h
 simp (disch := omega) only [vm, seval, H]
 refine ⟨(hR _ _ _ _ _ _ (by simp (disch := omega) only [vm, seval, H]; rfl) (.cons _ (List.Sublist.refl _)) ?_ (by omega) ?_).1⟩ <;> first | (simp (disch := omega) only [vm, seval, H]; done) | rfl
 obtain ⟨H, h⟩ := h
 cases h
 simp (disch := omega) only [vm, seval, H]
 refine ⟨(hR _ _ _ _ _ _ (by simp (disch := omega) only [vm, seval, H]; rfl) (.cons _ (List.Sublist.refl _)) ?_ (by omega) ?_).1⟩ <;> first | (simp (disch := omega) only [vm, seval, H]; done) | rfl
 replace h := ite_a h
 rcases h with h | h
 replace h := ite_a h
 rcases h with h | h
 replace h := ite_a h
 rcases h with h | h
 obtain ⟨H, h⟩ := h
 cases h
 simp (disch := omega) only [vm, seval, H]
 refine ⟨(hR _ _ _ _ _ _ (by simp (disch := omega) only [vm, seval, H]; rfl) (.cons _ (List.Sublist.refl _)) ?_ (by omega) ?_).1⟩ <;> first | (simp (disch := omega) only [vm, seval, H]; done) | rfl
 obtain ⟨H, h⟩ := h
 cases h
 simp (disch := omega) only [vm, seval, H]
 refine ⟨(hR _ _ _ _ _ _ (by simp (disch := omega) only [vm, seval, H]; rfl) (.cons _ (List.Sublist.refl _)) ?_ (by omega) ?_).1⟩ <;> first | (simp (disch := omega) only [vm, seval, H]; done) | rfl
 obtain ⟨H, h⟩ := h
 cases h
 simp (disch := omega) only [vm, seval, H]
 refine ⟨(hR _ _ _ _ _ _ (by simp (disch := omega) only [vm, seval, H]; rfl) (.cons _ (List.Sublist.refl _)) ?_ (by omega) ?_).1⟩ <;> first | (simp (disch := omega) only [vm, seval, H]; done) | rfl
 obtain ⟨H, h⟩ := h
 cases h
 simp (disch := omega) only [vm, seval, H]
 refine ⟨(hR _ _ _ _ _ _ (by simp (disch := omega) only [vm, seval, H]; rfl) (.cons _ (List.Sublist.refl _)) ?_ (by omega) ?_).1⟩ <;> first | (simp (disch := omega) only [vm, seval, H]; done) | rfl
 intro k8 Jk8 hk8 h
 replace h := ite_a h
 rcases h with h | h
 replace h := bind_a h
 obtain ⟨y11, h⟩ := h
 simp (disch := omega) only [vm, seval, h.1]
 refine ⟨law13_unit_w h.1.1 (by first | (simp (disch := omega) only [vm, seval, h.1]; done) | rfl) fun n12 hn12 => ?_⟩
 replace h := grd_a h
 obtain ⟨c, h⟩ := h
 try simp only [liE, seval] at c
 replace h := and_in c h
 replace h := bind_a h
 obtain ⟨y13, h⟩ := h
 simp (disch := omega) only [vm, seval, h.1]
 refine ⟨law13_unit_w h.1.1 (by first | (simp (disch := omega) only [vm, seval, h.1]; done) | rfl) fun n14 hn14 => ?_⟩
 replace h := grd_a h
 obtain ⟨c, h⟩ := h
 try simp only [liE, seval] at c
 replace h := and_in c h
 replace h := grd_a h
 obtain ⟨c, h⟩ := h
 try simp only [liE, seval] at c
 replace h := and_in c h
 simp (disch := omega) only [vm, seval, h.1]
 refine ⟨hk8 (((([34] : List UInt8) ++ y11) ++ y13) ++ ([34] : List UInt8)) () _ _ _ _ h.2 (List.Sublist.refl _) ?_ ?_ ?_ (by omega)⟩ <;> first | (simp (disch := omega) only [vm, seval, h.1]; done) | rfl
 simp (disch := omega) only [vm, seval, h.1]
 refine ⟨hk8 ((([34] : List UInt8) ++ y5) ++ ([34] : List UInt8)) () _ _ _ _ h.2 (List.Sublist.refl _) ?_ ?_ ?_ (by omega)⟩ <;> first | (simp (disch := omega) only [vm, seval, h.1]; done) | rfl
 obtain ⟨H, h⟩ := h
 cases h
 simp (disch := omega) only [vm, seval, H]
 refine ⟨(hR _ _ _ _ _ _ (by simp (disch := omega) only [vm, seval, H]; rfl) (List.Sublist.refl _) ?_ (by omega) ?_).1⟩ <;> first | (simp (disch := omega) only [vm, seval, H]; done) | rfl
end Go.Proofs.YtmdjjhakfoenpaaDoor
