/- That the code computes these functions; written by decomp.py. -/
import Derived.Test.YtdbeiialamganaaVmFacts
import Derived.Test.YtdbeiialamganaaDefs
import Derived.Test.YtdbeiialamganaaVM2
import Derived.Test.YtdbeiialamganaaW0
import Derived.Test.YtdbeiialamganaaW1
import Derived.Test.YtdbeiialamganaaW2
import Derived.Test.YtdbeiialamganaaW3
import Derived.Test.YtdbeiialamganaaW4
import Derived.Test.YtdbeiialamganaaW5
import Derived.Test.YtdbeiialamganaaW6
import Derived.Test.YtdbeiialamganaaW12
import Derived.Test.YtdbeiialamganaaW13
set_option linter.unusedVariables false
set_option linter.unusedSimpArgs false
set_option maxHeartbeats 4000000
set_option maxRecDepth 100000
set_option linter.defProp false
namespace Go.Proofs.Ytdbeiialamganaa
open Go.VM
variable {N n : Nat} {m : MS} {Q : PQ} {args : List AVal}
theorem law16_JrdDecodes_w {a0 a1 r} (h : law16_JrdDecodes N a0 a1 = some r) (ha : args = [encApiValue a0, .str a1]) (hQ : ∀ n', n ≤ n' → Gl (Q (.bool r) ⟨m, n'⟩)) : ACall vE 3 args ⟨m, n⟩ Q := by
 rw [law16_JrdDecodes] at h
 subst ha
 refine ent hQ Try.func3 rfl Try.ntmps3 Try.results3 (.q (.r []) (.q (.q (.r []) (.c (.q (.r []) .z) .z)) (.q .z (.q (.r []) .z)))) fun R hR => ?_
 replace h := And.intro trivial h
 replace h := bind_a h
 obtain ⟨y1, h⟩ := h
 simp (disch := omega) only [vm, seval, h.1]
 refine ⟨law16_sane_w h.1.1 (by first | (simp (disch := omega) only [vm, seval, h.1]; done) | rfl) fun n2 hn2 => ?_⟩
 replace h := ite_a h
 rcases h with h | h
 simp (disch := omega) only [vm, seval, h.1]
 refine ⟨sjoin (γ := Unit) h [16, 17, 18, 19, 20, 21, 22] [23] (fun j3 g => [.bool j3]) (fun j3 g => (n, [.int .i64 a0.kind, .str a0.text, .slice 1 (List.map AVal.str a0.keys) false, .slice 4 (List.map encApiValue a0.items) false]) :: m) (.r []) ?_ ?_⟩ <;> clear h
 rintro j3 _ n6 hnn6 _ _ h
 refine wpc_snd (.c (.q (.r []) .z) .z) ?_
 replace h := ite_a h
 rcases h with h | h
 obtain ⟨H, h⟩ := h
 cases h
 simp (disch := omega) only [vm, seval, H]
 refine ⟨(hR _ _ _ _ _ _ (by simp (disch := omega) only [vm, seval, H]; rfl) (.cons _ (List.Sublist.refl _)) ?_ (by omega) ?_).1⟩ <;> first | (simp (disch := omega) only [vm, seval, H]; done) | rfl
 replace h := bind_a h
 obtain ⟨y9, h⟩ := h
 simp (disch := omega) only [vm, seval, h.1]
 refine ⟨ref14_Parse_w h.1.1 (by first | (simp (disch := omega) only [vm, seval, h.1]; done) | rfl) fun n10 hn10 => ?_⟩
 simp (disch := omega) only [vm, seval, h.1]
 refine ⟨sjoin (γ := Unit) h [4, 9, 10, 11, 12, 13, 30, 31, 32, 33, 34, 35, 36, 37, 38, 39, 40, 41, 42, 43, 44, 45, 46, 47, 48, 49, 50, 51, 52, 53, 54, 55, 56, 57] [] (fun j11 g => []) (fun j11 g => (n10, [.int .i64 y9.1.kind, .str y9.1.text, .slice 1 (List.map AVal.str y9.1.keys) false, .slice 4 (List.map encApiValue y9.1.items) false]) :: (n, [.int .i64 a0.kind, .str a0.text, .slice 1 (List.map AVal.str a0.keys) false, .slice 4 (List.map encApiValue a0.items) false]) :: m) (.q (.r []) .z) ?_ ?_⟩ <;> clear h
 rintro j11 _ n14 hnn14 _ _ h
 refine wpc_snd (.q (.r []) .z) ?_
 obtain ⟨H, h⟩ := h
 cases h
 simp (disch := omega) only [vm, seval, H]
 refine ⟨(hR _ _ _ _ _ _ (by simp (disch := omega) only [vm, seval, H]; rfl) (.cons _ (.cons _ (List.Sublist.refl _))) ?_ (by omega) ?_).1⟩ <;> first | (simp (disch := omega) only [vm, seval, H]; done) | rfl
 intro k12 Jk12 hk12 h
 refine letL_a h ?_
 clear h
 intro l15 c h
 replace c := congrArg (List.map encApiValue) c
 simp only [List.map_cons, List.map_nil, eE] at c
 replace h := and_in c h
 replace h := grd_a h
 obtain ⟨hfk16, h⟩ := h
 simp (disch := omega) only [vm, seval, h.1]
 refine ⟨sloopr (σ := Unit) (γ := Unit) l15 hfk16 (fun xs i s => law16_JrdDecodes_L1 N k12 xs) (fun i s g => [.int .i64 i]) (fun i s g => (n10, [.int .i64 y9.1.kind, .str y9.1.text, .slice 1 (List.map AVal.str y9.1.keys) false, .slice 4 (List.map encApiValue y9.1.items) false]) :: (n, [.int .i64 a0.kind, .str a0.text, .slice 1 (List.map AVal.str a0.keys) false, .slice 4 (List.map encApiValue a0.items) false]) :: m) [4, 9, 10, 11, 12, 13, 35, 36, 37, 38, 39, 40, 41, 42, 43, 44, 45, 46, 47, 48, 49, 50, 51, 52, 53, 54, 55, 56, 57] [34] () () h (by first | (simp (disch := omega) only [vm, seval, h.1]; done) | rfl) (by first | (simp (disch := omega) only [vm, seval, h.1]; done) | rfl) ?_ ?_⟩ <;> clear h
 rintro s34 _ _ nL0_1 hnL0_1 _ h
 change _ ∧ law16_JrdDecodes_L1 N k12 [] = _ at h
 rw [law16_JrdDecodes_L1] at h
 refine wpc_snd (.q (.r []) (.q (.c .z .z) (.q (.q (.r []) (.q (.r []) (.q (.r []) .z))) (.r [])))) ?_
 simp (disch := omega) only [vm, seval, h.1]
 refine ⟨hk12 () () _ _ _ _ h.2 (List.Sublist.refl _) ?_ ?_ ?_ (by omega)⟩ <;> first | (simp (disch := omega) only [vm, seval, h.1]; done) | rfl
 rintro xk16 xsk16 s34 _ _ nL0_1 hnL0_1 _ h Jk16 hk16
 change _ ∧ law16_JrdDecodes_L1 N k12 (xk16 :: xsk16) = _ at h
 rw [law16_JrdDecodes_L1] at h
 refine wpc_snd (.q (.r []) (.q (.c .z .z) (.q (.q (.r []) (.q (.r []) (.q (.r []) .z))) (.r [])))) ?_
 replace h := bind_a h
 obtain ⟨y17, h⟩ := h
 simp (disch := omega) only [vm, seval, h.1]
 refine ⟨jrd_Decode_w h.1.1 (by first | (simp (disch := omega) only [vm, seval, h.1]; done) | rfl) fun n18 hn18 => ?_⟩
 replace h := bind_a h
 obtain ⟨y19, h⟩ := h
 simp (disch := omega) only [vm, seval, h.1]
 refine ⟨ref16_Decode_w h.1.1 (by first | (simp (disch := omega) only [vm, seval, h.1]; done) | rfl) fun n20 hn20 => ?_⟩
 simp (disch := omega) only [vm, seval, h.1]
 refine ⟨sjoin (γ := Unit) h [48, 49, 50, 51, 52, 53, 54, 55] [56] (fun j21 g => [.bool j21]) (fun j21 g => (n20, [.str y19.1.subject, .slice 1 (List.map AVal.str y19.1.aliases) false, .slice 3 (List.map encApiProperty y19.1.properties) false, .slice 6 (List.map encApiLink y19.1.links) false]) :: (n18, [.str y17.1.subject, .slice 1 (List.map AVal.str y17.1.aliases) false, .slice 3 (List.map encApiProperty y17.1.properties) false, .slice 6 (List.map encApiLink y17.1.links) false]) :: (nL0_1, [.int .i64 xk16.kind, .str xk16.text, .slice 1 (List.map AVal.str xk16.keys) false, .slice 4 (List.map encApiValue xk16.items) false]) :: (n10, [.int .i64 y9.1.kind, .str y9.1.text, .slice 1 (List.map AVal.str y9.1.keys) false, .slice 4 (List.map encApiValue y9.1.items) false]) :: (n, [.int .i64 a0.kind, .str a0.text, .slice 1 (List.map AVal.str a0.keys) false, .slice 4 (List.map encApiValue a0.items) false]) :: m) (.r []) ?_ ?_⟩ <;> clear h
 rintro j21 _ n24 hnn24 _ _ h
 refine wpc_snd (.c (.q (.r []) .z) .z) ?_
 replace h := ite_a h
 rcases h with h | h
 obtain ⟨H, h⟩ := h
 cases h
 simp (disch := omega) only [vm, seval, H]
 refine ⟨(hR _ _ _ _ _ _ (by simp (disch := omega) only [vm, seval, H]; rfl) (.cons _ (.cons _ (.cons _ (.cons _ (.cons _ (List.Sublist.refl _)))))) ?_ (by omega) ?_).1⟩ <;> first | (simp (disch := omega) only [vm, seval, H]; done) | rfl
 simp (disch := omega) only [vm, seval, h.1]
 refine ⟨hk16 () () _ _ _ _ h.2 (.cons _ (.cons _ (.cons _ (List.Sublist.refl _)))) ?_ ?_ ?_ (by omega)⟩ <;> first | (simp (disch := omega) only [vm, seval, h.1]; done) | rfl
 intro k22 Jk22 hk22 h
 replace h := ite_a h
 rcases h with h | h
 simp (disch := omega) only [vm, seval, h.1]
 refine ⟨hk22 true () _ _ _ _ h.2 (List.Sublist.refl _) ?_ ?_ ?_ (by omega)⟩ <;> first | (simp (disch := omega) only [vm, seval, h.1]; done) | rfl
 replace h := bind_a h
 obtain ⟨y25, h⟩ := h
 simp (disch := omega) only [vm, seval, h.1]
 refine ⟨ref16_Same_w h.1.1 (by first | (simp (disch := omega) only [vm, seval, h.1]; done) | rfl) fun n26 hn26 => ?_⟩
 simp (disch := omega) only [vm, seval, h.1]
 refine ⟨hk22 (!y25) () _ _ _ _ h.2 (List.Sublist.refl _) ?_ ?_ ?_ (by omega)⟩ <;> first | (simp (disch := omega) only [vm, seval, h.1]; done) | rfl
 intro k4 Jk4 hk4 h
 replace h := bind_a h
 obtain ⟨y7, h⟩ := h
 simp (disch := omega) only [vm, seval, h.1]
 refine ⟨keep_Value_w h.1.1 (by first | (simp (disch := omega) only [vm, seval, h.1]; done) | rfl) fun n8 hn8 => ?_⟩
 replace h := ite_a h
 rcases h with h | h
 simp (disch := omega) only [vm, seval, h.1]
 refine ⟨hk4 (decide ((a1.length : Int) > 3000)) () _ _ _ _ h.2 (List.Sublist.refl _) ?_ ?_ ?_ (by omega)⟩ <;> first | (simp (disch := omega) only [vm, seval, h.1]; done) | rfl
 simp (disch := omega) only [vm, seval, h.1]
 refine ⟨hk4 true () _ _ _ _ h.2 (List.Sublist.refl _) ?_ ?_ ?_ (by omega)⟩ <;> first | (simp (disch := omega) only [vm, seval, h.1]; done) | rfl
 obtain ⟨H, h⟩ := h
 cases h
 simp (disch := omega) only [vm, seval, H]
 refine ⟨(hR _ _ _ _ _ _ (by simp (disch := omega) only [vm, seval, H]; rfl) (.cons _ (List.Sublist.refl _)) ?_ (by omega) ?_).1⟩ <;> first | (simp (disch := omega) only [vm, seval, H]; done) | rfl
theorem law16_JrdIgnores_w {a0 a1 a2 r} (h : law16_JrdIgnores N a0 a1 a2 = some r) (ha : args = [encApiJRD a0, encApiValue a1, .int .u8 a2]) (hQ : ∀ n', n ≤ n' → Gl (Q (.bool r) ⟨m, n'⟩)) : ACall vE 4 args ⟨m, n⟩ Q := by
 rw [law16_JrdIgnores] at h
 subst ha
 refine ent hQ Try.func4 rfl Try.ntmps4 Try.results4 (.q (.r []) (.q (.q (.r []) (.c (.q (.r []) .z) .z)) (.q .z (.q (.r []) (.q (.r []) (.q (.r []) (.q .z (.q .z (.q (.r []) (.q (.r []) (.q (.r []) .z))))))))))) fun R hR => ?_
 replace h := And.intro trivial h
 replace h := bind_a h
 obtain ⟨y1, h⟩ := h
 simp (disch := omega) only [vm, seval, h.1]
 refine ⟨law16_sane_w h.1.1 (by first | (simp (disch := omega) only [vm, seval, h.1]; done) | rfl) fun n2 hn2 => ?_⟩
 replace h := ite_a h
 rcases h with h | h
 simp (disch := omega) only [vm, seval, h.1]
 refine ⟨sjoin (γ := Unit) h [16, 17, 18, 19, 20, 21, 22] [23] (fun j3 g => [.bool j3]) (fun j3 g => ((n + 1), [.int .i64 a1.kind, .str a1.text, .slice 1 (List.map AVal.str a1.keys) false, .slice 4 (List.map encApiValue a1.items) false]) :: (n, [.str a0.subject, .slice 1 (List.map AVal.str a0.aliases) false, .slice 3 (List.map encApiProperty a0.properties) false, .slice 6 (List.map encApiLink a0.links) false]) :: m) (.r []) ?_ ?_⟩ <;> clear h
 rintro j3 _ n6 hnn6 _ _ h
 refine wpc_snd (.c (.q (.r []) .z) .z) ?_
 replace h := ite_a h
 rcases h with h | h
 obtain ⟨H, h⟩ := h
 cases h
 simp (disch := omega) only [vm, seval, H]
 refine ⟨(hR _ _ _ _ _ _ (by simp (disch := omega) only [vm, seval, H]; rfl) (.cons _ (.cons _ (List.Sublist.refl _))) ?_ (by omega) ?_).1⟩ <;> first | (simp (disch := omega) only [vm, seval, H]; done) | rfl
 replace h := bind_a h
 obtain ⟨y11, h⟩ := h
 simp (disch := omega) only [vm, seval, h.1]
 refine ⟨ref16_Encode_w h.1.1 (by first | (simp (disch := omega) only [vm, seval, h.1]; done) | rfl) fun n12 hn12 => ?_⟩
 replace h := grd_a h
 obtain ⟨c, h⟩ := h
 try simp only [liE, seval] at c
 replace h := and_in c h
 replace h := bind_a h
 obtain ⟨x13, h⟩ := h
 replace h := grd_a h
 obtain ⟨c, h⟩ := h
 try simp only [liE, seval] at c
 replace h := and_in c h
 replace h := grd_a h
 obtain ⟨c, h⟩ := h
 try simp only [liE, seval] at c
 replace h := and_in c h
 replace h := bind_a h
 obtain ⟨x14, h⟩ := h
 replace h := grd_a h
 obtain ⟨c, h⟩ := h
 try simp only [liE, seval] at c
 replace h := and_in c h
 simp (disch := omega) only [vm, seval, h.1]
 refine ⟨awp_drw [] (.take 0 (.take 1 (.take 2 (.take 3 (.take 5 (.take 7 (.take 8 (.take 9 (.take 10 (.alt 4 [10, 9, 8, 7, 5, 2, 1, 0] (.alt 6 [10, 9, 8, 7, 3, 2, 1, 0] (.alt 11 [9, 8, 7, 5, 3, 2, 1, 0] (.take 12 (.alt 13 [] (.done) (.stop))) (.stop)) (.stop)) (.stop))))))))))) vE_mixed (by kernel_rfl) ?_⟩
 replace h := bind_a h
 obtain ⟨x15, h⟩ := h
 replace h := grd_a h
 obtain ⟨c, h⟩ := h
 try simp only [liE, seval] at c
 replace h := and_in c h
 replace h := grd_a h
 obtain ⟨c, h⟩ := h
 try simp only [liE, seval] at c
 replace h := and_in c h
 replace h := bind_a h
 obtain ⟨x16, h⟩ := h
 replace h := grd_a h
 obtain ⟨c, h⟩ := h
 try simp only [liE, seval] at c
 replace h := and_in c h
 simp (disch := omega) only [vm, seval, h.1]
 refine ⟨awp_drw [] (.take 0 (.take 1 (.take 2 (.take 3 (.take 5 (.take 6 (.take 8 (.take 9 (.take 10 (.take 11 (.alt 4 [11, 10, 9, 8, 6, 5, 2, 1, 0] (.alt 7 [11, 10, 9, 8, 5, 3, 2, 1, 0] (.alt 12 [10, 9, 8, 6, 5, 3, 2, 1, 0] (.take 13 (.alt 14 [] (.done) (.stop))) (.stop)) (.stop)) (.stop)))))))))))) vE_mixed (by kernel_rfl) ?_⟩
 replace h := bind_a h
 obtain ⟨y17, h⟩ := h
 simp (disch := omega) only [vm, seval, h.1]
 refine ⟨jrd_Decode_w h.1.1 (by first | (simp (disch := omega) only [vm, seval, h.1]; done) | rfl) fun n18 hn18 => ?_⟩
 replace h := bind_a h
 obtain ⟨y19, h⟩ := h
 simp (disch := omega) only [vm, seval, h.1]
 refine ⟨jrd_Decode_w h.1.1 (by first | (simp (disch := omega) only [vm, seval, h.1]; done) | rfl) fun n20 hn20 => ?_⟩
 replace h := ite_a h
 rcases h with h | h
 replace h := bind_a h
 obtain ⟨y21, h⟩ := h
 simp (disch := omega) only [vm, seval, h.1]
 refine ⟨ref16_Same_w h.1.1 (by first | (simp (disch := omega) only [vm, seval, h.1]; done) | rfl) fun n22 hn22 => ?_⟩
 obtain ⟨H, h⟩ := h
 cases h
 simp (disch := omega) only [vm, seval, H]
 refine ⟨(hR _ _ _ _ _ _ (by simp (disch := omega) only [vm, seval, H]; rfl) (.cons _ (.cons _ (.cons _ (.cons _ (.cons _ (.cons _ (List.Sublist.refl _))))))) ?_ (by omega) ?_).1⟩ <;> first | (simp (disch := omega) only [vm, seval, H]; done) | rfl
 obtain ⟨H, h⟩ := h
 cases h
 simp (disch := omega) only [vm, seval, H]
 refine ⟨(hR _ _ _ _ _ _ (by simp (disch := omega) only [vm, seval, H]; rfl) (.cons _ (.cons _ (.cons _ (.cons _ (.cons _ (.cons _ (List.Sublist.refl _))))))) ?_ (by omega) ?_).1⟩ <;> first | (simp (disch := omega) only [vm, seval, H]; done) | rfl
 intro k4 Jk4 hk4 h
 replace h := bind_a h
 obtain ⟨y7, h⟩ := h
 simp (disch := omega) only [vm, seval, h.1]
 refine ⟨keep_JRD_w h.1.1 (by first | (simp (disch := omega) only [vm, seval, h.1]; done) | rfl) fun n8 hn8 => ?_⟩
 replace h := ite_a h
 rcases h with h | h
 replace h := bind_a h
 obtain ⟨y9, h⟩ := h
 simp (disch := omega) only [vm, seval, h.1]
 refine ⟨keep_Value_w h.1.1 (by first | (simp (disch := omega) only [vm, seval, h.1]; done) | rfl) fun n10 hn10 => ?_⟩
 simp (disch := omega) only [vm, seval, h.1]
 refine ⟨hk4 (!y9) () _ _ _ _ h.2 (List.Sublist.refl _) ?_ ?_ ?_ (by omega)⟩ <;> first | (simp (disch := omega) only [vm, seval, h.1]; done) | rfl
 simp (disch := omega) only [vm, seval, h.1]
 refine ⟨hk4 true () _ _ _ _ h.2 (List.Sublist.refl _) ?_ ?_ ?_ (by omega)⟩ <;> first | (simp (disch := omega) only [vm, seval, h.1]; done) | rfl
 obtain ⟨H, h⟩ := h
 cases h
 simp (disch := omega) only [vm, seval, H]
 refine ⟨(hR _ _ _ _ _ _ (by simp (disch := omega) only [vm, seval, H]; rfl) (.cons _ (.cons _ (List.Sublist.refl _))) ?_ (by omega) ?_).1⟩ <;> first | (simp (disch := omega) only [vm, seval, H]; done) | rfl
theorem law16_JrdEncodes_w {a0 a1 r} (h : law16_JrdEncodes N a0 a1 = some r) (ha : args = [encApiJRD a0, .str a1]) (hQ : ∀ n', n ≤ n' → Gl (Q (.bool r) ⟨m, n'⟩)) : ACall vE 6 args ⟨m, n⟩ Q := by
 rw [law16_JrdEncodes] at h
 subst ha
 refine ent hQ Try.func6 rfl Try.ntmps6 Try.results6 (.q (.r []) (.q (.q (.r []) (.c (.q (.r []) .z) .z)) (.q (.q (.r []) (.c (.q (.r []) .z) .z)) (.q .z (.q .z .z))))) fun R hR => ?_
 replace h := And.intro trivial h
 replace h := bind_a h
 obtain ⟨y1, h⟩ := h
 simp (disch := omega) only [vm, seval, h.1]
 refine ⟨law16_sane_w h.1.1 (by first | (simp (disch := omega) only [vm, seval, h.1]; done) | rfl) fun n2 hn2 => ?_⟩
 replace h := ite_a h
 rcases h with h | h
 replace h := bind_a h
 obtain ⟨y3, h⟩ := h
 simp (disch := omega) only [vm, seval, h.1]
 refine ⟨keep_JRD_w h.1.1 (by first | (simp (disch := omega) only [vm, seval, h.1]; done) | rfl) fun n4 hn4 => ?_⟩
 replace h := ite_a h
 rcases h with h | h
 replace h := bind_a h
 obtain ⟨y5, h⟩ := h
 have cy5 := h.1.1
 replace h := bind_a h
 obtain ⟨y7, h⟩ := h
 have cy7 := h.1.1
 simp (disch := omega) only [vm, seval, h.1]
 refine ⟨awp_drw [] (.take 0 (.take 1 (.take 3 (.take 4 (.alt 2 [4, 3] (.alt 5 [1, 0] (.alt 6 [4, 3] (.alt 7 [] (.done) (.stop)) (.stop)) (.stop)) (.stop)))))) vE_mixed (by kernel_rfl) ?_⟩
 simp (disch := omega) only [vm, seval, h.1]
 refine ⟨jrd_Find_w cy5 (by first | (simp (disch := omega) only [vm, seval, h.1]; done) | rfl) fun n6 hn6 => ?_⟩
 simp (disch := omega) only [vm, seval, h.1]
 refine ⟨ref16_Find_w cy7 (by first | (simp (disch := omega) only [vm, seval, h.1]; done) | rfl) fun n8 hn8 => ?_⟩
 simp (disch := omega) only [vm, seval, h.1]
 refine ⟨sjoin (γ := Unit) h [19, 20, 21, 22, 23, 24, 25, 26, 27, 28, 29, 30] [31] (fun j9 g => [.bool j9]) (fun j9 g => (n, [.str a0.subject, .slice 1 (List.map AVal.str a0.aliases) false, .slice 3 (List.map encApiProperty a0.properties) false, .slice 6 (List.map encApiLink a0.links) false]) :: m) .z ?_ ?_⟩ <;> clear h
 rintro j9 _ n12 hnn12 _ _ h
 refine wpc_snd (.c (.q (.r []) .z) .z) ?_
 replace h := ite_a h
 rcases h with h | h
 obtain ⟨H, h⟩ := h
 cases h
 simp (disch := omega) only [vm, seval, H]
 refine ⟨(hR _ _ _ _ _ _ (by simp (disch := omega) only [vm, seval, H]; rfl) (.cons _ (List.Sublist.refl _)) ?_ (by omega) ?_).1⟩ <;> first | (simp (disch := omega) only [vm, seval, H]; done) | rfl
 simp (disch := omega) only [vm, seval, h.1]
 refine ⟨sjoin (γ := Unit) h [4, 7, 32, 33, 34, 35, 36, 37, 38, 39, 40, 41, 42, 43, 44, 45, 46, 47] [] (fun j19 g => []) (fun j19 g => (n, [.str a0.subject, .slice 1 (List.map AVal.str a0.aliases) false, .slice 3 (List.map encApiProperty a0.properties) false, .slice 6 (List.map encApiLink a0.links) false]) :: m) (.q (.r []) .z) ?_ ?_⟩ <;> clear h
 rintro j19 _ n22 hnn22 _ _ h
 refine wpc_snd (.q (.r []) .z) ?_
 obtain ⟨H, h⟩ := h
 cases h
 simp (disch := omega) only [vm, seval, H]
 refine ⟨(hR _ _ _ _ _ _ (by simp (disch := omega) only [vm, seval, H]; rfl) (.cons _ (List.Sublist.refl _)) ?_ (by omega) ?_).1⟩ <;> first | (simp (disch := omega) only [vm, seval, H]; done) | rfl
 intro k20 Jk20 hk20 h
 replace h := grd_a h
 obtain ⟨hfk23, h⟩ := h
 simp (disch := omega) only [vm, seval, h.1]
 refine ⟨sloopr (σ := Unit) (γ := Unit) y5 hfk23 (fun xs i s => law16_JrdEncodes_L1 N y7 k20 xs i) (fun i s g => [.int .i64 i]) (fun i s g => (n, [.str a0.subject, .slice 1 (List.map AVal.str a0.aliases) false, .slice 3 (List.map encApiProperty a0.properties) false, .slice 6 (List.map encApiLink a0.links) false]) :: m) [4, 7, 35, 36, 37, 38, 39, 40, 41, 42, 43, 44, 45, 46, 47] [34] () () h (by first | (simp (disch := omega) only [vm, seval, h.1]; done) | rfl) (by first | (simp (disch := omega) only [vm, seval, h.1]; done) | rfl) ?_ ?_⟩ <;> clear h
 rintro s34 _ _ nL0_1 hnL0_1 _ h
 change _ ∧ law16_JrdEncodes_L1 N y7 k20 [] s34 = _ at h
 rw [law16_JrdEncodes_L1] at h
 refine wpc_snd (.q (.r []) (.q (.c .z .z) (.q (.q (.r []) (.q .z (.c (.q (.r []) .z) .z))) (.r [])))) ?_
 simp (disch := omega) only [vm, seval, h.1]
 refine ⟨hk20 () () _ _ _ _ h.2 (List.Sublist.refl _) ?_ ?_ ?_ (by omega)⟩ <;> first | (simp (disch := omega) only [vm, seval, h.1]; done) | rfl
 rintro xk23 xsk23 s34 _ _ nL0_1 hnL0_1 _ h Jk23 hk23
 change _ ∧ law16_JrdEncodes_L1 N y7 k20 (xk23 :: xsk23) s34 = _ at h
 rw [law16_JrdEncodes_L1] at h
 refine wpc_snd (.q (.r []) (.q (.c .z .z) (.q (.q (.r []) (.q .z (.c (.q (.r []) .z) .z))) (.r [])))) ?_
 replace h := bind_a h
 obtain ⟨x24, h⟩ := h
 replace h := bind_a h
 obtain ⟨y25, h⟩ := h
 have cy25 := h.1.1
 simp (disch := omega) only [vm, seval, h.1]
 refine ⟨awp_drw [] (.take 0 (.take 1 (.take 2 (.take 3 (.take 4 (.take 5 (.take 6 (.take 7 (.alt 8 [6, 5, 4, 2, 1, 0] (.take 9 (.done)) (.stop)))))))))) vE_mixed (by kernel_rfl) ?_⟩
 simp (disch := omega) only [vm, seval, h.1]
 refine ⟨ref16_SameLink_w cy25 (by first | (simp (disch := omega) only [vm, seval, h.1]; done) | rfl) fun n26 hn26 => ?_⟩
 replace h := ite_a h
 rcases h with h | h
 simp (disch := omega) only [vm, seval, h.1]
 refine ⟨hk23 () () _ _ _ _ h.2 (List.Sublist.refl _) ?_ ?_ ?_ (by omega)⟩ <;> first | (simp (disch := omega) only [vm, seval, h.1]; done) | rfl
 obtain ⟨H, h⟩ := h
 cases h
 simp (disch := omega) only [vm, seval, H]
 refine ⟨(hR _ _ _ _ _ _ (by simp (disch := omega) only [vm, seval, H]; rfl) (.cons _ (List.Sublist.refl _)) ?_ (by omega) ?_).1⟩ <;> first | (simp (disch := omega) only [vm, seval, H]; done) | rfl
 intro k10 Jk10 hk10 h
 replace h := ite_a h
 rcases h with h | h
 simp (disch := omega) only [vm, seval, h.1]
 refine ⟨awp_drw [] (.take 0 (.take 1 (.take 2 (.take 3 (.take 4 (.take 5 (.take 6 (.take 8 (.alt 7 [8, 4, 3, 2, 1, 0] (.alt 9 [6, 4, 3, 2, 1, 0] (.alt 10 [8, 6, 4, 3, 2, 1, 0] (.take 11 (.take 12 (.done))) (.stop)) (.stop)) (.stop)))))))))) vE_mixed (by kernel_rfl) ?_⟩
 simp (disch := omega) only [vm, seval, h.1]
 refine ⟨hk10 true () _ _ _ _ h.2 (List.Sublist.refl _) ?_ ?_ ?_ (by omega)⟩ <;> first | (simp (disch := omega) only [vm, seval, h.1]; done) | rfl
 replace h := bind_a h
 obtain ⟨y13, h⟩ := h
 have cy13 := h.1.1
 replace h := bind_a h
 obtain ⟨y15, h⟩ := h
 have cy15 := h.1.1
 replace h := bind_a h
 obtain ⟨y17, h⟩ := h
 have cy17 := h.1.1
 simp (disch := omega) only [vm, seval, h.1]
 refine ⟨awp_drw [] (.take 0 (.take 1 (.take 2 (.take 3 (.take 4 (.take 5 (.take 6 (.take 8 (.alt 7 [8, 4, 3, 2, 1, 0] (.alt 9 [6, 4, 3, 2, 1, 0] (.alt 10 [8, 6, 4, 3, 2, 1, 0] (.take 11 (.take 12 (.done))) (.stop)) (.stop)) (.stop)))))))))) vE_mixed (by kernel_rfl) ?_⟩
 simp (disch := omega) only [vm, seval, h.1]
 refine ⟨jrd_Encode_w cy13 (by first | (simp (disch := omega) only [vm, seval, h.1]; done) | rfl) fun n14 hn14 => ?_⟩
 simp (disch := omega) only [vm, seval, h.1]
 refine ⟨ref16_Encode_w cy15 (by first | (simp (disch := omega) only [vm, seval, h.1]; done) | rfl) fun n16 hn16 => ?_⟩
 simp (disch := omega) only [vm, seval, h.1]
 refine ⟨ref14_Same_w cy17 (by first | (simp (disch := omega) only [vm, seval, h.1]; done) | rfl) fun n18 hn18 => ?_⟩
 simp (disch := omega) only [vm, seval, h.1]
 refine ⟨hk10 (!y17) () _ _ _ _ h.2 (List.Sublist.refl _) ?_ ?_ ?_ (by omega)⟩ <;> first | (simp (disch := omega) only [vm, seval, h.1]; done) | rfl
 obtain ⟨H, h⟩ := h
 cases h
 simp (disch := omega) only [vm, seval, H]
 refine ⟨(hR _ _ _ _ _ _ (by simp (disch := omega) only [vm, seval, H]; rfl) (.cons _ (List.Sublist.refl _)) ?_ (by omega) ?_).1⟩ <;> first | (simp (disch := omega) only [vm, seval, H]; done) | rfl
 obtain ⟨H, h⟩ := h
 cases h
 simp (disch := omega) only [vm, seval, H]
 refine ⟨(hR _ _ _ _ _ _ (by simp (disch := omega) only [vm, seval, H]; rfl) (.cons _ (List.Sublist.refl _)) ?_ (by omega) ?_).1⟩ <;> first | (simp (disch := omega) only [vm, seval, H]; done) | rfl
theorem law16_JrdBack_w {a0 r} (h : law16_JrdBack N a0 = some r) (ha : args = [.str a0]) (hQ : ∀ n', n ≤ n' → Gl (Q (.bool r) ⟨m, n'⟩)) : ACall vE 7 args ⟨m, n⟩ Q := by
 rw [law16_JrdBack] at h
 subst ha
 refine ent hQ Try.func7 rfl Try.ntmps7 Try.results7 (.q (.r []) (.q (.q (.r []) (.c (.q (.r []) .z) .z)) (.q (.q (.r []) (.c (.q (.r []) .z) .z)) (.q (.r []) (.q (.r []) (.q .z (.q (.r []) (.q (.r []) .z)))))))) fun R hR => ?_
 replace h := And.intro trivial h
 replace h := bind_a h
 obtain ⟨y1, h⟩ := h
 simp (disch := omega) only [vm, seval, h.1]
 refine ⟨law16_sane_w h.1.1 (by first | (simp (disch := omega) only [vm, seval, h.1]; done) | rfl) fun n2 hn2 => ?_⟩
 replace h := ite_a h
 rcases h with h | h
 replace h := ite_a h
 rcases h with h | h
 obtain ⟨H, h⟩ := h
 cases h
 simp (disch := omega) only [vm, seval, H]
 refine ⟨(hR _ _ _ _ _ _ (by simp (disch := omega) only [vm, seval, H]; rfl) (List.Sublist.refl _) ?_ (by omega) ?_).1⟩ <;> first | (simp (disch := omega) only [vm, seval, H]; done) | rfl
 replace h := bind_a h
 obtain ⟨y3, h⟩ := h
 simp (disch := omega) only [vm, seval, h.1]
 refine ⟨ref14_Parse_w h.1.1 (by first | (simp (disch := omega) only [vm, seval, h.1]; done) | rfl) fun n4 hn4 => ?_⟩
 replace h := bind_a h
 obtain ⟨y5, h⟩ := h
 simp (disch := omega) only [vm, seval, h.1]
 refine ⟨jrd_Decode_w h.1.1 (by first | (simp (disch := omega) only [vm, seval, h.1]; done) | rfl) fun n6 hn6 => ?_⟩
 simp (disch := omega) only [vm, seval, h.1]
 refine ⟨sjoin (γ := Unit) h [26, 27, 28, 29, 30] [31] (fun j7 g => [.bool j7]) (fun j7 g => (n6, [.str y5.1.subject, .slice 1 (List.map AVal.str y5.1.aliases) false, .slice 3 (List.map encApiProperty y5.1.properties) false, .slice 6 (List.map encApiLink y5.1.links) false]) :: (n4, [.int .i64 y3.1.kind, .str y3.1.text, .slice 1 (List.map AVal.str y3.1.keys) false, .slice 4 (List.map encApiValue y3.1.items) false]) :: m) (.r []) ?_ ?_⟩ <;> clear h
 rintro j7 _ n10 hnn10 _ _ h
 refine wpc_snd (.c (.q (.r []) .z) .z) ?_
 replace h := ite_a h
 rcases h with h | h
 replace h := ite_a h
 rcases h with h | h
 obtain ⟨H, h⟩ := h
 cases h
 simp (disch := omega) only [vm, seval, H]
 refine ⟨(hR _ _ _ _ _ _ (by simp (disch := omega) only [vm, seval, H]; rfl) (.cons _ (.cons _ (List.Sublist.refl _))) ?_ (by omega) ?_).1⟩ <;> first | (simp (disch := omega) only [vm, seval, H]; done) | rfl
 obtain ⟨H, h⟩ := h
 cases h
 simp (disch := omega) only [vm, seval, H]
 refine ⟨(hR _ _ _ _ _ _ (by simp (disch := omega) only [vm, seval, H]; rfl) (.cons _ (.cons _ (List.Sublist.refl _))) ?_ (by omega) ?_).1⟩ <;> first | (simp (disch := omega) only [vm, seval, H]; done) | rfl
 replace h := bind_a h
 obtain ⟨y11, h⟩ := h
 simp (disch := omega) only [vm, seval, h.1]
 refine ⟨jrd_Encode_w h.1.1 (by first | (simp (disch := omega) only [vm, seval, h.1]; done) | rfl) fun n12 hn12 => ?_⟩
 replace h := bind_a h
 obtain ⟨y13, h⟩ := h
 simp (disch := omega) only [vm, seval, h.1]
 refine ⟨jrd_Decode_w h.1.1 (by first | (simp (disch := omega) only [vm, seval, h.1]; done) | rfl) fun n14 hn14 => ?_⟩
 replace h := ite_a h
 rcases h with h | h
 replace h := bind_a h
 obtain ⟨y15, h⟩ := h
 simp (disch := omega) only [vm, seval, h.1]
 refine ⟨ref16_Same_w h.1.1 (by first | (simp (disch := omega) only [vm, seval, h.1]; done) | rfl) fun n16 hn16 => ?_⟩
 replace h := ite_a h
 rcases h with h | h
 replace h := ite_a h
 rcases h with h | h
 obtain ⟨H, h⟩ := h
 cases h
 simp (disch := omega) only [vm, seval, H]
 refine ⟨(hR _ _ _ _ _ _ (by simp (disch := omega) only [vm, seval, H]; rfl) (.cons _ (.cons _ (.cons _ (List.Sublist.refl _)))) ?_ (by omega) ?_).1⟩ <;> first | (simp (disch := omega) only [vm, seval, H]; done) | rfl
 obtain ⟨H, h⟩ := h
 cases h
 simp (disch := omega) only [vm, seval, H]
 refine ⟨(hR _ _ _ _ _ _ (by simp (disch := omega) only [vm, seval, H]; rfl) (.cons _ (.cons _ (.cons _ (List.Sublist.refl _)))) ?_ (by omega) ?_).1⟩ <;> first | (simp (disch := omega) only [vm, seval, H]; done) | rfl
 obtain ⟨H, h⟩ := h
 cases h
 simp (disch := omega) only [vm, seval, H]
 refine ⟨(hR _ _ _ _ _ _ (by simp (disch := omega) only [vm, seval, H]; rfl) (.cons _ (.cons _ (.cons _ (List.Sublist.refl _)))) ?_ (by omega) ?_).1⟩ <;> first | (simp (disch := omega) only [vm, seval, H]; done) | rfl
 obtain ⟨H, h⟩ := h
 cases h
 simp (disch := omega) only [vm, seval, H]
 refine ⟨(hR _ _ _ _ _ _ (by simp (disch := omega) only [vm, seval, H]; rfl) (.cons _ (.cons _ (.cons _ (List.Sublist.refl _)))) ?_ (by omega) ?_).1⟩ <;> first | (simp (disch := omega) only [vm, seval, H]; done) | rfl
 intro k8 Jk8 hk8 h
 replace h := ite_a h
 rcases h with h | h
 simp (disch := omega) only [vm, seval, h.1]
 refine ⟨hk8 true () _ _ _ _ h.2 (List.Sublist.refl _) ?_ ?_ ?_ (by omega)⟩ <;> first | (simp (disch := omega) only [vm, seval, h.1]; done) | rfl
 simp (disch := omega) only [vm, seval, h.1]
 refine ⟨hk8 (y5.2 != 0) () _ _ _ _ h.2 (List.Sublist.refl _) ?_ ?_ ?_ (by omega)⟩ <;> first | (simp (disch := omega) only [vm, seval, h.1]; done) | rfl
 obtain ⟨H, h⟩ := h
 cases h
 simp (disch := omega) only [vm, seval, H]
 refine ⟨(hR _ _ _ _ _ _ (by simp (disch := omega) only [vm, seval, H]; rfl) (List.Sublist.refl _) ?_ (by omega) ?_).1⟩ <;> first | (simp (disch := omega) only [vm, seval, H]; done) | rfl
end Go.Proofs.Ytdbeiialamganaa
