import Derived.Test.YtbmilkoebhmnnaaDoorVmFacts
import Derived.Test.YtbmilkoebhmnnaaDoorDefs
import Derived.Test.YtbmilkoebhmnnaaDoorVM2
import Derived.Test.YtbmilkoebhmnnaaDoorW0
import Derived.Test.YtbmilkoebhmnnaaDoorW2
import Derived.Test.YtbmilkoebhmnnaaDoorW3
set_option linter.unusedVariables false
set_option linter.unusedSimpArgs false
set_option maxHeartbeats 4000000
set_option maxRecDepth 100000
set_option linter.defProp false
namespace Go.Proofs.YtbmilkoebhmnnaaDoor
open Go.VM
variable {N n : Nat} {m : MS} {Q : PQ} {args : List AVal}
theorem LJ {a0 r} {i0 : Nat} (h : FV N a0 = some r) (ha : args = [.ptr i0 0]) (hi0 : Ap m i0 = some ([.str a0.s, .int .i64 a0.at_])) (hQ : ∀ n', n ≤ n' → Gl (Q (.tuple [.str r.1, .int .i64 r.2.1]) ⟨BH m i0 ([.str r.2.2.s, .int .i64 r.2.2.at_]), n'⟩)) : ACall vE 44 args ⟨m, n⟩ Q := by
 rw [FV] at h
 subst ha
 refine ACall.front hi0 fun hin => ent (fun n' k => ⟨_, rfl, (hQ n' k).go⟩) Tryd.func44 rfl Tryd.ntmps44 Tryd.results44 (.q (.r []) (.q (.r []) .z)) fun R hR => ?_
 replace h := And.intro trivial h
 simp (disch := omega) only [vm, seval, h.1]
 refine ⟨AX (γ := Unit) h [5, 12, 13, 14, 15, 16, 17, 18, 19, 20, 21, 22, 23, 24] [6, 7] (fun j1 g => [.int .i64 j1.1, .int .i64 j1.2]) (fun j1 g => (i0, [.str a0.s, .int .i64 a0.at_]) :: CZ m i0) .z ?_ ?_⟩ <;> clear h
 rintro j1 _ n4 hnn4 _ _ h
 refine AA (.q (.q (.r []) (.c (.q (.r []) .z) .z)) (.q (.r []) (.q (.r []) .z))) ?_
 replace h := AC h
 rcases h with h | h
 obtain ⟨H, h⟩ := h
 cases h
 simp (disch := omega) only [vm, seval, H]
 refine ⟨(hR _ _ _ _ _ _ (by simp (disch := omega) only [vm, seval, H]; rfl) slr ?_ (by omega) ?_).1⟩ <;> first | (simp (disch := omega) only [vm, seval, H]; done) | rfl
 replace h := AB h
 obtain ⟨x7, h⟩ := h
 obtain ⟨H, h⟩ := h
 cases h
 simp (disch := omega) only [vm, seval, H]
 refine ⟨(hR _ _ _ _ _ _ (by simp (disch := omega) only [vm, seval, H]; rfl) slr ?_ (by omega) ?_).1⟩ <;> first | (simp (disch := omega) only [vm, seval, H]; done) | rfl
 · intro k2 Jk2 hk2 h
   replace h := AB h
   obtain ⟨y5, h⟩ := h
   have cy5 := h.1.1
   simp (disch := omega) only [vm, seval, h.1]
   refine ⟨Ar [] (.take 0 (.take 1 (.take 2 (.take 3 (.take 4 (.take 5 (.take 6 (.take 7 (.alt 8 [6, 5, 4, 2, 1, 0] (.take 9 (.alt 10 [7, 6, 5, 4, 3, 2, 1, 0] (.alt 11 [7, 6, 5, 4, 3, 2, 1, 0] (.alt 12 [7, 6, 5, 4, 3, 2, 1, 0] (.alt 13 [] (.alt 14 [] (.alt 15 [] (.done) (.stop)) (.stop)) (.stop)) (.alt 13 [] (.alt 12 [7, 6, 5, 4, 3, 2, 1, 0] (.alt 14 [] (.alt 15 [] (.done) (.stop)) (.stop)) (.alt 14 [] (.alt 12 [7, 6, 5, 4, 3, 2, 1, 0] (.alt 15 [] (.done) (.stop)) (.stop)) (.stop))) (.stop))) (.alt 12 [7, 6, 5, 4, 3, 2, 1, 0] (.alt 11 [7, 6, 5, 4, 3, 2, 1, 0] (.alt 13 [] (.alt 14 [] (.alt 15 [] (.done) (.stop)) (.stop)) (.stop)) (.alt 13 [] (.alt 11 [7, 6, 5, 4, 3, 2, 1, 0] (.alt 14 [] (.alt 15 [] (.done) (.stop)) (.stop)) (.stop)) (.stop))) (.alt 13 [] (.alt 11 [7, 6, 5, 4, 3, 2, 1, 0] (.alt 12 [7, 6, 5, 4, 3, 2, 1, 0] (.alt 14 [] (.alt 15 [] (.done) (.stop)) (.stop)) (.alt 14 [] (.alt 12 [7, 6, 5, 4, 3, 2, 1, 0] (.alt 15 [] (.done) (.stop)) (.stop)) (.stop))) (.alt 12 [7, 6, 5, 4, 3, 2, 1, 0] (.alt 11 [7, 6, 5, 4, 3, 2, 1, 0] (.alt 14 [] (.alt 15 [] (.done) (.stop)) (.stop)) (.stop)) (.stop))) (.stop)))) (.alt 11 [7, 6, 5, 4, 3, 2, 1, 0] (.alt 10 [7, 6, 5, 4, 3, 2, 1, 0] (.alt 12 [7, 6, 5, 4, 3, 2, 1, 0] (.alt 13 [] (.alt 14 [] (.alt 15 [] (.done) (.stop)) (.stop)) (.stop)) (.alt 13 [] (.alt 12 [7, 6, 5, 4, 3, 2, 1, 0] (.alt 14 [] (.alt 15 [] (.done) (.stop)) (.stop)) (.alt 14 [] (.alt 12 [7, 6, 5, 4, 3, 2, 1, 0] (.alt 15 [] (.done) (.stop)) (.stop)) (.stop))) (.stop))) (.alt 12 [7, 6, 5, 4, 3, 2, 1, 0] (.alt 10 [7, 6, 5, 4, 3, 2, 1, 0] (.alt 13 [] (.alt 14 [] (.alt 15 [] (.done) (.stop)) (.stop)) (.stop)) (.stop)) (.stop))) (.alt 12 [7, 6, 5, 4, 3, 2, 1, 0] (.alt 10 [7, 6, 5, 4, 3, 2, 1, 0] (.alt 11 [7, 6, 5, 4, 3, 2, 1, 0] (.alt 13 [] (.alt 14 [] (.alt 15 [] (.done) (.stop)) (.stop)) (.stop)) (.alt 13 [] (.alt 11 [7, 6, 5, 4, 3, 2, 1, 0] (.alt 14 [] (.alt 15 [] (.done) (.stop)) (.stop)) (.stop)) (.stop))) (.alt 11 [7, 6, 5, 4, 3, 2, 1, 0] (.alt 10 [7, 6, 5, 4, 3, 2, 1, 0] (.alt 13 [] (.alt 14 [] (.alt 15 [] (.done) (.stop)) (.stop)) (.stop)) (.stop)) (.stop))) (.stop))))) (.stop)))))))))) Ah (by kernel_rfl) ?_⟩
   all_goals
    simp (disch := omega) only [vm, seval, h.1]
    repeat' refine M7 ?_ ?_
    all_goals
     refine ⟨M3 cy5 (by first | (simp (disch := omega) only [vm, seval, h.1]; done) | rfl) fun n6 hn6 => ?_⟩
     simp (disch := omega) only [vm, seval, h.1]
     refine ⟨hk2 (y5.2.1, y5.2.2) () _ _ _ _ h.2 slr ?_ ?_ ?_ (by omega)⟩ <;> first | (simp (disch := omega) only [vm, seval, h.1]; done) | rfl
theorem IP {a0 a1 a2 r} (h : DD N a0 a1 a2 = some r) (ha : args = [.str a0, .int .u64 a1, .int .u64 a2, .fn (.func 95) [] []]) (hQ : ∀ n', n ≤ n' → Gl (Q (.tuple [.int .u64 r.1, .int .i64 r.2]) ⟨m, n'⟩)) : ACall vE 89 args ⟨m, n⟩ Q := by
 rw [DD] at h
 subst ha
 refine ent hQ Tryd.func89 rfl Tryd.ntmps89 Tryd.results89 (.q (.r []) (.q (.q (.r []) (.c (.q (.r []) .z) .z)) .z)) fun R hR => ?_
 replace h := And.intro trivial h
 replace h := AC h
 rcases h with h | h
 obtain ⟨H, h⟩ := h
 cases h
 simp (disch := omega) only [vm, seval, H]
 refine ⟨(hR _ _ _ _ _ _ (by simp (disch := omega) only [vm, seval, H]; rfl) slr ?_ (by omega) ?_).1⟩ <;> first | (simp (disch := omega) only [vm, seval, H]; done) | rfl
 simp (disch := omega) only [vm, seval, h.1]
 refine ⟨AX (γ := Unit) h [8, 9, 10, 16, 17, 18, 19, 20, 21, 22, 23, 24, 25, 26, 27] [] (fun j1 g => []) (fun j1 g => m) (.q (.r []) .z) ?_ ?_⟩ <;> clear h
 rintro j1 _ n4 hnn4 _ _ h
 refine AA (.q (.r []) .z) ?_
 simp (disch := omega) only [vm, seval, h.1]
 refine ⟨AX (γ := Unit) h [8, 9, 12, 13, 28, 29, 30, 31, 32, 33, 34, 35, 36, 37, 38, 39, 40, 41, 42, 43, 44, 45, 46, 47, 48, 49, 50, 51, 52, 53, 54, 55, 56, 57] [11] (fun j8 g => [.int .u64 j8]) (fun j8 g => m) (.q (.r []) .z) ?_ ?_⟩ <;> clear h
 rintro j8 _ n11 hnn11 _ _ h
 refine AA (.q (.r []) .z) ?_
 obtain ⟨H, h⟩ := h
 cases h
 simp (disch := omega) only [vm, seval, H]
 refine ⟨(hR _ _ _ _ _ _ (by simp (disch := omega) only [vm, seval, H]; rfl) slr ?_ (by omega) ?_).1⟩ <;> first | (simp (disch := omega) only [vm, seval, H]; done) | rfl
 intro k9 Jk9 hk9 h
 replace h := Ad h
 obtain ⟨hfk12, h⟩ := h
 simp (disch := omega) only [vm, seval, h.1]
 refine ⟨EF (σ := Int) (γ := Unit) a0 hfk12 (fun xs i s => Am N a1 a2 k9 xs s) (fun i s g => [.int .u64 s, .int .i64 i]) (fun i s g => m) [8, 9, 12, 13, 31, 32, 33, 34, 35, 36, 37, 38, 39, 40, 41, 42, 43, 44, 45, 46, 47, 48, 49, 50, 51, 52, 53, 54, 55, 56, 57] [11, 30] 0 () h (by first | (simp (disch := omega) only [vm, seval, h.1]; done) | rfl) (by first | (simp (disch := omega) only [vm, seval, h.1]; done) | rfl) ?_ ?_⟩ <;> clear h
 rintro s30 s11 _ nL1_1 hnL1_1 _ h
 change _ ∧ Am N a1 a2 k9 [] s11 = _ at h
 rw [Am] at h
 refine AA (.q (.r []) (.q (.c .z .z) (.q (.q (.r []) (.q (.r []) (.q .z (.r [])))) (.r [])))) ?_
 simp (disch := omega) only [vm, seval, h.1]
 refine ⟨hk9 s11 () _ _ _ _ h.2 slr ?_ ?_ ?_ (by omega)⟩ <;> first | (simp (disch := omega) only [vm, seval, h.1]; done) | rfl
 rintro xk12 xsk12 s30 s11 _ nL1_1 hnL1_1 _ h Jk12 hk12
 change _ ∧ Am N a1 a2 k9 (xk12 :: xsk12) s11 = _ at h
 rw [Am] at h
 refine AA (.q (.r []) (.q (.c .z .z) (.q (.q (.r []) (.q (.r []) (.q .z (.r [])))) (.r [])))) ?_
 replace h := AB h
 obtain ⟨y13, h⟩ := h
 simp (disch := omega) only [vm, seval, h.1]
 refine ⟨KS h.1.1 (by first | (simp (disch := omega) only [vm, seval, h.1]; done) | rfl) fun n14 hn14 => ?_⟩
 simp (disch := omega) only [vm, seval, h.1]
 refine ⟨AX (γ := Unit) h [37, 38, 39, 40, 41, 42, 43, 44, 45, 46, 47, 48, 49, 50] [51] (fun j15 g => [.bool j15]) (fun j15 g => m) (.r []) ?_ ?_⟩ <;> clear h
 rintro j15 _ n18 hnn18 _ _ h
 refine AA (.c (.q (.r []) .z) .z) ?_
 replace h := AC h
 rcases h with h | h
 obtain ⟨H, h⟩ := h
 cases h
 simp (disch := omega) only [vm, seval, H]
 refine ⟨(hR _ _ _ _ _ _ (by simp (disch := omega) only [vm, seval, H]; rfl) slr ?_ (by omega) ?_).1⟩ <;> first | (simp (disch := omega) only [vm, seval, H]; done) | rfl
 simp (disch := omega) only [vm, seval, h.1]
 refine ⟨hk12 (wr .u64 ((wr .u64 (s11 * a1)) + y13)) () _ _ _ _ h.2 slr ?_ ?_ ?_ (by omega)⟩ <;> first | (simp (disch := omega) only [vm, seval, h.1]; done) | rfl
 intro k16 Jk16 hk16 h
 replace h := Ad h
 obtain ⟨c, h⟩ := h
 try simp only [liE, seval] at c
 replace h := Ab c h
 replace h := AC h
 rcases h with h | h
 simp (disch := omega) only [vm, seval, h.1]
 refine ⟨hk16 true () _ _ _ _ h.2 slr ?_ ?_ ?_ (by omega)⟩ <;> first | (simp (disch := omega) only [vm, seval, h.1]; done) | rfl
 simp (disch := omega) only [vm, seval, h.1]
 refine ⟨hk16 (decide ((wr .u64 ((wr .u64 (s11 * a1)) + y13)) > a2)) () _ _ _ _ h.2 slr ?_ ?_ ?_ (by omega)⟩ <;> first | (simp (disch := omega) only [vm, seval, h.1]; done) | rfl
 intro k2 Jk2 hk2 h
 replace h := Ad h
 obtain ⟨hfk5, h⟩ := h
 simp (disch := omega) only [vm, seval, h.1]
 refine ⟨EF (σ := Unit) (γ := Unit) a0 hfk5 (fun xs i s => Ao N k2 xs) (fun i s g => [.int .i64 i]) (fun i s g => m) [8, 9, 10, 19, 20, 21, 22, 23, 24, 25, 26, 27] [18] () () h (by first | (simp (disch := omega) only [vm, seval, h.1]; done) | rfl) (by first | (simp (disch := omega) only [vm, seval, h.1]; done) | rfl) ?_ ?_⟩ <;> clear h
 rintro s18 _ _ nL0_1 hnL0_1 _ h
 change _ ∧ Ao N k2 [] = _ at h
 rw [Ao] at h
 refine AA (.q (.r []) (.q (.c .z .z) (.q (.q (.r []) (.q (.r []) (.c (.q (.r []) .z) .z))) (.r [])))) ?_
 simp (disch := omega) only [vm, seval, h.1]
 refine ⟨hk2 () () _ _ _ _ h.2 slr ?_ ?_ ?_ (by omega)⟩ <;> first | (simp (disch := omega) only [vm, seval, h.1]; done) | rfl
 rintro xk5 xsk5 s18 _ _ nL0_1 hnL0_1 _ h Jk5 hk5
 change _ ∧ Ao N k2 (xk5 :: xsk5) = _ at h
 rw [Ao] at h
 refine AA (.q (.r []) (.q (.c .z .z) (.q (.q (.r []) (.q (.r []) (.c (.q (.r []) .z) .z))) (.r [])))) ?_
 replace h := AB h
 obtain ⟨y6, h⟩ := h
 simp (disch := omega) only [vm, seval, h.1]
 refine ⟨Ra h.1.1 (by first | (simp (disch := omega) only [vm, seval, h.1]; done) | rfl) fun n7 hn7 => ?_⟩
 replace h := AC h
 rcases h with h | h
 simp (disch := omega) only [vm, seval, h.1]
 refine ⟨hk5 () () _ _ _ _ h.2 slr ?_ ?_ ?_ (by omega)⟩ <;> first | (simp (disch := omega) only [vm, seval, h.1]; done) | rfl
 obtain ⟨H, h⟩ := h
 cases h
 simp (disch := omega) only [vm, seval, H]
 refine ⟨(hR _ _ _ _ _ _ (by simp (disch := omega) only [vm, seval, H]; rfl) slr ?_ (by omega) ?_).1⟩ <;> first | (simp (disch := omega) only [vm, seval, H]; done) | rfl
theorem Dm {a0 a1 r} {i0 : Nat} (h : A7 N a0 a1 = some r) (ha : args = [.ptr i0 0, .str a1]) (hi0 : Ap m i0 = some ([.str a0.s, .int .i64 a0.at_])) (hQ : ∀ n', n ≤ n' → Gl (Q (.bool r.1) ⟨BH m i0 ([.str r.2.s, .int .i64 r.2.at_]), n'⟩)) : ACall vE 48 args ⟨m, n⟩ Q := by
 rw [A7] at h
 subst ha
 refine ACall.front hi0 fun hin => ent (fun n' k => ⟨_, rfl, (hQ n' k).go⟩) Tryd.func48 rfl Tryd.ntmps48 Tryd.results48 (.q (.r []) (.q .z (.q (.r []) .z))) fun R hR => ?_
 replace h := And.intro trivial h
 simp (disch := omega) only [vm, seval, h.1]
 refine ⟨AX (γ := Unit) h [5, 6, 7, 8, 9, 10, 11, 12, 13, 14, 15, 16, 17, 18, 19, 20, 21, 22, 23, 24, 25, 26, 27] [28] (fun j1 g => [.bool j1]) (fun j1 g => (i0, [.str a0.s, .int .i64 a0.at_]) :: CZ m i0) .z ?_ ?_⟩ <;> clear h
 rintro j1 _ n4 hnn4 _ _ h
 refine AA (.c (.q (.r []) (.q (.r []) .z)) .z) ?_
 replace h := AC h
 rcases h with h | h
 obtain ⟨H, h⟩ := h
 cases h
 simp (disch := omega) only [vm, seval, H]
 refine ⟨(hR _ _ _ _ _ _ (by simp (disch := omega) only [vm, seval, H]; rfl) slr ?_ (by omega) ?_).1⟩ <;> first | (simp (disch := omega) only [vm, seval, H]; done) | rfl
 obtain ⟨H, h⟩ := h
 cases h
 simp (disch := omega) only [vm, seval, H]
 refine ⟨(hR _ _ _ _ _ _ (by simp (disch := omega) only [vm, seval, H]; rfl) slr ?_ (by omega) ?_).1⟩ <;> first | (simp (disch := omega) only [vm, seval, H]; done) | rfl
 intro k2 Jk2 hk2 h
 replace h := AC h
 rcases h with h | h
 replace h := AB h
 obtain ⟨x5, h⟩ := h
 replace h := AB h
 obtain ⟨y6, h⟩ := h
 have cy6 := h.1.1
 simp (disch := omega) only [vm, seval, h.1]
 refine ⟨Ar [] (.take 0 (.take 1 (.take 2 (.take 3 (.take 4 (.take 5 (.take 6 (.take 7 (.take 8 (.take 9 (.take 10 (.take 11 (.take 12 (.take 13 (.take 14 (.take 15 (.take 16 (.take 17 (.take 18 (.take 19 (.take 20 (.alt 21 [19, 18, 17, 16, 15, 14, 13, 12, 9, 8, 7, 6, 5, 4, 3, 2, 1, 0] (.take 22 (.take 23 (.done))) (.stop))))))))))))))))))))))) Ah (by kernel_rfl) ?_⟩
 simp (disch := omega) only [vm, seval, h.1]
 refine ⟨EZ cy6 (by first | (simp (disch := omega) only [vm, seval, h.1]; done) | rfl) fun n7 hn7 => ?_⟩
 simp (disch := omega) only [vm, seval, h.1]
 refine ⟨hk2 (decide (y6 ≥ 0)) () _ _ _ _ h.2 slr ?_ ?_ ?_ (by omega)⟩ <;> first | (simp (disch := omega) only [vm, seval, h.1]; done) | rfl
 simp (disch := omega) only [vm, seval, h.1]
 refine ⟨Ar [] (.take 0 (.take 1 (.take 2 (.take 3 (.take 4 (.take 5 (.take 6 (.take 7 (.take 8 (.take 9 (.take 10 (.take 11 (.take 12 (.take 13 (.take 14 (.take 15 (.take 16 (.take 17 (.take 18 (.take 19 (.take 20 (.alt 21 [19, 18, 17, 16, 15, 14, 13, 12, 9, 8, 7, 6, 5, 4, 3, 2, 1, 0] (.take 22 (.take 23 (.done))) (.stop))))))))))))))))))))))) Ah (by kernel_rfl) ?_⟩
 simp (disch := omega) only [vm, seval, h.1]
 refine ⟨hk2 false () _ _ _ _ h.2 slr ?_ ?_ ?_ (by omega)⟩ <;> first | (simp (disch := omega) only [vm, seval, h.1]; done) | rfl
theorem G5 {a0 a1 r} {i0 : Nat} (h : Bc N a0 a1 = some r) (ha : args = [.ptr i0 0, .int .i64 a1]) (hi0 : Ap m i0 = some ([.str a0.s, .int .i64 a0.at_])) (hQ : ∀ n', n ≤ n' → Gl (Q (.tuple []) ⟨BH m i0 ([.str r.s, .int .i64 r.at_]), n'⟩)) : ACall vE 49 args ⟨m, n⟩ Q := by
 rw [Bc] at h
 subst ha
 refine ACall.front hi0 fun hin => ent (fun n' k => ⟨_, rfl, (hQ n' k).go⟩) Tryd.func49 rfl Tryd.ntmps49 Tryd.results49 (.q (.r []) (.c (.r []) .z)) fun R hR => ?_
 replace h := And.intro trivial h
 replace h := AB h
 obtain ⟨y1, h⟩ := h
 simp (disch := omega) only [vm, seval, h.1]
 refine ⟨Dw h.1.1 (by first | (simp (disch := omega) only [vm, seval, h.1]; done) | rfl) (i0 := i0) (by simp (disch := omega) only [vm, seval, h.1]) fun n2 hn2 => ?_⟩
 replace h := AC h
 rcases h with h | h
 obtain ⟨H, h⟩ := h
 cases h
 simp (disch := omega) only [vm, seval, H]
 refine ⟨(hR _ _ _ _ _ _ (by simp (disch := omega) only [vm, seval, H]; rfl) slr ?_ (by omega) ?_).2⟩ <;> first | (simp (disch := omega) only [vm, seval, H]; done) | rfl
 obtain ⟨H, h⟩ := h
 cases h
 simp (disch := omega) only [vm, seval, H]
 refine ⟨(hR _ _ _ _ _ _ (by simp (disch := omega) only [vm, seval, H]; rfl) slr ?_ (by omega) ?_).2⟩ <;> first | (simp (disch := omega) only [vm, seval, H]; done) | rfl
theorem Ig {a0 a1 r} (h : DT N a0 a1 = some r) (ha : args = [.str a0, .str a1]) (hQ : ∀ n', n ≤ n' → Gl (Q (.tuple [.str r.1, .str r.2.1, .bool r.2.2]) ⟨m, n'⟩)) : ACall vE 65 args ⟨m, n⟩ Q := by
 rw [DT] at h
 subst ha
 refine ent hQ Tryd.func65 rfl Tryd.ntmps65 Tryd.results65 (.q (.r []) (.q (.q (.r []) (.q (.r []) (.c (.q .z .z) .z))) (.q (.r []) .z))) fun R hR => ?_
 replace h := And.intro trivial h
 replace h := AB h
 obtain ⟨y1, h⟩ := h
 simp (disch := omega) only [vm, seval, h.1]
 refine ⟨IA h.1.1 (by first | (simp (disch := omega) only [vm, seval, h.1]; done) | rfl) fun n2 hn2 => ?_⟩
 replace h := AC h
 rcases h with h | h
 replace h := AB h
 obtain ⟨x3, h⟩ := h
 replace h := AB h
 obtain ⟨x4, h⟩ := h
 simp (disch := omega) only [vm, seval, h.1]
 refine ⟨Ar [] (.take 0 (.take 1 (.take 2 (.take 3 (.take 4 (.take 5 (.take 6 (.take 7 (.take 8 (.alt 9 [8, 7, 6, 5, 4, 3] (.alt 10 [] (.alt 11 [] (.done) (.stop)) (.stop)) (.stop))))))))))) Ah (by kernel_rfl) ?_⟩
 obtain ⟨H, h⟩ := h
 cases h
 simp (disch := omega) only [vm, seval, H]
 refine ⟨(hR _ _ _ _ _ _ (by simp (disch := omega) only [vm, seval, H]; rfl) slr ?_ (by omega) ?_).1⟩ <;> first | (simp (disch := omega) only [vm, seval, H]; done) | rfl
 obtain ⟨H, h⟩ := h
 cases h
 simp (disch := omega) only [vm, seval, H]
 refine ⟨(hR _ _ _ _ _ _ (by simp (disch := omega) only [vm, seval, H]; rfl) slr ?_ (by omega) ?_).1⟩ <;> first | (simp (disch := omega) only [vm, seval, H]; done) | rfl
theorem LD {a0 a1 r} (h : Gm N a0 a1 = some r) (ha : args = [.str a0, .int .i32 a1]) (hQ : ∀ n', n ≤ n' → Gl (Q (.int .i64 r) ⟨m, n'⟩)) : ACall vE 100 args ⟨m, n⟩ Q := by
 rw [Gm] at h
 subst ha
 refine ent hQ Tryd.func100 rfl Tryd.ntmps100 Tryd.results100 (.q (.r []) .z) fun R hR => ?_
 replace h := And.intro trivial h
 simp (disch := omega) only [vm, seval, h.1]
 refine ⟨AX (γ := Unit) h [161, 162, 163, 164, 165, 166] [160] (fun j1 g => [.bool j1]) (fun j1 g => m) (.r []) ?_ ?_⟩ <;> clear h
 rintro j1 _ n4 hnn4 _ _ h
 refine AA (.c (.q (.r []) .z) (.q (.r []) (.c .z (.q (.r []) (.c (.q (.r []) .z) .z))))) ?_
 replace h := AC h
 rcases h with h | h
 replace h := AB h
 obtain ⟨y5, h⟩ := h
 simp (disch := omega) only [vm, seval, h.1]
 refine ⟨EZ h.1.1 (by first | (simp (disch := omega) only [vm, seval, h.1]; done) | rfl) fun n6 hn6 => ?_⟩
 obtain ⟨H, h⟩ := h
 cases h
 simp (disch := omega) only [vm, seval, H]
 refine ⟨(hR _ _ _ _ _ _ (by simp (disch := omega) only [vm, seval, H]; rfl) slr ?_ (by omega) ?_).1⟩ <;> first | (simp (disch := omega) only [vm, seval, H]; done) | rfl
 replace h := AC h
 rcases h with h | h
 simp (disch := omega) only [vm, seval, h.1]
 refine ⟨AX (γ := Unit) h [4, 5, 6, 174, 175, 176, 177, 178, 179, 180, 181, 182] [] (fun j7 g => []) (fun j7 g => m) (.q (.r []) .z) ?_ ?_⟩ <;> clear h
 rintro j7 _ n10 hnn10 _ _ h
 refine AA (.q (.r []) .z) ?_
 obtain ⟨H, h⟩ := h
 cases h
 simp (disch := omega) only [vm, seval, H]
 refine ⟨(hR _ _ _ _ _ _ (by simp (disch := omega) only [vm, seval, H]; rfl) slr ?_ (by omega) ?_).1⟩ <;> first | (simp (disch := omega) only [vm, seval, H]; done) | rfl
 intro k8 Jk8 hk8 h
 simp (disch := omega) only [vm, seval, h.1]
 refine ⟨F7 (σ := Nat) (γ := Unit) (fun k s => DV N a0 k8 k s) (fun s g => [.iter a0 s]) (fun s g => m) [4, 5, 6, 176, 177, 178, 179, 180, 181, 182] [175] 0 () h (fun _ => rfl) (by first | (simp (disch := omega) only [vm, seval, h.1]; done) | rfl) (by first | (simp (disch := omega) only [vm, seval, h.1]; done) | rfl) ?_⟩
 clear h
 rintro k11 s175 _ nL0_1 hnL0_1 _ h Jk11 hk11
 change _ ∧ DV N a0 k8 (k11 + 1) s175 = _ at h
 rw [DV] at h
 refine AA (.q (.r []) (.q (.c .z .z) (.q (.r []) (.q (.r []) (.c (.q (.r []) .z) .z))))) ?_
 replace h := AC h
 rcases h with h | h
 replace h := AC h
 rcases h with h | h
 obtain ⟨H, h⟩ := h
 cases h
 simp (disch := omega) only [vm, seval, H]
 refine ⟨(hR _ _ _ _ _ _ (by simp (disch := omega) only [vm, seval, H]; rfl) slr ?_ (by omega) ?_).1⟩ <;> first | (simp (disch := omega) only [vm, seval, H]; done) | rfl
 simp (disch := omega) only [vm, seval, h.1]
 refine ⟨hk11 (s175 + (Dy a0 s175).2) () _ _ _ _ h.2 slr ?_ ?_ ?_ (by omega)⟩ <;> first | (simp (disch := omega) only [vm, seval, h.1]; done) | rfl
 simp (disch := omega) only [vm, seval, h.1]
 refine ⟨hk8 () () _ _ _ _ h.2 slr ?_ ?_ ?_ (by omega)⟩ <;> first | (simp (disch := omega) only [vm, seval, h.1]; done) | rfl
 replace h := AB h
 obtain ⟨y12, h⟩ := h
 simp (disch := omega) only [vm, seval, h.1]
 refine ⟨JK h.1.1 (by first | (simp (disch := omega) only [vm, seval, h.1]; done) | rfl) fun n13 hn13 => ?_⟩
 replace h := AC h
 rcases h with h | h
 cases h.2
 obtain ⟨H, h⟩ := h
 cases h
 simp (disch := omega) only [vm, seval, H]
 refine ⟨(hR _ _ _ _ _ _ (by simp (disch := omega) only [vm, seval, H]; rfl) slr ?_ (by omega) ?_).1⟩ <;> first | (simp (disch := omega) only [vm, seval, H]; done) | rfl
 intro k2 Jk2 hk2 h
 replace h := AC h
 rcases h with h | h
 simp (disch := omega) only [vm, seval, h.1]
 refine ⟨hk2 (decide (a1 < 128)) () _ _ _ _ h.2 slr ?_ ?_ ?_ (by omega)⟩ <;> first | (simp (disch := omega) only [vm, seval, h.1]; done) | rfl
 simp (disch := omega) only [vm, seval, h.1]
 refine ⟨hk2 false () _ _ _ _ h.2 slr ?_ ?_ ?_ (by omega)⟩ <;> first | (simp (disch := omega) only [vm, seval, h.1]; done) | rfl
theorem Fy {a0 r} (h : Cg N a0 = some r) (ha : args = [.str a0]) (hQ : ∀ n', n ≤ n' → Gl (Q (.tuple [.int .i32 r.1, .int .i64 r.2]) ⟨m, n'⟩)) : ACall vE 88 args ⟨m, n⟩ Q := by
 rw [Cg] at h
 subst ha
 refine ent hQ Tryd.func88 rfl Tryd.ntmps88 Tryd.results88 (.q (.r []) (.q (.r []) (.q (.q (.r []) (.c (.q (.r []) .z) .z)) (.q (.r []) (.q (.r []) (.q (.q (.r []) (.c (.q (.r []) .z) .z)) (.q (.r []) .z))))))) fun R hR => ?_
 replace h := And.intro trivial h
 replace h := AC h
 rcases h with h | h
 obtain ⟨H, h⟩ := h
 cases h
 simp (disch := omega) only [vm, seval, H]
 refine ⟨(hR _ _ _ _ _ _ (by simp (disch := omega) only [vm, seval, H]; rfl) slr ?_ (by omega) ?_).1⟩ <;> first | (simp (disch := omega) only [vm, seval, H]; done) | rfl
 replace h := AB h
 obtain ⟨x1, h⟩ := h
 replace h := AC h
 rcases h with h | h
 obtain ⟨H, h⟩ := h
 cases h
 simp (disch := omega) only [vm, seval, H]
 refine ⟨(hR _ _ _ _ _ _ (by simp (disch := omega) only [vm, seval, H]; rfl) slr ?_ (by omega) ?_).1⟩ <;> first | (simp (disch := omega) only [vm, seval, H]; done) | rfl
 simp (disch := omega) only [vm, seval, h.1]
 refine ⟨AX (γ := Unit) h [23, 24, 25, 26, 27, 28, 29, 30, 31, 32, 33] [5] (fun j2 g => [.int .i64 j2]) (fun j2 g => m) (.q (.r []) .z) ?_ ?_⟩ <;> clear h
 rintro j2 _ n5 hnn5 _ _ h
 refine AA .z ?_
 simp (disch := omega) only [vm, seval, h.1]
 refine ⟨AX (γ := Unit) h [34, 35] [5] (fun j10 g => [.int .i64 j10]) (fun j10 g => m) (.q (.r []) (.c (.r []) .z)) ?_ ?_⟩ <;> clear h
 rintro j10 _ n13 hnn13 _ _ h
 refine AA (.q (.r []) (.q (.q (.r []) (.c (.q (.r []) .z) .z)) (.q (.r []) .z))) ?_
 replace h := AB h
 obtain ⟨x14, h⟩ := h
 replace h := AB h
 obtain ⟨y15, h⟩ := h
 simp (disch := omega) only [vm, seval, h.1]
 refine ⟨EE h.1.1 (by first | (simp (disch := omega) only [vm, seval, h.1]; done) | rfl) fun n16 hn16 => ?_⟩
 replace h := AC h
 rcases h with h | h
 obtain ⟨H, h⟩ := h
 cases h
 simp (disch := omega) only [vm, seval, H]
 refine ⟨(hR _ _ _ _ _ _ (by simp (disch := omega) only [vm, seval, H]; rfl) slr ?_ (by omega) ?_).1⟩ <;> first | (simp (disch := omega) only [vm, seval, H]; done) | rfl
 obtain ⟨H, h⟩ := h
 cases h
 simp (disch := omega) only [vm, seval, H]
 refine ⟨(hR _ _ _ _ _ _ (by simp (disch := omega) only [vm, seval, H]; rfl) slr ?_ (by omega) ?_).1⟩ <;> first | (simp (disch := omega) only [vm, seval, H]; done) | rfl
 intro k11 Jk11 hk11 h
 replace h := AC h
 rcases h with h | h
 simp (disch := omega) only [vm, seval, h.1]
 refine ⟨hk11 0 () _ _ _ _ h.2 slr ?_ ?_ ?_ (by omega)⟩ <;> first | (simp (disch := omega) only [vm, seval, h.1]; done) | rfl
 simp (disch := omega) only [vm, seval, h.1]
 refine ⟨hk11 j2 () _ _ _ _ h.2 slr ?_ ?_ ?_ (by omega)⟩ <;> first | (simp (disch := omega) only [vm, seval, h.1]; done) | rfl
 intro k3 Jk3 hk3 h
 simp (disch := omega) only [vm, seval, h.1]
 refine ⟨F7 (σ := Int) (γ := Unit) (fun k s => BC N a0 k3 k s) (fun s g => [.int .i64 s]) (fun s g => m) [25, 26, 27, 28, 29, 30, 31, 32, 33] [5] (wr .i64 ((wr .i64 ((a0.length : Int) - 1)) - 1)) () h (fun _ => rfl) (by first | (simp (disch := omega) only [vm, seval, h.1]; done) | rfl) (by first | (simp (disch := omega) only [vm, seval, h.1]; done) | rfl) ?_⟩
 clear h
 rintro k6 s5 _ nL0_1 hnL0_1 _ h Jk6 hk6
 change _ ∧ BC N a0 k3 (k6 + 1) s5 = _ at h
 rw [BC] at h
 refine AA (.q (.q (.r []) (.c .z .z)) (.q (.q (.r []) (.c .z .z)) (.r []))) ?_
 replace h := AC h
 rcases h with h | h
 replace h := AB h
 obtain ⟨x7, h⟩ := h
 replace h := AB h
 obtain ⟨y8, h⟩ := h
 simp (disch := omega) only [vm, seval, h.1]
 refine ⟨JI h.1.1 (by first | (simp (disch := omega) only [vm, seval, h.1]; done) | rfl) fun n9 hn9 => ?_⟩
 replace h := AC h
 rcases h with h | h
 simp (disch := omega) only [vm, seval, h.1]
 refine ⟨hk3 s5 () _ _ _ _ h.2 slr ?_ ?_ ?_ (by omega)⟩ <;> first | (simp (disch := omega) only [vm, seval, h.1]; done) | rfl
 simp (disch := omega) only [vm, seval, h.1]
 refine ⟨hk6 (wr .i64 (s5 - 1)) () _ _ _ _ h.2 slr ?_ ?_ ?_ (by omega)⟩ <;> first | (simp (disch := omega) only [vm, seval, h.1]; done) | rfl
 simp (disch := omega) only [vm, seval, h.1]
 refine ⟨hk3 s5 () _ _ _ _ h.2 slr ?_ ?_ ?_ (by omega)⟩ <;> first | (simp (disch := omega) only [vm, seval, h.1]; done) | rfl
theorem Hy {a0 a1 a2 r} (h : Cs N a0 a1 a2 = some r) (ha : args = [.str a0, .int .u64 a1, .int .u64 a2, .fn (.func 31) [] []]) (hQ : ∀ n', n ≤ n' → Gl (Q (.tuple [.int .u64 r.1, .int .i64 r.2]) ⟨m, n'⟩)) : ACall vE 89 args ⟨m, n⟩ Q := by
 rw [Cs] at h
 subst ha
 refine ent hQ Tryd.func89 rfl Tryd.ntmps89 Tryd.results89 (.q (.r []) (.q (.q (.r []) (.c (.q (.r []) .z) .z)) .z)) fun R hR => ?_
 replace h := And.intro trivial h
 replace h := AC h
 rcases h with h | h
 obtain ⟨H, h⟩ := h
 cases h
 simp (disch := omega) only [vm, seval, H]
 refine ⟨(hR _ _ _ _ _ _ (by simp (disch := omega) only [vm, seval, H]; rfl) slr ?_ (by omega) ?_).1⟩ <;> first | (simp (disch := omega) only [vm, seval, H]; done) | rfl
 simp (disch := omega) only [vm, seval, h.1]
 refine ⟨AX (γ := Unit) h [8, 9, 10, 16, 17, 18, 19, 20, 21, 22, 23, 24, 25, 26, 27] [] (fun j1 g => []) (fun j1 g => m) (.q (.r []) .z) ?_ ?_⟩ <;> clear h
 rintro j1 _ n4 hnn4 _ _ h
 refine AA (.q (.r []) .z) ?_
 simp (disch := omega) only [vm, seval, h.1]
 refine ⟨AX (γ := Unit) h [8, 9, 12, 13, 28, 29, 30, 31, 32, 33, 34, 35, 36, 37, 38, 39, 40, 41, 42, 43, 44, 45, 46, 47, 48, 49, 50, 51, 52, 53, 54, 55, 56, 57] [11] (fun j8 g => [.int .u64 j8]) (fun j8 g => m) (.q (.r []) .z) ?_ ?_⟩ <;> clear h
 rintro j8 _ n11 hnn11 _ _ h
 refine AA (.q (.r []) .z) ?_
 obtain ⟨H, h⟩ := h
 cases h
 simp (disch := omega) only [vm, seval, H]
 refine ⟨(hR _ _ _ _ _ _ (by simp (disch := omega) only [vm, seval, H]; rfl) slr ?_ (by omega) ?_).1⟩ <;> first | (simp (disch := omega) only [vm, seval, H]; done) | rfl
 intro k9 Jk9 hk9 h
 replace h := Ad h
 obtain ⟨hfk12, h⟩ := h
 simp (disch := omega) only [vm, seval, h.1]
 refine ⟨EF (σ := Int) (γ := Unit) a0 hfk12 (fun xs i s => Ag N a1 a2 k9 xs s) (fun i s g => [.int .u64 s, .int .i64 i]) (fun i s g => m) [8, 9, 12, 13, 31, 32, 33, 34, 35, 36, 37, 38, 39, 40, 41, 42, 43, 44, 45, 46, 47, 48, 49, 50, 51, 52, 53, 54, 55, 56, 57] [11, 30] 0 () h (by first | (simp (disch := omega) only [vm, seval, h.1]; done) | rfl) (by first | (simp (disch := omega) only [vm, seval, h.1]; done) | rfl) ?_ ?_⟩ <;> clear h
 rintro s30 s11 _ nL1_1 hnL1_1 _ h
 change _ ∧ Ag N a1 a2 k9 [] s11 = _ at h
 rw [Ag] at h
 refine AA (.q (.r []) (.q (.c .z .z) (.q (.q (.r []) (.q (.r []) (.q .z (.r [])))) (.r [])))) ?_
 simp (disch := omega) only [vm, seval, h.1]
 refine ⟨hk9 s11 () _ _ _ _ h.2 slr ?_ ?_ ?_ (by omega)⟩ <;> first | (simp (disch := omega) only [vm, seval, h.1]; done) | rfl
 rintro xk12 xsk12 s30 s11 _ nL1_1 hnL1_1 _ h Jk12 hk12
 change _ ∧ Ag N a1 a2 k9 (xk12 :: xsk12) s11 = _ at h
 rw [Ag] at h
 refine AA (.q (.r []) (.q (.c .z .z) (.q (.q (.r []) (.q (.r []) (.q .z (.r [])))) (.r [])))) ?_
 replace h := AB h
 obtain ⟨y13, h⟩ := h
 simp (disch := omega) only [vm, seval, h.1]
 refine ⟨KS h.1.1 (by first | (simp (disch := omega) only [vm, seval, h.1]; done) | rfl) fun n14 hn14 => ?_⟩
 simp (disch := omega) only [vm, seval, h.1]
 refine ⟨AX (γ := Unit) h [37, 38, 39, 40, 41, 42, 43, 44, 45, 46, 47, 48, 49, 50] [51] (fun j15 g => [.bool j15]) (fun j15 g => m) (.r []) ?_ ?_⟩ <;> clear h
 rintro j15 _ n18 hnn18 _ _ h
 refine AA (.c (.q (.r []) .z) .z) ?_
 replace h := AC h
 rcases h with h | h
 obtain ⟨H, h⟩ := h
 cases h
 simp (disch := omega) only [vm, seval, H]
 refine ⟨(hR _ _ _ _ _ _ (by simp (disch := omega) only [vm, seval, H]; rfl) slr ?_ (by omega) ?_).1⟩ <;> first | (simp (disch := omega) only [vm, seval, H]; done) | rfl
 simp (disch := omega) only [vm, seval, h.1]
 refine ⟨hk12 (wr .u64 ((wr .u64 (s11 * a1)) + y13)) () _ _ _ _ h.2 slr ?_ ?_ ?_ (by omega)⟩ <;> first | (simp (disch := omega) only [vm, seval, h.1]; done) | rfl
 intro k16 Jk16 hk16 h
 replace h := Ad h
 obtain ⟨c, h⟩ := h
 try simp only [liE, seval] at c
 replace h := Ab c h
 replace h := AC h
 rcases h with h | h
 simp (disch := omega) only [vm, seval, h.1]
 refine ⟨hk16 true () _ _ _ _ h.2 slr ?_ ?_ ?_ (by omega)⟩ <;> first | (simp (disch := omega) only [vm, seval, h.1]; done) | rfl
 simp (disch := omega) only [vm, seval, h.1]
 refine ⟨hk16 (decide ((wr .u64 ((wr .u64 (s11 * a1)) + y13)) > a2)) () _ _ _ _ h.2 slr ?_ ?_ ?_ (by omega)⟩ <;> first | (simp (disch := omega) only [vm, seval, h.1]; done) | rfl
 intro k2 Jk2 hk2 h
 replace h := Ad h
 obtain ⟨hfk5, h⟩ := h
 simp (disch := omega) only [vm, seval, h.1]
 refine ⟨EF (σ := Unit) (γ := Unit) a0 hfk5 (fun xs i s => Af N k2 xs) (fun i s g => [.int .i64 i]) (fun i s g => m) [8, 9, 10, 19, 20, 21, 22, 23, 24, 25, 26, 27] [18] () () h (by first | (simp (disch := omega) only [vm, seval, h.1]; done) | rfl) (by first | (simp (disch := omega) only [vm, seval, h.1]; done) | rfl) ?_ ?_⟩ <;> clear h
 rintro s18 _ _ nL0_1 hnL0_1 _ h
 change _ ∧ Af N k2 [] = _ at h
 rw [Af] at h
 refine AA (.q (.r []) (.q (.c .z .z) (.q (.q (.r []) (.q (.r []) (.c (.q (.r []) .z) .z))) (.r [])))) ?_
 simp (disch := omega) only [vm, seval, h.1]
 refine ⟨hk2 () () _ _ _ _ h.2 slr ?_ ?_ ?_ (by omega)⟩ <;> first | (simp (disch := omega) only [vm, seval, h.1]; done) | rfl
 rintro xk5 xsk5 s18 _ _ nL0_1 hnL0_1 _ h Jk5 hk5
 change _ ∧ Af N k2 (xk5 :: xsk5) = _ at h
 rw [Af] at h
 refine AA (.q (.r []) (.q (.c .z .z) (.q (.q (.r []) (.q (.r []) (.c (.q (.r []) .z) .z))) (.r [])))) ?_
 replace h := AB h
 obtain ⟨y6, h⟩ := h
 simp (disch := omega) only [vm, seval, h.1]
 refine ⟨Ey h.1.1 (by first | (simp (disch := omega) only [vm, seval, h.1]; done) | rfl) fun n7 hn7 => ?_⟩
 replace h := AC h
 rcases h with h | h
 simp (disch := omega) only [vm, seval, h.1]
 refine ⟨hk5 () () _ _ _ _ h.2 slr ?_ ?_ ?_ (by omega)⟩ <;> first | (simp (disch := omega) only [vm, seval, h.1]; done) | rfl
 obtain ⟨H, h⟩ := h
 cases h
 simp (disch := omega) only [vm, seval, H]
 refine ⟨(hR _ _ _ _ _ _ (by simp (disch := omega) only [vm, seval, H]; rfl) slr ?_ (by omega) ?_).1⟩ <;> first | (simp (disch := omega) only [vm, seval, H]; done) | rfl
theorem Oz {a0 r} (h : F6 N a0 = some r) (ha : args = [.str a0]) (hQ : ∀ n', n ≤ n' → Gl (Q (.int .i64 r) ⟨m, n'⟩)) : ACall vE 75 args ⟨m, n⟩ Q := by
 rw [F6] at h
 subst ha
 refine ent hQ Tryd.func75 rfl Tryd.ntmps75 Tryd.results75 (.q (.r []) (.q (.r []) .z)) fun R hR => ?_
 replace h := And.intro trivial h
 simp (disch := omega) only [vm, seval, h.1]
 refine ⟨AX (γ := Unit) h [7, 8, 9, 10, 11, 12, 13, 14, 15, 16, 17, 18] [3] (fun j1 g => [.int .i64 j1]) (fun j1 g => m) .z ?_ ?_⟩ <;> clear h
 rintro j1 _ n4 hnn4 _ _ h
 refine AA (.q .z .z) ?_
 simp (disch := omega) only [vm, seval, h.1]
 refine ⟨AX (γ := Unit) h [19, 20, 21, 22, 23, 24, 25, 26, 27, 28] [29] (fun j10 g => [.bool j10]) (fun j10 g => m) (.r []) ?_ ?_⟩ <;> clear h
 rintro j10 _ n13 hnn13 _ _ h
 refine AA (.c (.q (.r []) .z) .z) ?_
 replace h := AC h
 rcases h with h | h
 obtain ⟨H, h⟩ := h
 cases h
 simp (disch := omega) only [vm, seval, H]
 refine ⟨(hR _ _ _ _ _ _ (by simp (disch := omega) only [vm, seval, H]; rfl) slr ?_ (by omega) ?_).1⟩ <;> first | (simp (disch := omega) only [vm, seval, H]; done) | rfl
 simp (disch := omega) only [vm, seval, h.1]
 refine ⟨AX (γ := Unit) h [30, 31, 32, 33, 34, 35, 36, 37, 38, 39, 40, 41] [3] (fun j17 g => [.int .i64 j17]) (fun j17 g => m) (.q (.r []) (.c (.r []) (.r []))) ?_ ?_⟩ <;> clear h
 rintro j17 _ n20 hnn20 _ _ h
 refine AA .z ?_
 simp (disch := omega) only [vm, seval, h.1]
 refine ⟨AX (γ := Unit) h [4, 42, 43, 44, 45, 46, 47, 48, 49, 50, 51, 52, 53, 54, 55, 56, 57, 58, 59, 60, 61, 62, 63, 64] [3] (fun j25 g => [.int .i64 j25]) (fun j25 g => m) (.q (.r []) .z) ?_ ?_⟩ <;> clear h
 rintro j25 _ n28 hnn28 _ _ h
 refine AA .z ?_
 simp (disch := omega) only [vm, seval, h.1]
 refine ⟨AX (γ := Unit) h [5, 6, 65, 66, 67, 68, 69, 70, 71, 72, 73, 74, 75, 76, 77, 78, 79, 80, 81, 82, 83, 84, 85, 86, 87, 88, 89, 90, 91, 92, 93, 94, 95, 96, 97] [3] (fun j38 g => [.int .i64 j38]) (fun j38 g => m) .z ?_ ?_⟩ <;> clear h
 rintro j38 _ n41 hnn41 _ _ h
 refine AA (.q (.r []) .z) ?_
 obtain ⟨H, h⟩ := h
 cases h
 simp (disch := omega) only [vm, seval, H]
 refine ⟨(hR _ _ _ _ _ _ (by simp (disch := omega) only [vm, seval, H]; rfl) slr ?_ (by omega) ?_).1⟩ <;> first | (simp (disch := omega) only [vm, seval, H]; done) | rfl
 intro k39 Jk39 hk39 h
 simp (disch := omega) only [vm, seval, h.1]
 refine ⟨AX (γ := Unit) h [65, 66, 67, 68, 69, 70, 71, 72, 73] [74] (fun j42 g => [.bool j42]) (fun j42 g => m) (.r []) ?_ ?_⟩ <;> clear h
 rintro j42 _ n45 hnn45 _ _ h
 refine AA (.c (.q (.r []) .z) .z) ?_
 replace h := AC h
 rcases h with h | h
 simp (disch := omega) only [vm, seval, h.1]
 refine ⟨AX (γ := Unit) h [77, 78, 79, 80, 81, 82, 83, 84, 85, 86, 87, 88] [5] (fun j49 g => [.int .i64 j49]) (fun j49 g => m) .z ?_ ?_⟩ <;> clear h
 rintro j49 _ n52 hnn52 _ _ h
 refine AA (.q (.r []) (.q (.r []) (.c (.r []) .z))) ?_
 replace h := AB h
 obtain ⟨y60, h⟩ := h
 simp (disch := omega) only [vm, seval, h.1]
 refine ⟨Jf h.1.1 (by first | (simp (disch := omega) only [vm, seval, h.1]; done) | rfl) fun n61 hn61 => ?_⟩
 replace h := AB h
 obtain ⟨y62, h⟩ := h
 simp (disch := omega) only [vm, seval, h.1]
 refine ⟨KL h.1.1 (by first | (simp (disch := omega) only [vm, seval, h.1]; done) | rfl) fun n63 hn63 => ?_⟩
 replace h := AC h
 rcases h with h | h
 simp (disch := omega) only [vm, seval, h.1]
 refine ⟨hk39 (wr .i64 (j49 + y62)) () _ _ _ _ h.2 slr ?_ ?_ ?_ (by omega)⟩ <;> first | (simp (disch := omega) only [vm, seval, h.1]; done) | rfl
 simp (disch := omega) only [vm, seval, h.1]
 refine ⟨hk39 j25 () _ _ _ _ h.2 slr ?_ ?_ ?_ (by omega)⟩ <;> first | (simp (disch := omega) only [vm, seval, h.1]; done) | rfl
 intro k50 Jk50 hk50 h
 simp (disch := omega) only [vm, seval, h.1]
 refine ⟨AX (γ := Unit) h [77, 78, 79, 80, 81, 82, 83, 84, 85] [86] (fun j53 g => [.bool j53]) (fun j53 g => m) (.r []) ?_ ?_⟩ <;> clear h
 rintro j53 _ n56 hnn56 _ _ h
 refine AA (.c (.r []) .z) ?_
 replace h := AC h
 rcases h with h | h
 simp (disch := omega) only [vm, seval, h.1]
 refine ⟨hk50 (wr .i64 ((wr .i64 (j25 + 1)) + 1)) () _ _ _ _ h.2 slr ?_ ?_ ?_ (by omega)⟩ <;> first | (simp (disch := omega) only [vm, seval, h.1]; done) | rfl
 simp (disch := omega) only [vm, seval, h.1]
 refine ⟨hk50 (wr .i64 (j25 + 1)) () _ _ _ _ h.2 slr ?_ ?_ ?_ (by omega)⟩ <;> first | (simp (disch := omega) only [vm, seval, h.1]; done) | rfl
 intro k54 Jk54 hk54 h
 replace h := AC h
 rcases h with h | h
 replace h := AB h
 obtain ⟨x57, h⟩ := h
 replace h := AB h
 obtain ⟨y58, h⟩ := h
 simp (disch := omega) only [vm, seval, h.1]
 refine ⟨Ju h.1.1 (by first | (simp (disch := omega) only [vm, seval, h.1]; done) | rfl) fun n59 hn59 => ?_⟩
 simp (disch := omega) only [vm, seval, h.1]
 refine ⟨hk54 y58 () _ _ _ _ h.2 slr ?_ ?_ ?_ (by omega)⟩ <;> first | (simp (disch := omega) only [vm, seval, h.1]; done) | rfl
 simp (disch := omega) only [vm, seval, h.1]
 refine ⟨hk54 false () _ _ _ _ h.2 slr ?_ ?_ ?_ (by omega)⟩ <;> first | (simp (disch := omega) only [vm, seval, h.1]; done) | rfl
 simp (disch := omega) only [vm, seval, h.1]
 refine ⟨hk39 j25 () _ _ _ _ h.2 slr ?_ ?_ ?_ (by omega)⟩ <;> first | (simp (disch := omega) only [vm, seval, h.1]; done) | rfl
 intro k43 Jk43 hk43 h
 replace h := AC h
 rcases h with h | h
 replace h := AB h
 obtain ⟨x46, h⟩ := h
 replace h := AB h
 obtain ⟨y47, h⟩ := h
 simp (disch := omega) only [vm, seval, h.1]
 refine ⟨Ju h.1.1 (by first | (simp (disch := omega) only [vm, seval, h.1]; done) | rfl) fun n48 hn48 => ?_⟩
 simp (disch := omega) only [vm, seval, h.1]
 refine ⟨hk43 y47 () _ _ _ _ h.2 slr ?_ ?_ ?_ (by omega)⟩ <;> first | (simp (disch := omega) only [vm, seval, h.1]; done) | rfl
 simp (disch := omega) only [vm, seval, h.1]
 refine ⟨hk43 false () _ _ _ _ h.2 slr ?_ ?_ ?_ (by omega)⟩ <;> first | (simp (disch := omega) only [vm, seval, h.1]; done) | rfl
 intro k26 Jk26 hk26 h
 replace h := AB h
 obtain ⟨y29, h⟩ := h
 simp (disch := omega) only [vm, seval, h.1]
 refine ⟨Jf h.1.1 (by first | (simp (disch := omega) only [vm, seval, h.1]; done) | rfl) fun n30 hn30 => ?_⟩
 replace h := AB h
 obtain ⟨y31, h⟩ := h
 simp (disch := omega) only [vm, seval, h.1]
 refine ⟨KL h.1.1 (by first | (simp (disch := omega) only [vm, seval, h.1]; done) | rfl) fun n32 hn32 => ?_⟩
 simp (disch := omega) only [vm, seval, h.1]
 refine ⟨AX (γ := Unit) h [47, 48, 49, 50, 51, 52, 53, 54, 55, 56, 57, 58, 59] [60] (fun j33 g => [.bool j33]) (fun j33 g => m) (.r []) ?_ ?_⟩ <;> clear h
 rintro j33 _ n36 hnn36 _ _ h
 refine AA (.c (.r []) .z) ?_
 replace h := AC h
 rcases h with h | h
 simp (disch := omega) only [vm, seval, h.1]
 refine ⟨hk26 (wr .i64 (j17 + (wr .i64 (1 + y31)))) () _ _ _ _ h.2 slr ?_ ?_ ?_ (by omega)⟩ <;> first | (simp (disch := omega) only [vm, seval, h.1]; done) | rfl
 simp (disch := omega) only [vm, seval, h.1]
 refine ⟨hk26 j17 () _ _ _ _ h.2 slr ?_ ?_ ?_ (by omega)⟩ <;> first | (simp (disch := omega) only [vm, seval, h.1]; done) | rfl
 intro k34 Jk34 hk34 h
 replace h := AC h
 rcases h with h | h
 replace h := AB h
 obtain ⟨x37, h⟩ := h
 replace h := AC h
 rcases h with h | h
 simp (disch := omega) only [vm, seval, h.1]
 refine ⟨hk34 (decide (y31 > 0)) () _ _ _ _ h.2 slr ?_ ?_ ?_ (by omega)⟩ <;> first | (simp (disch := omega) only [vm, seval, h.1]; done) | rfl
 simp (disch := omega) only [vm, seval, h.1]
 refine ⟨hk34 false () _ _ _ _ h.2 slr ?_ ?_ ?_ (by omega)⟩ <;> first | (simp (disch := omega) only [vm, seval, h.1]; done) | rfl
 simp (disch := omega) only [vm, seval, h.1]
 refine ⟨hk34 false () _ _ _ _ h.2 slr ?_ ?_ ?_ (by omega)⟩ <;> first | (simp (disch := omega) only [vm, seval, h.1]; done) | rfl
 intro k18 Jk18 hk18 h
 replace h := AB h
 obtain ⟨x21, h⟩ := h
 replace h := AC h
 rcases h with h | h
 simp (disch := omega) only [vm, seval, h.1]
 refine ⟨hk18 (wr .i64 (j1 + 1)) () _ _ _ _ h.2 slr ?_ ?_ ?_ (by omega)⟩ <;> first | (simp (disch := omega) only [vm, seval, h.1]; done) | rfl
 replace h := AB h
 obtain ⟨x22, h⟩ := h
 replace h := AB h
 obtain ⟨y23, h⟩ := h
 simp (disch := omega) only [vm, seval, h.1]
 refine ⟨KL h.1.1 (by first | (simp (disch := omega) only [vm, seval, h.1]; done) | rfl) fun n24 hn24 => ?_⟩
 simp (disch := omega) only [vm, seval, h.1]
 refine ⟨hk18 (wr .i64 (j1 + y23)) () _ _ _ _ h.2 slr ?_ ?_ ?_ (by omega)⟩ <;> first | (simp (disch := omega) only [vm, seval, h.1]; done) | rfl
 intro k11 Jk11 hk11 h
 replace h := AC h
 rcases h with h | h
 simp (disch := omega) only [vm, seval, h.1]
 refine ⟨hk11 true () _ _ _ _ h.2 slr ?_ ?_ ?_ (by omega)⟩ <;> first | (simp (disch := omega) only [vm, seval, h.1]; done) | rfl
 replace h := AB h
 obtain ⟨x14, h⟩ := h
 replace h := AB h
 obtain ⟨y15, h⟩ := h
 simp (disch := omega) only [vm, seval, h.1]
 refine ⟨J5 h.1.1 (by first | (simp (disch := omega) only [vm, seval, h.1]; done) | rfl) fun n16 hn16 => ?_⟩
 simp (disch := omega) only [vm, seval, h.1]
 refine ⟨hk11 (!y15) () _ _ _ _ h.2 slr ?_ ?_ ?_ (by omega)⟩ <;> first | (simp (disch := omega) only [vm, seval, h.1]; done) | rfl
 intro k2 Jk2 hk2 h
 simp (disch := omega) only [vm, seval, h.1]
 refine ⟨AX (γ := Unit) h [7, 8, 9, 10, 11, 12, 13, 14, 15] [16] (fun j5 g => [.bool j5]) (fun j5 g => m) (.r []) ?_ ?_⟩ <;> clear h
 rintro j5 _ n8 hnn8 _ _ h
 refine AA (.c (.r []) .z) ?_
 replace h := AC h
 rcases h with h | h
 simp (disch := omega) only [vm, seval, h.1]
 refine ⟨hk2 (wr .i64 (0 + 1)) () _ _ _ _ h.2 slr ?_ ?_ ?_ (by omega)⟩ <;> first | (simp (disch := omega) only [vm, seval, h.1]; done) | rfl
 simp (disch := omega) only [vm, seval, h.1]
 refine ⟨hk2 0 () _ _ _ _ h.2 slr ?_ ?_ ?_ (by omega)⟩ <;> first | (simp (disch := omega) only [vm, seval, h.1]; done) | rfl
 intro k6 Jk6 hk6 h
 replace h := AC h
 rcases h with h | h
 replace h := AB h
 obtain ⟨x9, h⟩ := h
 simp (disch := omega) only [vm, seval, h.1]
 refine ⟨hk6 ((AP x9) == 45) () _ _ _ _ h.2 slr ?_ ?_ ?_ (by omega)⟩ <;> first | (simp (disch := omega) only [vm, seval, h.1]; done) | rfl
 simp (disch := omega) only [vm, seval, h.1]
 refine ⟨hk6 false () _ _ _ _ h.2 slr ?_ ?_ ?_ (by omega)⟩ <;> first | (simp (disch := omega) only [vm, seval, h.1]; done) | rfl
theorem QS {a0 a1 r} (h : Gw N a0 a1 = some r) (ha : args = [.str a0, .int .i64 a1]) (hQ : ∀ n', n ≤ n' → Gl (Q (.tuple [.int .i64 r.1, .int .i64 r.2.1, .int .i64 r.2.2]) ⟨m, n'⟩)) : ACall vE 94 args ⟨m, n⟩ Q := by
 rw [Gw] at h
 subst ha
 refine ent hQ Tryd.func94 rfl Tryd.ntmps94 Tryd.results94 (.q (.r []) (.q .z .z)) fun R hR => ?_
 replace h := And.intro trivial h
 simp (disch := omega) only [vm, seval, h.1]
 refine ⟨AX (γ := Unit) h [11, 12, 13, 14, 15, 16, 17] [18] (fun j1 g => [.bool j1]) (fun j1 g => m) (.r []) ?_ ?_⟩ <;> clear h
 rintro j1 _ n4 hnn4 _ _ h
 refine AA (.c (.q (.r []) .z) .z) ?_
 replace h := AC h
 rcases h with h | h
 obtain ⟨H, h⟩ := h
 cases h
 simp (disch := omega) only [vm, seval, H]
 refine ⟨(hR _ _ _ _ _ _ (by simp (disch := omega) only [vm, seval, H]; rfl) slr ?_ (by omega) ?_).1⟩ <;> first | (simp (disch := omega) only [vm, seval, H]; done) | rfl
 simp (disch := omega) only [vm, seval, h.1]
 refine ⟨AX (γ := Unit) h [4, 5, 6, 7, 8, 9, 10, 19, 20, 21, 22, 23, 24, 25, 26, 27, 28, 29, 30, 31, 32, 33, 34, 35, 36, 37, 38, 39, 40, 41, 42, 43, 44, 45, 46, 47, 48, 49, 50, 51, 52, 53, 54, 55, 56, 57, 58] [] (fun j5 g => []) (fun j5 g => m) (.q (.r []) .z) ?_ ?_⟩ <;> clear h
 rintro j5 _ n8 hnn8 _ _ h
 refine AA (.q (.r []) .z) ?_
 obtain ⟨H, h⟩ := h
 cases h
 simp (disch := omega) only [vm, seval, H]
 refine ⟨(hR _ _ _ _ _ _ (by simp (disch := omega) only [vm, seval, H]; rfl) slr ?_ (by omega) ?_).1⟩ <;> first | (simp (disch := omega) only [vm, seval, H]; done) | rfl
 intro k6 Jk6 hk6 h
 simp (disch := omega) only [vm, seval, h.1]
 refine ⟨F7 (σ := Int) (γ := Unit) (fun k s => CQ N a0 a1 k6 k s) (fun s g => [.int .i64 s]) (fun s g => m) [4, 5, 6, 8, 9, 10, 19, 20, 21, 22, 23, 24, 25, 26, 27, 28, 29, 30, 31, 32, 33, 34, 35, 36, 37, 38, 39, 40, 41, 42, 43, 44, 45, 46, 47, 48, 49, 50, 51, 52, 53, 54, 55, 56, 57, 58] [7] 1 () h (fun _ => rfl) (by first | (simp (disch := omega) only [vm, seval, h.1]; done) | rfl) (by first | (simp (disch := omega) only [vm, seval, h.1]; done) | rfl) ?_⟩
 clear h
 rintro k9 s7 _ nL0_1 hnL0_1 _ h Jk9 hk9
 change _ ∧ CQ N a0 a1 k6 (k9 + 1) s7 = _ at h
 rw [CQ] at h
 refine AA (.q .z (.q (.q (.r []) (.q (.r []) .z)) (.r []))) ?_
 simp (disch := omega) only [vm, seval, h.1]
 refine ⟨AX (γ := Unit) h [19, 20, 21, 22, 23, 24, 25, 26, 27] [28] (fun j10 g => [.bool j10]) (fun j10 g => m) (.r []) ?_ ?_⟩ <;> clear h
 rintro j10 _ n13 hnn13 _ _ h
 refine AA (.c .z .z) ?_
 replace h := AC h
 rcases h with h | h
 replace h := AB h
 obtain ⟨x14, h⟩ := h
 replace h := AB h
 obtain ⟨y15, h⟩ := h
 simp (disch := omega) only [vm, seval, h.1]
 refine ⟨RA h.1.1 (by first | (simp (disch := omega) only [vm, seval, h.1]; done) | rfl) fun n16 hn16 => ?_⟩
 replace h := AB h
 obtain ⟨y17, h⟩ := h
 simp (disch := omega) only [vm, seval, h.1]
 refine ⟨P9 h.1.1 (by first | (simp (disch := omega) only [vm, seval, h.1]; done) | rfl) fun n18 hn18 => ?_⟩
 simp (disch := omega) only [vm, seval, h.1]
 refine ⟨AX (γ := Unit) h [43, 44, 45, 46, 47, 48, 49, 50, 51, 52, 53] [54] (fun j19 g => [.bool j19]) (fun j19 g => m) (.r []) ?_ ?_⟩ <;> clear h
 rintro j19 _ n22 hnn22 _ _ h
 refine AA (.c (.q (.r []) .z) .z) ?_
 replace h := AC h
 rcases h with h | h
 obtain ⟨H, h⟩ := h
 cases h
 simp (disch := omega) only [vm, seval, H]
 refine ⟨(hR _ _ _ _ _ _ (by simp (disch := omega) only [vm, seval, H]; rfl) slr ?_ (by omega) ?_).1⟩ <;> first | (simp (disch := omega) only [vm, seval, H]; done) | rfl
 simp (disch := omega) only [vm, seval, h.1]
 refine ⟨hk9 (wr .i64 (s7 + 1)) () _ _ _ _ h.2 slr ?_ ?_ ?_ (by omega)⟩ <;> first | (simp (disch := omega) only [vm, seval, h.1]; done) | rfl
 intro k20 Jk20 hk20 h
 replace h := AC h
 rcases h with h | h
 simp (disch := omega) only [vm, seval, h.1]
 refine ⟨hk20 (y17.1 == x14) () _ _ _ _ h.2 slr ?_ ?_ ?_ (by omega)⟩ <;> first | (simp (disch := omega) only [vm, seval, h.1]; done) | rfl
 simp (disch := omega) only [vm, seval, h.1]
 refine ⟨hk20 false () _ _ _ _ h.2 slr ?_ ?_ ?_ (by omega)⟩ <;> first | (simp (disch := omega) only [vm, seval, h.1]; done) | rfl
 simp (disch := omega) only [vm, seval, h.1]
 refine ⟨hk6 () () _ _ _ _ h.2 slr ?_ ?_ ?_ (by omega)⟩ <;> first | (simp (disch := omega) only [vm, seval, h.1]; done) | rfl
 intro k11 Jk11 hk11 h
 replace h := AC h
 rcases h with h | h
 simp (disch := omega) only [vm, seval, h.1]
 refine ⟨hk11 (decide ((wr .i64 (a1 + s7)) ≤ (a0.length : Int))) () _ _ _ _ h.2 slr ?_ ?_ ?_ (by omega)⟩ <;> first | (simp (disch := omega) only [vm, seval, h.1]; done) | rfl
 simp (disch := omega) only [vm, seval, h.1]
 refine ⟨hk11 false () _ _ _ _ h.2 slr ?_ ?_ ?_ (by omega)⟩ <;> first | (simp (disch := omega) only [vm, seval, h.1]; done) | rfl
 intro k2 Jk2 hk2 h
 replace h := AC h
 rcases h with h | h
 simp (disch := omega) only [vm, seval, h.1]
 refine ⟨hk2 true () _ _ _ _ h.2 slr ?_ ?_ ?_ (by omega)⟩ <;> first | (simp (disch := omega) only [vm, seval, h.1]; done) | rfl
 simp (disch := omega) only [vm, seval, h.1]
 refine ⟨hk2 (decide (a1 ≥ (a0.length : Int))) () _ _ _ _ h.2 slr ?_ ?_ ?_ (by omega)⟩ <;> first | (simp (disch := omega) only [vm, seval, h.1]; done) | rfl
end Go.Proofs.YtbmilkoebhmnnaaDoor
