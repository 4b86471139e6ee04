import Derived.Test.YtbmilkoebhmnnaaDoorVmFacts
import Derived.Test.YtbmilkoebhmnnaaDoorDefs
import Derived.Test.YtbmilkoebhmnnaaDoorVM2
import Derived.Test.YtbmilkoebhmnnaaDoorW0
import Derived.Test.YtbmilkoebhmnnaaDoorW2
import Derived.Test.YtbmilkoebhmnnaaDoorW3
import Derived.Test.YtbmilkoebhmnnaaDoorW4
set_option linter.unusedVariables false
set_option linter.unusedSimpArgs false
set_option maxHeartbeats 4000000
set_option maxRecDepth 100000
set_option linter.defProp false
namespace Go.Proofs.YtbmilkoebhmnnaaDoor
open Go.VM
variable {N n : Nat} {m : MS} {Q : PQ} {args : List AVal}
theorem Sr {a0 a1 r} (h : Ik N a0 a1 = some r) (ha : args = [.str a0, .int .u64 a1]) (hQ : ∀ n', n ≤ n' → Gl (Q (.tuple [.int .u64 r.1, .int .i64 r.2]) ⟨m, n'⟩)) : ACall vE 82 args ⟨m, n⟩ Q := by
 rw [Ik] at h
 subst ha
 refine ent hQ Tryd.func82 rfl Tryd.ntmps82 Tryd.results82 (.q (.r []) (.q (.r []) .z)) fun R hR => ?_
 replace h := And.intro trivial h
 replace h := AB h
 obtain ⟨y1, h⟩ := h
 simp (disch := omega) only [vm, seval, h.1]
 refine ⟨IP h.1.1 (by first | (simp (disch := omega) only [vm, seval, h.1]; done) | rfl) fun n2 hn2 => ?_⟩
 obtain ⟨H, h⟩ := h
 cases h
 simp (disch := omega) only [vm, seval, H]
 refine ⟨(hR _ _ _ _ _ _ (by simp (disch := omega) only [vm, seval, H]; rfl) slr ?_ (by omega) ?_).1⟩ <;> first | (simp (disch := omega) only [vm, seval, H]; done) | rfl
theorem Gx {a0 r} {i0 : Nat} (h : BF N a0 = some r) (ha : args = [.ptr i0 0]) (hi0 : Ap m i0 = some ([.str a0.s, .int .i64 a0.at_])) (hQ : ∀ n', n ≤ n' → Gl (Q (.tuple [.str r.1, .bool r.2.1]) ⟨BH m i0 ([.str r.2.2.s, .int .i64 r.2.2.at_]), n'⟩)) : ACall vE 32 args ⟨m, n⟩ Q := by
 rw [BF] at h
 subst ha
 refine ACall.front hi0 fun hin => ent (fun n' k => ⟨_, rfl, (hQ n' k).go⟩) Tryd.func32 rfl Tryd.ntmps32 Tryd.results32 (.q (.r []) (.q (.r []) (.q (.r []) (.q .z .z)))) fun R hR => ?_
 replace h := And.intro trivial h
 replace h := AB h
 obtain ⟨y1, h⟩ := h
 simp (disch := omega) only [vm, seval, h.1]
 refine ⟨Dm h.1.1 (by first | (simp (disch := omega) only [vm, seval, h.1]; done) | rfl) (i0 := i0) (by simp (disch := omega) only [vm, seval, h.1]) fun n2 hn2 => ?_⟩
 simp (disch := omega) only [vm, seval, h.1]
 refine ⟨AX (γ := Unit) h [13, 14, 15, 16, 17, 18, 19] [20] (fun j3 g => [.bool j3.1]) (fun j3 g => (i0, [.str j3.2.s, .int .i64 j3.2.at_]) :: CZ m i0) (.r []) ?_ ?_⟩ <;> clear h
 rintro j3 _ n6 hnn6 _ _ h
 refine AA (.c (.q (.r []) .z) .z) ?_
 replace h := AC h
 rcases h with h | h
 obtain ⟨H, h⟩ := h
 cases h
 simp (disch := omega) only [vm, seval, H]
 refine ⟨(hR _ _ _ _ _ _ (by simp (disch := omega) only [vm, seval, H]; rfl) slr ?_ (by omega) ?_).1⟩ <;> first | (simp (disch := omega) only [vm, seval, H]; done) | rfl
 simp (disch := omega) only [vm, seval, h.1]
 refine ⟨AX (γ := Unit) h [5, 21, 22, 23, 24, 25, 26, 27, 28, 29] [] (fun j11 g => []) (fun j11 g => (i0, [.str j11.s, .int .i64 j11.at_]) :: CZ m i0) (.q (.r []) (.q (.r []) (.c (.r []) .z))) ?_ ?_⟩ <;> clear h
 rintro j11 _ n14 hnn14 _ _ h
 refine AA .z ?_
 simp (disch := omega) only [vm, seval, h.1]
 refine ⟨AX (γ := Unit) h [6, 30, 31, 32, 33, 34, 35, 36, 37, 38, 39, 40] [] (fun j19 g => []) (fun j19 g => (i0, [.str j19.s, .int .i64 j19.at_]) :: CZ m i0) (.q (.r []) (.q (.r []) (.c (.q (.r []) (.r [])) .z))) ?_ ?_⟩ <;> clear h
 rintro j19 _ n22 hnn22 _ _ h
 refine AA (.q .z .z) ?_
 replace h := AB h
 obtain ⟨x29, h⟩ := h
 simp (disch := omega) only [vm, seval, h.1]
 refine ⟨Ar [] (.take 0 (.take 1 (.take 2 (.take 3 (.take 4 (.take 5 (.take 6 (.take 7 (.take 8 (.take 9 (.alt 10 [] (.alt 11 [] (.done) (.stop)) (.stop)))))))))))) Ah (by kernel_rfl) ?_⟩
 obtain ⟨H, h⟩ := h
 cases h
 simp (disch := omega) only [vm, seval, H]
 refine ⟨(hR _ _ _ _ _ _ (by simp (disch := omega) only [vm, seval, H]; rfl) slr ?_ (by omega) ?_).1⟩ <;> first | (simp (disch := omega) only [vm, seval, H]; done) | rfl
 intro k20 Jk20 hk20 h
 replace h := AB h
 obtain ⟨y23, h⟩ := h
 simp (disch := omega) only [vm, seval, h.1]
 refine ⟨Dm h.1.1 (by first | (simp (disch := omega) only [vm, seval, h.1]; done) | rfl) (i0 := i0) (by simp (disch := omega) only [vm, seval, h.1]) fun n24 hn24 => ?_⟩
 replace h := AC h
 rcases h with h | h
 replace h := AB h
 obtain ⟨y25, h⟩ := h
 simp (disch := omega) only [vm, seval, h.1]
 refine ⟨Dm h.1.1 (by first | (simp (disch := omega) only [vm, seval, h.1]; done) | rfl) (i0 := i0) (by simp (disch := omega) only [vm, seval, h.1]) fun n26 hn26 => ?_⟩
 replace h := AB h
 obtain ⟨y27, h⟩ := h
 simp (disch := omega) only [vm, seval, h.1]
 refine ⟨G5 h.1.1 (by first | (simp (disch := omega) only [vm, seval, h.1]; done) | rfl) (i0 := i0) (by simp (disch := omega) only [vm, seval, h.1]) fun n28 hn28 => ?_⟩
 simp (disch := omega) only [vm, seval, h.1]
 refine ⟨hk20 y27 () _ _ _ _ h.2 slr ?_ ?_ ?_ (by omega)⟩ <;> first | (simp (disch := omega) only [vm, seval, h.1]; done) | rfl
 simp (disch := omega) only [vm, seval, h.1]
 refine ⟨hk20 y23.2 () _ _ _ _ h.2 slr ?_ ?_ ?_ (by omega)⟩ <;> first | (simp (disch := omega) only [vm, seval, h.1]; done) | rfl
 intro k12 Jk12 hk12 h
 replace h := AB h
 obtain ⟨y15, h⟩ := h
 simp (disch := omega) only [vm, seval, h.1]
 refine ⟨Dm h.1.1 (by first | (simp (disch := omega) only [vm, seval, h.1]; done) | rfl) (i0 := i0) (by simp (disch := omega) only [vm, seval, h.1]) fun n16 hn16 => ?_⟩
 replace h := AC h
 rcases h with h | h
 replace h := AB h
 obtain ⟨y17, h⟩ := h
 simp (disch := omega) only [vm, seval, h.1]
 refine ⟨G5 h.1.1 (by first | (simp (disch := omega) only [vm, seval, h.1]; done) | rfl) (i0 := i0) (by simp (disch := omega) only [vm, seval, h.1]) fun n18 hn18 => ?_⟩
 simp (disch := omega) only [vm, seval, h.1]
 refine ⟨hk12 y17 () _ _ _ _ h.2 slr ?_ ?_ ?_ (by omega)⟩ <;> first | (simp (disch := omega) only [vm, seval, h.1]; done) | rfl
 simp (disch := omega) only [vm, seval, h.1]
 refine ⟨hk12 y15.2 () _ _ _ _ h.2 slr ?_ ?_ ?_ (by omega)⟩ <;> first | (simp (disch := omega) only [vm, seval, h.1]; done) | rfl
 intro k4 Jk4 hk4 h
 replace h := AB h
 obtain ⟨y7, h⟩ := h
 simp (disch := omega) only [vm, seval, h.1]
 refine ⟨Dm h.1.1 (by first | (simp (disch := omega) only [vm, seval, h.1]; done) | rfl) (i0 := i0) (by simp (disch := omega) only [vm, seval, h.1]) fun n8 hn8 => ?_⟩
 replace h := AC h
 rcases h with h | h
 simp (disch := omega) only [vm, seval, h.1]
 refine ⟨hk4 (false, y7.2) () _ _ _ _ h.2 slr ?_ ?_ ?_ (by omega)⟩ <;> first | (simp (disch := omega) only [vm, seval, h.1]; done) | rfl
 replace h := AB h
 obtain ⟨y9, h⟩ := h
 simp (disch := omega) only [vm, seval, h.1]
 refine ⟨Dw h.1.1 (by first | (simp (disch := omega) only [vm, seval, h.1]; done) | rfl) (i0 := i0) (by simp (disch := omega) only [vm, seval, h.1]) fun n10 hn10 => ?_⟩
 simp (disch := omega) only [vm, seval, h.1]
 refine ⟨hk4 ((y9.1 == []), y9.2) () _ _ _ _ h.2 slr ?_ ?_ ?_ (by omega)⟩ <;> first | (simp (disch := omega) only [vm, seval, h.1]; done) | rfl
theorem LM {a0 a1 r} (h : strings_Cut N a0 a1 = some r) (ha : args = [.str a0, .str a1]) (hQ : ∀ n', n ≤ n' → Gl (Q (.tuple [.str r.1, .str r.2.1, .bool r.2.2]) ⟨m, n'⟩)) : ACall vE 50 args ⟨m, n⟩ Q := by
 rw [strings_Cut] at h
 subst ha
 refine ent hQ Tryd.func50 rfl Tryd.ntmps50 Tryd.results50 (.q (.r []) (.q (.r []) .z)) fun R hR => ?_
 replace h := And.intro trivial h
 replace h := AB h
 obtain ⟨y1, h⟩ := h
 simp (disch := omega) only [vm, seval, h.1]
 refine ⟨Ig h.1.1 (by first | (simp (disch := omega) only [vm, seval, h.1]; done) | rfl) fun n2 hn2 => ?_⟩
 obtain ⟨H, h⟩ := h
 cases h
 simp (disch := omega) only [vm, seval, H]
 refine ⟨(hR _ _ _ _ _ _ (by simp (disch := omega) only [vm, seval, H]; rfl) slr ?_ (by omega) ?_).1⟩ <;> first | (simp (disch := omega) only [vm, seval, H]; done) | rfl
theorem Gf {a0 a1 r} (h : EK N a0 a1 = some r) (ha : args = [.str a0, .int .i32 a1]) (hQ : ∀ n', n ≤ n' → Gl (Q (.bool r) ⟨m, n'⟩)) : ACall vE 87 args ⟨m, n⟩ Q := by
 rw [EK] at h
 subst ha
 refine ent hQ Tryd.func87 rfl Tryd.ntmps87 Tryd.results87 (.q (.r []) (.q (.r []) .z)) fun R hR => ?_
 replace h := And.intro trivial h
 replace h := AB h
 obtain ⟨y1, h⟩ := h
 simp (disch := omega) only [vm, seval, h.1]
 refine ⟨LD h.1.1 (by first | (simp (disch := omega) only [vm, seval, h.1]; done) | rfl) fun n2 hn2 => ?_⟩
 obtain ⟨H, h⟩ := h
 cases h
 simp (disch := omega) only [vm, seval, H]
 refine ⟨(hR _ _ _ _ _ _ (by simp (disch := omega) only [vm, seval, H]; rfl) slr ?_ (by omega) ?_).1⟩ <;> first | (simp (disch := omega) only [vm, seval, H]; done) | rfl
theorem Pf {a0 a1 r} (h : Gj N a0 a1 = some r) (ha : args = [.str a0, .int .u64 a1]) (hQ : ∀ n', n ≤ n' → Gl (Q (.tuple [.int .u64 r.1, .int .i64 r.2]) ⟨m, n'⟩)) : ACall vE 73 args ⟨m, n⟩ Q := by
 rw [Gj] at h
 subst ha
 refine ent hQ Tryd.func73 rfl Tryd.ntmps73 Tryd.results73 (.q (.r []) (.q (.r []) .z)) fun R hR => ?_
 replace h := And.intro trivial h
 replace h := AB h
 obtain ⟨y1, h⟩ := h
 simp (disch := omega) only [vm, seval, h.1]
 refine ⟨Hy h.1.1 (by first | (simp (disch := omega) only [vm, seval, h.1]; done) | rfl) fun n2 hn2 => ?_⟩
 obtain ⟨H, h⟩ := h
 cases h
 simp (disch := omega) only [vm, seval, H]
 refine ⟨(hR _ _ _ _ _ _ (by simp (disch := omega) only [vm, seval, H]; rfl) slr ?_ (by omega) ?_).1⟩ <;> first | (simp (disch := omega) only [vm, seval, H]; done) | rfl
theorem QA {a0 r} (h : Du N a0 = some r) (ha : args = [.str a0]) (hQ : ∀ n', n ≤ n' → Gl (Q (.tuple [.str r.1, .int .i64 r.2]) ⟨m, n'⟩)) : ACall vE 56 args ⟨m, n⟩ Q := by
 rw [Du] at h
 subst ha
 refine ent hQ Tryd.func56 rfl Tryd.ntmps56 Tryd.results56 (.q (.r []) (.q .z (.q (.r []) .z))) fun R hR => ?_
 replace h := And.intro trivial h
 simp (disch := omega) only [vm, seval, h.1]
 refine ⟨AX (γ := Unit) h [9, 10, 11, 12, 13, 14, 15, 16] [17] (fun j1 g => [.bool j1]) (fun j1 g => m) (.r []) ?_ ?_⟩ <;> clear h
 rintro j1 _ n4 hnn4 _ _ h
 refine AA (.c (.q (.r []) .z) .z) ?_
 replace h := AC h
 rcases h with h | h
 obtain ⟨H, h⟩ := h
 cases h
 simp (disch := omega) only [vm, seval, H]
 refine ⟨(hR _ _ _ _ _ _ (by simp (disch := omega) only [vm, seval, H]; rfl) slr ?_ (by omega) ?_).1⟩ <;> first | (simp (disch := omega) only [vm, seval, H]; done) | rfl
 simp (disch := omega) only [vm, seval, h.1]
 refine ⟨AX (γ := Unit) h [18, 19, 20, 21, 22] [0, 4] (fun j7 g => [.str j7.1, .str j7.2]) (fun j7 g => m) (.q (.r []) (.c .z .z)) ?_ ?_⟩ <;> clear h
 rintro j7 _ n10 hnn10 _ _ h
 refine AA (.q (.r []) (.q .z .z)) ?_
 replace h := AB h
 obtain ⟨y13, h⟩ := h
 simp (disch := omega) only [vm, seval, h.1]
 refine ⟨LZ h.1.1 (by first | (simp (disch := omega) only [vm, seval, h.1]; done) | rfl) fun n14 hn14 => ?_⟩
 replace h := AB h
 obtain ⟨y15, h⟩ := h
 have cy15 := h.1.1
 replace h := AB h
 obtain ⟨y17, h⟩ := h
 have cy17 := h.1.1
 replace h := AB h
 obtain ⟨x19, h⟩ := h
 simp (disch := omega) only [vm, seval, h.1]
 refine ⟨Ar [] (.take 0 (.take 1 (.take 2 (.take 5 (.take 6 (.take 7 (.alt 3 [7, 6, 5, 1] (.alt 4 [7, 6, 5, 2, 1, 0] (.alt 8 [7, 6, 5] (.alt 9 [] (.done) (.stop)) (.stop)) (.stop)) (.stop)))))))) Ah (by kernel_rfl) ?_⟩
 simp (disch := omega) only [vm, seval, h.1]
 refine ⟨Jf cy15 (by first | (simp (disch := omega) only [vm, seval, h.1]; done) | rfl) fun n16 hn16 => ?_⟩
 simp (disch := omega) only [vm, seval, h.1]
 refine ⟨Nh cy17 (by first | (simp (disch := omega) only [vm, seval, h.1]; done) | rfl) fun n18 hn18 => ?_⟩
 simp (disch := omega) only [vm, seval, h.1]
 refine ⟨AX (γ := Unit) h [8, 33, 34, 35, 36, 37, 38, 39, 40, 41, 42, 43, 44, 45, 46, 47, 48, 49, 50, 51, 52, 53] [6, 7] (fun j20 g => [.int .i64 j20.1, .str j20.2]) (fun j20 g => m) (.q (.r []) (.q (.r []) (.c .z .z))) ?_ ?_⟩ <;> clear h
 rintro j20 _ n23 hnn23 _ _ h
 refine AA .z ?_
 simp (disch := omega) only [vm, seval, h.1]
 refine ⟨AX (γ := Unit) h [54, 55, 56, 57, 58, 59, 60, 61, 62, 63] [7] (fun j28 g => [.str j28]) (fun j28 g => m) .z ?_ ?_⟩ <;> clear h
 rintro j28 _ n31 hnn31 _ _ h
 refine AA (.q (.q (.r []) (.c (.q (.r []) .z) .z)) .z) ?_
 replace h := AC h
 rcases h with h | h
 obtain ⟨H, h⟩ := h
 cases h
 simp (disch := omega) only [vm, seval, H]
 refine ⟨(hR _ _ _ _ _ _ (by simp (disch := omega) only [vm, seval, H]; rfl) slr ?_ (by omega) ?_).1⟩ <;> first | (simp (disch := omega) only [vm, seval, H]; done) | rfl
 simp (disch := omega) only [vm, seval, h.1]
 refine ⟨AX (γ := Unit) h [66, 67, 68, 69, 70, 71, 72, 73, 74, 75, 76, 77, 78] [6, 7] (fun j39 g => [.int .i64 j39.1, .str j39.2]) (fun j39 g => m) .z ?_ ?_⟩ <;> clear h
 rintro j39 _ n42 hnn42 _ _ h
 refine AA (.q .z (.q (.r []) .z)) ?_
 simp (disch := omega) only [vm, seval, h.1]
 refine ⟨AX (γ := Unit) h [80, 81, 82, 83, 84, 85, 86, 87, 88, 89, 90] [79] (fun j46 g => [.bool j46]) (fun j46 g => m) (.r []) ?_ ?_⟩ <;> clear h
 rintro j46 _ n49 hnn49 _ _ h
 refine AA (.c (.q (.r []) .z) (.q (.r []) (.c (.q (.r []) .z) (.q (.r []) (.c (.q (.r []) .z) .z))))) ?_
 replace h := AC h
 rcases h with h | h
 obtain ⟨H, h⟩ := h
 cases h
 simp (disch := omega) only [vm, seval, H]
 refine ⟨(hR _ _ _ _ _ _ (by simp (disch := omega) only [vm, seval, H]; rfl) slr ?_ (by omega) ?_).1⟩ <;> first | (simp (disch := omega) only [vm, seval, H]; done) | rfl
 replace h := AC h
 rcases h with h | h
 replace h := Ad h
 obtain ⟨c, h⟩ := h
 try simp only [liE, seval] at c
 replace h := Ab c h
 replace h := Ad h
 obtain ⟨c, h⟩ := h
 try simp only [liE, seval] at c
 replace h := Ab c h
 replace h := AB h
 obtain ⟨y50, h⟩ := h
 simp (disch := omega) only [vm, seval, h.1]
 refine ⟨Ki h.1.1 (by first | (simp (disch := omega) only [vm, seval, h.1]; done) | rfl) fun n51 hn51 => ?_⟩
 replace h := Ad h
 obtain ⟨c, h⟩ := h
 try simp only [liE, seval] at c
 replace h := Ab c h
 obtain ⟨H, h⟩ := h
 cases h
 simp (disch := omega) only [vm, seval, H]
 refine ⟨(hR _ _ _ _ _ _ (by simp (disch := omega) only [vm, seval, H]; rfl) slr ?_ (by omega) ?_).1⟩ <;> first | (simp (disch := omega) only [vm, seval, H]; done) | rfl
 replace h := AC h
 rcases h with h | h
 replace h := Ad h
 obtain ⟨c, h⟩ := h
 try simp only [liE, seval] at c
 replace h := Ab c h
 replace h := Ad h
 obtain ⟨c, h⟩ := h
 try simp only [liE, seval] at c
 replace h := Ab c h
 replace h := AB h
 obtain ⟨y52, h⟩ := h
 simp (disch := omega) only [vm, seval, h.1]
 refine ⟨Ki h.1.1 (by first | (simp (disch := omega) only [vm, seval, h.1]; done) | rfl) fun n53 hn53 => ?_⟩
 replace h := Ad h
 obtain ⟨c, h⟩ := h
 try simp only [liE, seval] at c
 replace h := Ab c h
 obtain ⟨H, h⟩ := h
 cases h
 simp (disch := omega) only [vm, seval, H]
 refine ⟨(hR _ _ _ _ _ _ (by simp (disch := omega) only [vm, seval, H]; rfl) slr ?_ (by omega) ?_).1⟩ <;> first | (simp (disch := omega) only [vm, seval, H]; done) | rfl
 replace h := Ad h
 obtain ⟨c, h⟩ := h
 try simp only [liE, seval] at c
 replace h := Ab c h
 obtain ⟨H, h⟩ := h
 cases h
 simp (disch := omega) only [vm, seval, H]
 refine ⟨(hR _ _ _ _ _ _ (by simp (disch := omega) only [vm, seval, H]; rfl) slr ?_ (by omega) ?_).1⟩ <;> first | (simp (disch := omega) only [vm, seval, H]; done) | rfl
 intro k47 Jk47 hk47 h
 replace h := AC h
 rcases h with h | h
 simp (disch := omega) only [vm, seval, h.1]
 refine ⟨hk47 true () _ _ _ _ h.2 slr ?_ ?_ ?_ (by omega)⟩ <;> first | (simp (disch := omega) only [vm, seval, h.1]; done) | rfl
 replace h := AC h
 rcases h with h | h
 simp (disch := omega) only [vm, seval, h.1]
 refine ⟨hk47 true () _ _ _ _ h.2 slr ?_ ?_ ?_ (by omega)⟩ <;> first | (simp (disch := omega) only [vm, seval, h.1]; done) | rfl
 simp (disch := omega) only [vm, seval, h.1]
 refine ⟨hk47 (decide (j39.1 < (-400))) () _ _ _ _ h.2 slr ?_ ?_ ?_ (by omega)⟩ <;> first | (simp (disch := omega) only [vm, seval, h.1]; done) | rfl
 intro k40 Jk40 hk40 h
 simp (disch := omega) only [vm, seval, h.1]
 refine ⟨F7 (σ := Int × (List UInt8)) (γ := Unit) (fun k s => Dj N k40 k s.1 s.2) (fun s g => [.int .i64 s.1, .str s.2]) (fun s g => m) [66, 67, 68, 69, 70, 71, 72, 73, 74, 75, 76, 77, 78] [6, 7] (j20.1, j28) () h (fun _ => rfl) (by first | (simp (disch := omega) only [vm, seval, h.1]; done) | rfl) (by first | (simp (disch := omega) only [vm, seval, h.1]; done) | rfl) ?_⟩
 clear h
 rintro k43 ⟨s6, s7⟩ _ nL1_1 hnL1_1 _ h Jk43 hk43
 change _ ∧ Dj N k40 (k43 + 1) s6 s7 = _ at h
 rw [Dj] at h
 refine AA (.q (.q (.r []) (.c .z .z)) (.r [])) ?_
 replace h := AB h
 obtain ⟨x44, h⟩ := h
 replace h := AC h
 rcases h with h | h
 replace h := AB h
 obtain ⟨x45, h⟩ := h
 simp (disch := omega) only [vm, seval, h.1]
 refine ⟨hk43 ((wr .i64 (s6 + 1)), x45) () _ _ _ _ h.2 slr ?_ ?_ ?_ (by omega)⟩ <;> first | (simp (disch := omega) only [vm, seval, h.1]; done) | rfl
 simp (disch := omega) only [vm, seval, h.1]
 refine ⟨hk40 (s6, s7) () _ _ _ _ h.2 slr ?_ ?_ ?_ (by omega)⟩ <;> first | (simp (disch := omega) only [vm, seval, h.1]; done) | rfl
 intro k29 Jk29 hk29 h
 simp (disch := omega) only [vm, seval, h.1]
 refine ⟨F7 (σ := (List UInt8)) (γ := Unit) (fun k s => C8 N k29 k s) (fun s g => [.str s]) (fun s g => m) [54, 55, 56, 57, 58, 59, 60, 61, 62, 63] [7] j20.2 () h (fun _ => rfl) (by first | (simp (disch := omega) only [vm, seval, h.1]; done) | rfl) (by first | (simp (disch := omega) only [vm, seval, h.1]; done) | rfl) ?_⟩
 clear h
 rintro k32 s7 _ nL0_1 hnL0_1 _ h Jk32 hk32
 change _ ∧ C8 N k29 (k32 + 1) s7 = _ at h
 rw [C8] at h
 refine AA (.q .z (.r [])) ?_
 simp (disch := omega) only [vm, seval, h.1]
 refine ⟨AX (γ := Unit) h [54, 55, 56, 57, 58, 59, 60] [61] (fun j33 g => [.bool j33]) (fun j33 g => m) (.r []) ?_ ?_⟩ <;> clear h
 rintro j33 _ n36 hnn36 _ _ h
 refine AA (.c .z .z) ?_
 replace h := AC h
 rcases h with h | h
 replace h := AB h
 obtain ⟨x38, h⟩ := h
 simp (disch := omega) only [vm, seval, h.1]
 refine ⟨hk32 x38 () _ _ _ _ h.2 slr ?_ ?_ ?_ (by omega)⟩ <;> first | (simp (disch := omega) only [vm, seval, h.1]; done) | rfl
 simp (disch := omega) only [vm, seval, h.1]
 refine ⟨hk29 s7 () _ _ _ _ h.2 slr ?_ ?_ ?_ (by omega)⟩ <;> first | (simp (disch := omega) only [vm, seval, h.1]; done) | rfl
 intro k34 Jk34 hk34 h
 replace h := AC h
 rcases h with h | h
 replace h := AB h
 obtain ⟨x37, h⟩ := h
 simp (disch := omega) only [vm, seval, h.1]
 refine ⟨hk34 ((AP x37) == 48) () _ _ _ _ h.2 slr ?_ ?_ ?_ (by omega)⟩ <;> first | (simp (disch := omega) only [vm, seval, h.1]; done) | rfl
 simp (disch := omega) only [vm, seval, h.1]
 refine ⟨hk34 false () _ _ _ _ h.2 slr ?_ ?_ ?_ (by omega)⟩ <;> first | (simp (disch := omega) only [vm, seval, h.1]; done) | rfl
 intro k21 Jk21 hk21 h
 replace h := AB h
 obtain ⟨y24, h⟩ := h
 simp (disch := omega) only [vm, seval, h.1]
 refine ⟨LZ h.1.1 (by first | (simp (disch := omega) only [vm, seval, h.1]; done) | rfl) fun n25 hn25 => ?_⟩
 replace h := AC h
 rcases h with h | h
 replace h := AB h
 obtain ⟨x26, h⟩ := h
 replace h := AB h
 obtain ⟨x27, h⟩ := h
 replace h := Ad h
 obtain ⟨c, h⟩ := h
 try simp only [liE, seval] at c
 replace h := Ab c h
 simp (disch := omega) only [vm, seval, h.1]
 refine ⟨Ar [] (.take 0 (.take 1 (.take 2 (.take 3 (.take 4 (.take 5 (.take 6 (.take 7 (.take 8 (.take 9 (.take 10 (.take 11 (.take 12 (.take 13 (.take 14 (.alt 15 [14, 13, 12, 11, 10, 9, 8, 7] (.alt 16 [] (.done) (.stop)) (.stop))))))))))))))))) Ah (by kernel_rfl) ?_⟩
 simp (disch := omega) only [vm, seval, h.1]
 refine ⟨hk21 ((wr .i64 (y17 - (wr .i64 ((wr .i64 ((x19.length : Int) - y24)) - 1)))), (x26 ++ x27)) () _ _ _ _ h.2 slr ?_ ?_ ?_ (by omega)⟩ <;> first | (simp (disch := omega) only [vm, seval, h.1]; done) | rfl
 simp (disch := omega) only [vm, seval, h.1]
 refine ⟨hk21 (y17, x19) () _ _ _ _ h.2 slr ?_ ?_ ?_ (by omega)⟩ <;> first | (simp (disch := omega) only [vm, seval, h.1]; done) | rfl
 intro k8 Jk8 hk8 h
 replace h := AB h
 obtain ⟨x11, h⟩ := h
 replace h := AC h
 rcases h with h | h
 replace h := AB h
 obtain ⟨x12, h⟩ := h
 simp (disch := omega) only [vm, seval, h.1]
 refine ⟨Ar [] (.take 0 (.take 1 (.alt 2 [1, 0] (.alt 3 [] (.done) (.stop)) (.stop)))) Ah (by kernel_rfl) ?_⟩
 simp (disch := omega) only [vm, seval, h.1]
 refine ⟨hk8 (x12, ([45] : List UInt8)) () _ _ _ _ h.2 slr ?_ ?_ ?_ (by omega)⟩ <;> first | (simp (disch := omega) only [vm, seval, h.1]; done) | rfl
 simp (disch := omega) only [vm, seval, h.1]
 refine ⟨hk8 (a0, []) () _ _ _ _ h.2 slr ?_ ?_ ?_ (by omega)⟩ <;> first | (simp (disch := omega) only [vm, seval, h.1]; done) | rfl
 intro k2 Jk2 hk2 h
 replace h := AC h
 rcases h with h | h
 simp (disch := omega) only [vm, seval, h.1]
 refine ⟨hk2 true () _ _ _ _ h.2 slr ?_ ?_ ?_ (by omega)⟩ <;> first | (simp (disch := omega) only [vm, seval, h.1]; done) | rfl
 replace h := AB h
 obtain ⟨y5, h⟩ := h
 simp (disch := omega) only [vm, seval, h.1]
 refine ⟨Oz h.1.1 (by first | (simp (disch := omega) only [vm, seval, h.1]; done) | rfl) fun n6 hn6 => ?_⟩
 simp (disch := omega) only [vm, seval, h.1]
 refine ⟨hk2 (y5 != (a0.length : Int)) () _ _ _ _ h.2 slr ?_ ?_ ?_ (by omega)⟩ <;> first | (simp (disch := omega) only [vm, seval, h.1]; done) | rfl
theorem RG {a0 r} (h : Iy N a0 = some r) (ha : args = [.str a0]) (hQ : ∀ n', n ≤ n' → Gl (Q (.int .i64 r) ⟨m, n'⟩)) : ACall vE 80 args ⟨m, n⟩ Q := by
 rw [Iy] at h
 subst ha
 refine ent hQ Tryd.func80 rfl Tryd.ntmps80 Tryd.results80 (.q (.r []) (.q (.r []) .z)) fun R hR => ?_
 replace h := And.intro trivial h
 simp (disch := omega) only [vm, seval, h.1]
 refine ⟨AX (γ := Unit) h [2, 4, 5, 6, 7, 8, 9, 10, 11, 12, 13, 14, 15, 16, 17, 18, 19, 20, 21, 22, 23] [3] (fun j1 g => [.int .i64 j1]) (fun j1 g => m) (.q (.r []) .z) ?_ ?_⟩ <;> clear h
 rintro j1 _ n4 hnn4 _ _ h
 refine AA (.q (.r []) .z) ?_
 obtain ⟨H, h⟩ := h
 cases h
 simp (disch := omega) only [vm, seval, H]
 refine ⟨(hR _ _ _ _ _ _ (by simp (disch := omega) only [vm, seval, H]; rfl) slr ?_ (by omega) ?_).1⟩ <;> first | (simp (disch := omega) only [vm, seval, H]; done) | rfl
 intro k2 Jk2 hk2 h
 simp (disch := omega) only [vm, seval, h.1]
 refine ⟨F7 (σ := Int × Int) (γ := Unit) (fun k s => DZ N a0 k2 k s.1 s.2) (fun s g => [.int .i64 s.1, .int .i64 s.2]) (fun s g => m) [2, 5, 6, 7, 8, 9, 10, 11, 12, 13, 14, 15, 16, 17, 18, 19, 20, 21, 22, 23] [3, 4] (0, 0) () h (fun _ => rfl) (by first | (simp (disch := omega) only [vm, seval, h.1]; done) | rfl) (by first | (simp (disch := omega) only [vm, seval, h.1]; done) | rfl) ?_⟩
 clear h
 rintro k5 ⟨s3, s4⟩ _ nL0_1 hnL0_1 _ h Jk5 hk5
 change _ ∧ DZ N a0 k2 (k5 + 1) s3 s4 = _ at h
 rw [DZ] at h
 refine AA (.q (.q (.r []) (.c .z .z)) (.q (.q (.r []) (.q (.q (.r []) (.c (.q (.r []) .z) .z)) (.r []))) (.r []))) ?_
 replace h := AC h
 rcases h with h | h
 replace h := AB h
 obtain ⟨y6, h⟩ := h
 simp (disch := omega) only [vm, seval, h.1]
 refine ⟨QS h.1.1 (by first | (simp (disch := omega) only [vm, seval, h.1]; done) | rfl) fun n7 hn7 => ?_⟩
 replace h := AC h
 rcases h with h | h
 obtain ⟨H, h⟩ := h
 cases h
 simp (disch := omega) only [vm, seval, H]
 refine ⟨(hR _ _ _ _ _ _ (by simp (disch := omega) only [vm, seval, H]; rfl) slr ?_ (by omega) ?_).1⟩ <;> first | (simp (disch := omega) only [vm, seval, H]; done) | rfl
 simp (disch := omega) only [vm, seval, h.1]
 refine ⟨hk5 ((wr .i64 (s3 + 1)), y6.2.1) () _ _ _ _ h.2 slr ?_ ?_ ?_ (by omega)⟩ <;> first | (simp (disch := omega) only [vm, seval, h.1]; done) | rfl
 simp (disch := omega) only [vm, seval, h.1]
 refine ⟨hk2 s3 () _ _ _ _ h.2 slr ?_ ?_ ?_ (by omega)⟩ <;> first | (simp (disch := omega) only [vm, seval, h.1]; done) | rfl
end Go.Proofs.YtbmilkoebhmnnaaDoor
