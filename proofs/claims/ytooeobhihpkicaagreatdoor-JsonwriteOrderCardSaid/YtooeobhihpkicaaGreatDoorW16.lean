import Derived.Test.YtooeobhihpkicaaGreatDoorVmFacts
import Derived.Test.YtooeobhihpkicaaGreatDoorDefs
import Derived.Test.YtooeobhihpkicaaGreatDoorVM2
import Derived.Test.YtooeobhihpkicaaGreatDoorW2
import Derived.Test.YtooeobhihpkicaaGreatDoorW14
import Derived.Test.YtooeobhihpkicaaGreatDoorW15
set_option linter.unusedVariables false
set_option linter.unusedSimpArgs false
set_option maxHeartbeats 4000000
set_option maxRecDepth 100000
set_option linter.defProp false
namespace Go.Proofs.YtooeobhihpkicaaGreatDoor
open Go.VM
variable {N n : Nat} {m : MS} {Q : PQ} {args : List AVal}
theorem J4 {a0 a1 r} (h : En N a0 a1 = some r) (ha : args = [AJ a0, .int .u8 a1]) (hQ : ∀ n', n ≤ n' → Gl (Q (.bool r) ⟨m, n'⟩)) : ACall vE 4 args ⟨m, n⟩ Q := by
 rw [En] at h
 subst ha
 refine ent hQ Tryz.func4 rfl Tryz.ntmps4 Tryz.results4 (.q (.r []) (.q (.q (.r []) (.c (.q (.r []) .z) .z)) (.q .z (.q (.r []) (.q (.r []) (.q .z (.q .z (.q (.r []) (.q (.r []) (.q (.r []) .z)))))))))) fun R hR => ?_
 replace h := And.intro trivial h
 replace h := AA h
 obtain ⟨y1, h⟩ := h
 simp (maxSteps := 10000000) (disch := omega) only [vm, seval, h.1]
 refine ⟨TY h.1.1 (by first | (simp (maxSteps := 10000000) (disch := omega) only [vm, seval, h.1]; done) | rfl) fun n2 hn2 => ?_⟩
 replace h := AC h
 rcases h with h | h
 simp (maxSteps := 10000000) (disch := omega) only [vm, seval, h.1]
 refine ⟨Ab (γ := Unit) h [13, 14, 15, 16, 17, 18, 19, 20, 21, 22, 23, 24, 25, 26, 27, 28, 29, 30, 31, 32, 33, 34] [35] (fun j3 g => [.bool j3]) (fun j3 g => (n, [.int .i64 a0.kind, .str a0.text, .slice 1 (List.map AVal.str a0.keys) false, .slice 4 (List.map AJ a0.items) false]) :: m) (.r []) ?_ ?_⟩ <;> clear h
 rintro j3 _ n6 hnn6 _ _ h
 refine AB (.c (.q (.r []) .z) .z) ?_
 replace h := AC h
 rcases h with h | h
 obtain ⟨H, h⟩ := h
 cases h
 simp (maxSteps := 10000000) (disch := omega) only [vm, seval, H]
 refine ⟨(hR _ _ _ _ _ _ (by simp (maxSteps := 10000000) (disch := omega) only [vm, seval, H]; rfl) (.cons _ slr) ?_ (by omega) ?_).1⟩ <;> first | (simp (maxSteps := 10000000) (disch := omega) only [vm, seval, H]; done) | rfl
 replace h := Ad h
 obtain ⟨c, h⟩ := h
 try simp only [liE, seval] at c
 replace h := AY c h
 replace h := AA h
 obtain ⟨x9, h⟩ := h
 replace h := Ad h
 obtain ⟨c, h⟩ := h
 try simp only [liE, seval] at c
 replace h := AY c h
 replace h := AA h
 obtain ⟨x10, h⟩ := h
 replace h := Ad h
 obtain ⟨c, h⟩ := h
 try simp only [liE, seval] at c
 replace h := AY c h
 simp (maxSteps := 10000000) (disch := omega) only [vm, seval, h.1]
 refine ⟨A9 [] (.take 0 (.take 1 (.take 2 (.take 3 (.take 5 (.take 6 (.take 7 (.take 8 (.alt 4 [8, 7, 6, 5, 2, 1, 0] (.alt 9 [7, 6, 5, 3, 2, 1, 0] (.take 10 (.alt 11 [] (.done) (.stop))) (.stop)) (.stop)))))))))) Am (by kernel_rfl) ?_⟩
 replace h := AA h
 obtain ⟨x11, h⟩ := h
 replace h := Ad h
 obtain ⟨c, h⟩ := h
 try simp only [liE, seval] at c
 replace h := AY c h
 replace h := AA h
 obtain ⟨x12, h⟩ := h
 replace h := Ad h
 obtain ⟨c, h⟩ := h
 try simp only [liE, seval] at c
 replace h := AY c h
 simp (maxSteps := 10000000) (disch := omega) only [vm, seval, h.1]
 refine ⟨A9 [] (.take 0 (.take 1 (.take 2 (.take 3 (.take 5 (.take 6 (.take 7 (.take 8 (.alt 4 [8, 7, 6, 5, 2, 1, 0] (.alt 9 [7, 6, 5, 3, 2, 1, 0] (.take 10 (.alt 11 [] (.done) (.stop))) (.stop)) (.stop)))))))))) Am (by kernel_rfl) ?_⟩
 replace h := AA h
 obtain ⟨y13, h⟩ := h
 simp (maxSteps := 10000000) (disch := omega) only [vm, seval, h.1]
 refine ⟨Hd h.1.1 (by first | (simp (maxSteps := 10000000) (disch := omega) only [vm, seval, h.1]; done) | rfl) fun n14 hn14 => ?_⟩
 replace h := AA h
 obtain ⟨y15, h⟩ := h
 simp (maxSteps := 10000000) (disch := omega) only [vm, seval, h.1]
 refine ⟨Hd h.1.1 (by first | (simp (maxSteps := 10000000) (disch := omega) only [vm, seval, h.1]; done) | rfl) fun n16 hn16 => ?_⟩
 replace h := AC h
 rcases h with h | h
 obtain ⟨H, h⟩ := h
 cases h
 simp (maxSteps := 10000000) (disch := omega) only [vm, seval, H]
 refine ⟨(hR _ _ _ _ _ _ (by simp (maxSteps := 10000000) (disch := omega) only [vm, seval, H]; rfl) (.cons _ (.cons _ slr)) ?_ (by omega) ?_).1⟩ <;> first | (simp (maxSteps := 10000000) (disch := omega) only [vm, seval, H]; done) | rfl
 obtain ⟨H, h⟩ := h
 cases h
 simp (maxSteps := 10000000) (disch := omega) only [vm, seval, H]
 refine ⟨(hR _ _ _ _ _ _ (by simp (maxSteps := 10000000) (disch := omega) only [vm, seval, H]; rfl) (.cons _ (.cons _ slr)) ?_ (by omega) ?_).1⟩ <;> first | (simp (maxSteps := 10000000) (disch := omega) only [vm, seval, H]; done) | rfl
 intro k4 Jk4 hk4 h
 replace h := AA h
 obtain ⟨y7, h⟩ := h
 simp (maxSteps := 10000000) (disch := omega) only [vm, seval, h.1]
 refine ⟨TG h.1.1 (by first | (simp (maxSteps := 10000000) (disch := omega) only [vm, seval, h.1]; done) | rfl) fun n8 hn8 => ?_⟩
 replace h := AC h
 rcases h with h | h
 replace h := AC h
 rcases h with h | h
 simp (maxSteps := 10000000) (disch := omega) only [vm, seval, h.1]
 refine ⟨hk4 true () _ _ _ _ h.2 slr ?_ ?_ ?_ (by omega)⟩ <;> first | (simp (maxSteps := 10000000) (disch := omega) only [vm, seval, h.1]; done) | rfl
 replace h := AC h
 rcases h with h | h
 simp (maxSteps := 10000000) (disch := omega) only [vm, seval, h.1]
 refine ⟨hk4 true () _ _ _ _ h.2 slr ?_ ?_ ?_ (by omega)⟩ <;> first | (simp (maxSteps := 10000000) (disch := omega) only [vm, seval, h.1]; done) | rfl
 simp (maxSteps := 10000000) (disch := omega) only [vm, seval, h.1]
 refine ⟨hk4 ((a0.keys.length : Int) == 0) () _ _ _ _ h.2 slr ?_ ?_ ?_ (by omega)⟩ <;> first | (simp (maxSteps := 10000000) (disch := omega) only [vm, seval, h.1]; done) | rfl
 simp (maxSteps := 10000000) (disch := omega) only [vm, seval, h.1]
 refine ⟨hk4 true () _ _ _ _ h.2 slr ?_ ?_ ?_ (by omega)⟩ <;> first | (simp (maxSteps := 10000000) (disch := omega) only [vm, seval, h.1]; done) | rfl
 obtain ⟨H, h⟩ := h
 cases h
 simp (maxSteps := 10000000) (disch := omega) only [vm, seval, H]
 refine ⟨(hR _ _ _ _ _ _ (by simp (maxSteps := 10000000) (disch := omega) only [vm, seval, H]; rfl) (.cons _ slr) ?_ (by omega) ?_).1⟩ <;> first | (simp (maxSteps := 10000000) (disch := omega) only [vm, seval, H]; done) | rfl
end Go.Proofs.YtooeobhihpkicaaGreatDoor
