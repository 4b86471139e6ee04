import Derived.Test.YtbmilkoebhmnnaaGreatDoorVmFacts
import Derived.Test.YtbmilkoebhmnnaaGreatDoorDefs
import Derived.Test.YtbmilkoebhmnnaaGreatDoorVM2
import Derived.Test.YtbmilkoebhmnnaaGreatDoorW1
import Derived.Test.YtbmilkoebhmnnaaGreatDoorW2
import Derived.Test.YtbmilkoebhmnnaaGreatDoorW4
import Derived.Test.YtbmilkoebhmnnaaGreatDoorW11
import Derived.Test.YtbmilkoebhmnnaaGreatDoorW12
import Derived.Test.YtbmilkoebhmnnaaGreatDoorW13
import Derived.Test.YtbmilkoebhmnnaaGreatDoorW14
set_option linter.unusedVariables false
set_option linter.unusedSimpArgs false
set_option maxHeartbeats 4000000
set_option maxRecDepth 100000
set_option linter.defProp false
namespace Go.Proofs.YtbmilkoebhmnnaaGreatDoor
open Go.VM
variable {N n : Nat} {m : MS} {Q : PQ} {args : List AVal}
theorem LY {a0 a1 a2 r} (h : FP N a0 a1 a2 = some r) (ha : args = [AB a0, .int .u16 a1, AB a2]) (hQ : ∀ n', n ≤ n' → Gl (Q (.bool r) ⟨m, n'⟩)) : ACall vE 4 args ⟨m, n⟩ Q := by
 rw [FP] at h
 subst ha
 refine ent hQ Tryz.func4 rfl Tryz.ntmps4 Tryz.results4 (.q (.r []) (.q (.q (.r []) (.c (.q (.r []) .z) .z)) (.q .z (.q (.r []) (.q (.r []) (.q .z (.q (.r []) (.q (.r []) (.q (.r []) .z))))))))) fun R hR => ?_
 replace h := And.intro trivial h
 replace h := AC h
 obtain ⟨y1, h⟩ := h
 simp (maxSteps := 10000000) (disch := omega) only [vm, seval, h.1]
 refine ⟨Tf h.1.1 (by first | (simp (maxSteps := 10000000) (disch := omega) only [vm, seval, h.1]; done) | rfl) fun n2 hn2 => ?_⟩
 replace h := AJ h
 rcases h with h | h
 simp (maxSteps := 10000000) (disch := omega) only [vm, seval, h.1]
 refine ⟨AV (γ := Unit) h [19, 20, 21, 22, 23, 24, 25, 26, 27, 28, 29, 30, 31, 32, 33, 34, 35] [36] (fun j3 g => [.bool j3]) (fun j3 g => ((n + 1), [.int .i64 a2.kind, .str a2.text, .slice 1 (List.map AVal.str a2.keys) false, .slice 4 (List.map AB a2.items) false]) :: (n, [.int .i64 a0.kind, .str a0.text, .slice 1 (List.map AVal.str a0.keys) false, .slice 4 (List.map AB a0.items) false]) :: m) (.r []) ?_ ?_⟩ <;> clear h
 rintro j3 _ n6 hnn6 _ _ h
 refine AA (.c (.q (.r []) .z) .z) ?_
 replace h := AJ h
 rcases h with h | h
 obtain ⟨H, h⟩ := h
 cases h
 simp (maxSteps := 10000000) (disch := omega) only [vm, seval, H]
 refine ⟨(hR _ _ _ _ _ _ (by simp (maxSteps := 10000000) (disch := omega) only [vm, seval, H]; rfl) (.cons _ (.cons _ slr)) ?_ (by omega) ?_).1⟩ <;> first | (simp (maxSteps := 10000000) (disch := omega) only [vm, seval, H]; done) | rfl
 replace h := AC h
 obtain ⟨y11, h⟩ := h
 simp (maxSteps := 10000000) (disch := omega) only [vm, seval, h.1]
 refine ⟨Le h.1.1 (by first | (simp (maxSteps := 10000000) (disch := omega) only [vm, seval, h.1]; done) | rfl) fun n12 hn12 => ?_⟩
 replace h := AC h
 obtain ⟨y13, h⟩ := h
 simp (maxSteps := 10000000) (disch := omega) only [vm, seval, h.1]
 refine ⟨Le h.1.1 (by first | (simp (maxSteps := 10000000) (disch := omega) only [vm, seval, h.1]; done) | rfl) fun n14 hn14 => ?_⟩
 simp (maxSteps := 10000000) (disch := omega) only [vm, seval, h.1]
 refine ⟨AV (γ := Unit) h [47, 48, 49, 50, 51] [52] (fun j15 g => [.bool j15]) (fun j15 g => ((n + 1), [.int .i64 a2.kind, .str a2.text, .slice 1 (List.map AVal.str a2.keys) false, .slice 4 (List.map AB a2.items) false]) :: (n, [.int .i64 a0.kind, .str a0.text, .slice 1 (List.map AVal.str a0.keys) false, .slice 4 (List.map AB a0.items) false]) :: m) (.r []) ?_ ?_⟩ <;> clear h
 rintro j15 _ n18 hnn18 _ _ h
 refine AA (.c (.q (.r []) .z) .z) ?_
 replace h := AJ h
 rcases h with h | h
 obtain ⟨H, h⟩ := h
 cases h
 simp (maxSteps := 10000000) (disch := omega) only [vm, seval, H]
 refine ⟨(hR _ _ _ _ _ _ (by simp (maxSteps := 10000000) (disch := omega) only [vm, seval, H]; rfl) (.cons _ (.cons _ slr)) ?_ (by omega) ?_).1⟩ <;> first | (simp (maxSteps := 10000000) (disch := omega) only [vm, seval, H]; done) | rfl
 replace h := Aj h
 obtain ⟨c, h⟩ := h
 try simp only [liE, seval] at c
 replace h := Aa c h
 replace h := AC h
 obtain ⟨x19, h⟩ := h
 replace h := AC h
 obtain ⟨y20, h⟩ := h
 simp (maxSteps := 10000000) (disch := omega) only [vm, seval, h.1]
 refine ⟨F9 h.1.1 (by first | (simp (maxSteps := 10000000) (disch := omega) only [vm, seval, h.1]; done) | rfl) fun n21 hn21 => ?_⟩
 replace h := Aj h
 obtain ⟨c, h⟩ := h
 try simp only [liE, seval] at c
 replace h := Aa c h
 replace h := Aj h
 obtain ⟨c, h⟩ := h
 try simp only [liE, seval] at c
 replace h := Aa c h
 replace h := AC h
 obtain ⟨y22, h⟩ := h
 simp (maxSteps := 10000000) (disch := omega) only [vm, seval, h.1]
 refine ⟨F9 h.1.1 (by first | (simp (maxSteps := 10000000) (disch := omega) only [vm, seval, h.1]; done) | rfl) fun n23 hn23 => ?_⟩
 replace h := AJ h
 rcases h with h | h
 replace h := AJ h
 rcases h with h | h
 replace h := AJ h
 rcases h with h | h
 replace h := AJ h
 rcases h with h | h
 obtain ⟨H, h⟩ := h
 cases h
 simp (maxSteps := 10000000) (disch := omega) only [vm, seval, H]
 refine ⟨(hR _ _ _ _ _ _ (by simp (maxSteps := 10000000) (disch := omega) only [vm, seval, H]; rfl) (.cons _ (.cons _ (.cons _ (.cons _ slr)))) ?_ (by omega) ?_).1⟩ <;> first | (simp (maxSteps := 10000000) (disch := omega) only [vm, seval, H]; done) | rfl
 obtain ⟨H, h⟩ := h
 cases h
 simp (maxSteps := 10000000) (disch := omega) only [vm, seval, H]
 refine ⟨(hR _ _ _ _ _ _ (by simp (maxSteps := 10000000) (disch := omega) only [vm, seval, H]; rfl) (.cons _ (.cons _ (.cons _ (.cons _ slr)))) ?_ (by omega) ?_).1⟩ <;> first | (simp (maxSteps := 10000000) (disch := omega) only [vm, seval, H]; done) | rfl
 obtain ⟨H, h⟩ := h
 cases h
 simp (maxSteps := 10000000) (disch := omega) only [vm, seval, H]
 refine ⟨(hR _ _ _ _ _ _ (by simp (maxSteps := 10000000) (disch := omega) only [vm, seval, H]; rfl) (.cons _ (.cons _ (.cons _ (.cons _ slr)))) ?_ (by omega) ?_).1⟩ <;> first | (simp (maxSteps := 10000000) (disch := omega) only [vm, seval, H]; done) | rfl
 obtain ⟨H, h⟩ := h
 cases h
 simp (maxSteps := 10000000) (disch := omega) only [vm, seval, H]
 refine ⟨(hR _ _ _ _ _ _ (by simp (maxSteps := 10000000) (disch := omega) only [vm, seval, H]; rfl) (.cons _ (.cons _ (.cons _ (.cons _ slr)))) ?_ (by omega) ?_).1⟩ <;> first | (simp (maxSteps := 10000000) (disch := omega) only [vm, seval, H]; done) | rfl
 obtain ⟨H, h⟩ := h
 cases h
 simp (maxSteps := 10000000) (disch := omega) only [vm, seval, H]
 refine ⟨(hR _ _ _ _ _ _ (by simp (maxSteps := 10000000) (disch := omega) only [vm, seval, H]; rfl) (.cons _ (.cons _ (.cons _ (.cons _ slr)))) ?_ (by omega) ?_).1⟩ <;> first | (simp (maxSteps := 10000000) (disch := omega) only [vm, seval, H]; done) | rfl
 intro k16 Jk16 hk16 h
 replace h := AJ h
 rcases h with h | h
 simp (maxSteps := 10000000) (disch := omega) only [vm, seval, h.1]
 refine ⟨hk16 true () _ _ _ _ h.2 slr ?_ ?_ ?_ (by omega)⟩ <;> first | (simp (maxSteps := 10000000) (disch := omega) only [vm, seval, h.1]; done) | rfl
 simp (maxSteps := 10000000) (disch := omega) only [vm, seval, h.1]
 refine ⟨hk16 (y13.2 != 0) () _ _ _ _ h.2 slr ?_ ?_ ?_ (by omega)⟩ <;> first | (simp (maxSteps := 10000000) (disch := omega) only [vm, seval, h.1]; done) | rfl
 intro k4 Jk4 hk4 h
 replace h := AC h
 obtain ⟨y7, h⟩ := h
 simp (maxSteps := 10000000) (disch := omega) only [vm, seval, h.1]
 refine ⟨Mq h.1.1 (by first | (simp (maxSteps := 10000000) (disch := omega) only [vm, seval, h.1]; done) | rfl) fun n8 hn8 => ?_⟩
 replace h := AJ h
 rcases h with h | h
 replace h := AC h
 obtain ⟨y9, h⟩ := h
 simp (maxSteps := 10000000) (disch := omega) only [vm, seval, h.1]
 refine ⟨Mq h.1.1 (by first | (simp (maxSteps := 10000000) (disch := omega) only [vm, seval, h.1]; done) | rfl) fun n10 hn10 => ?_⟩
 replace h := AJ h
 rcases h with h | h
 replace h := AJ h
 rcases h with h | h
 simp (maxSteps := 10000000) (disch := omega) only [vm, seval, h.1]
 refine ⟨hk4 (a0.kind != 7) () _ _ _ _ h.2 slr ?_ ?_ ?_ (by omega)⟩ <;> first | (simp (maxSteps := 10000000) (disch := omega) only [vm, seval, h.1]; done) | rfl
 simp (maxSteps := 10000000) (disch := omega) only [vm, seval, h.1]
 refine ⟨hk4 false () _ _ _ _ h.2 slr ?_ ?_ ?_ (by omega)⟩ <;> first | (simp (maxSteps := 10000000) (disch := omega) only [vm, seval, h.1]; done) | rfl
 simp (maxSteps := 10000000) (disch := omega) only [vm, seval, h.1]
 refine ⟨hk4 true () _ _ _ _ h.2 slr ?_ ?_ ?_ (by omega)⟩ <;> first | (simp (maxSteps := 10000000) (disch := omega) only [vm, seval, h.1]; done) | rfl
 simp (maxSteps := 10000000) (disch := omega) only [vm, seval, h.1]
 refine ⟨hk4 true () _ _ _ _ h.2 slr ?_ ?_ ?_ (by omega)⟩ <;> first | (simp (maxSteps := 10000000) (disch := omega) only [vm, seval, h.1]; done) | rfl
 obtain ⟨H, h⟩ := h
 cases h
 simp (maxSteps := 10000000) (disch := omega) only [vm, seval, H]
 refine ⟨(hR _ _ _ _ _ _ (by simp (maxSteps := 10000000) (disch := omega) only [vm, seval, H]; rfl) (.cons _ (.cons _ slr)) ?_ (by omega) ?_).1⟩ <;> first | (simp (maxSteps := 10000000) (disch := omega) only [vm, seval, H]; done) | rfl
end Go.Proofs.YtbmilkoebhmnnaaGreatDoor
