/- That the code computes these functions; written by decomp.py. -/
import Derived.Test.YtbmilkoebhmnnaaGreatDoorVmFacts
import Derived.Test.YtbmilkoebhmnnaaGreatDoorDefs
import Derived.Test.YtbmilkoebhmnnaaGreatDoorVM2
import Derived.Test.YtbmilkoebhmnnaaGreatDoorW1
import Derived.Test.YtbmilkoebhmnnaaGreatDoorW2
import Derived.Test.YtbmilkoebhmnnaaGreatDoorW4
import Derived.Test.YtbmilkoebhmnnaaGreatDoorW11
import Derived.Test.YtbmilkoebhmnnaaGreatDoorW12
import Derived.Test.YtbmilkoebhmnnaaGreatDoorW13
import Derived.Test.YtbmilkoebhmnnaaGreatDoorW14
set_option linter.unusedVariables false
set_option linter.unusedSimpArgs false
set_option maxHeartbeats 4000000
set_option maxRecDepth 100000
set_option linter.defProp false
namespace Go.Proofs.YtbmilkoebhmnnaaGreatDoor
open Go.VM
variable {N n : Nat} {m : MS} {Q : PQ} {args : List AVal}
theorem law14_JsondocGets_w {a0 a1 a2 r} (h : law14_JsondocGets N a0 a1 a2 = some r) (ha : args = [encApiValue a0, encApiValue a1, .str a2]) (hQ : ∀ n', n ≤ n' → Gl (Q (.bool r) ⟨m, n'⟩)) : ACall vE 6 args ⟨m, n⟩ Q := by
 rw [law14_JsondocGets] at h
 subst ha
 refine ent hQ Tryz.func6 rfl Tryz.ntmps6 Tryz.results6 (.q (.r []) (.q (.q (.r []) (.c (.q (.r []) .z) .z)) (.q .z (.q (.r []) (.q (.r []) (.q .z .z)))))) fun R hR => ?_
 replace h := And.intro trivial h
 replace h := bind_a h
 obtain ⟨y1, h⟩ := h
 simp (maxSteps := 10000000) (disch := omega) only [vm, seval, h.1]
 refine ⟨law14_sane_w h.1.1 (by first | (simp (maxSteps := 10000000) (disch := omega) only [vm, seval, h.1]; done) | rfl) fun n2 hn2 => ?_⟩
 replace h := ite_a h
 rcases h with h | h
 simp (maxSteps := 10000000) (disch := omega) only [vm, seval, h.1]
 refine ⟨sjoin (γ := Unit) h [13, 14, 15, 16, 17, 18, 19, 20, 21, 22, 23, 24, 25, 26, 27, 28, 29] [30] (fun j3 g => [.bool j3]) (fun j3 g => ((n + 1), [.int .i64 a1.kind, .str a1.text, .slice 1 (List.map AVal.str a1.keys) false, .slice 4 (List.map encApiValue a1.items) false]) :: (n, [.int .i64 a0.kind, .str a0.text, .slice 1 (List.map AVal.str a0.keys) false, .slice 4 (List.map encApiValue a0.items) false]) :: m) (.r []) ?_ ?_⟩ <;> clear h
 rintro j3 _ n6 hnn6 _ _ h
 refine wpc_snd (.c (.q (.r []) .z) .z) ?_
 replace h := ite_a h
 rcases h with h | h
 obtain ⟨H, h⟩ := h
 cases h
 simp (maxSteps := 10000000) (disch := omega) only [vm, seval, H]
 refine ⟨(hR _ _ _ _ _ _ (by simp (maxSteps := 10000000) (disch := omega) only [vm, seval, H]; rfl) (.cons _ (.cons _ (List.Sublist.refl _))) ?_ (by omega) ?_).1⟩ <;> first | (simp (maxSteps := 10000000) (disch := omega) only [vm, seval, H]; done) | rfl
 replace h := bind_a h
 obtain ⟨y15, h⟩ := h
 simp (maxSteps := 10000000) (disch := omega) only [vm, seval, h.1]
 refine ⟨jsondoc_Get_w h.1.1 (by first | (simp (maxSteps := 10000000) (disch := omega) only [vm, seval, h.1]; done) | rfl) fun n16 hn16 => ?_⟩
 replace h := bind_a h
 obtain ⟨y17, h⟩ := h
 simp (maxSteps := 10000000) (disch := omega) only [vm, seval, h.1]
 refine ⟨ref14_Get_w h.1.1 (by first | (simp (maxSteps := 10000000) (disch := omega) only [vm, seval, h.1]; done) | rfl) fun n18 hn18 => ?_⟩
 replace h := ite_a h
 rcases h with h | h
 replace h := bind_a h
 obtain ⟨y19, h⟩ := h
 have cy19 := h.1.1
 replace h := ite_a h
 rcases h with h | h
 replace h := bind_a h
 obtain ⟨y21, h⟩ := h
 have cy21 := h.1.1
 replace h := bind_a h
 obtain ⟨y23, h⟩ := h
 have cy23 := h.1.1
 replace h := ite_a h
 rcases h with h | h
 replace h := bind_a h
 obtain ⟨y25, h⟩ := h
 have cy25 := h.1.1
 simp (maxSteps := 10000000) (disch := omega) only [vm, seval, h.1]
 refine ⟨awp_drw [] (.take 0 (.take 1 (.take 2 (.take 3 (.take 4 (.take 5 (.alt 6 [2, 1, 0] (.take 7 (.take 8 (.take 9 (.take 10 (.take 12 (.take 13 (.alt 11 [13, 12, 7, 5, 4, 3, 2, 1, 0] (.alt 14 [10, 9, 7, 5, 4, 3, 2, 1, 0] (.take 15 (.take 16 (.take 17 (.take 18 (.take 19 (.alt 20 [16, 15, 13, 12, 10, 9, 8, 7, 5, 4, 3, 2, 1, 0] (.take 21 (.alt 22 [] (.done) (.stop))) (.stop))))))) (.stop)) (.stop)))))))) (.stop)))))))) vE_mixed (by kernel_rfl) ?_⟩
 simp (maxSteps := 10000000) (disch := omega) only [vm, seval, h.1]
 refine ⟨ref14_Same_w cy19 (by first | (simp (maxSteps := 10000000) (disch := omega) only [vm, seval, h.1]; done) | rfl) fun n20 hn20 => ?_⟩
 simp (maxSteps := 10000000) (disch := omega) only [vm, seval, h.1]
 refine ⟨jsondoc_Equal_w cy21 (by first | (simp (maxSteps := 10000000) (disch := omega) only [vm, seval, h.1]; done) | rfl) fun n22 hn22 => ?_⟩
 simp (maxSteps := 10000000) (disch := omega) only [vm, seval, h.1]
 refine ⟨ref14_Equal_w cy23 (by first | (simp (maxSteps := 10000000) (disch := omega) only [vm, seval, h.1]; done) | rfl) fun n24 hn24 => ?_⟩
 simp (maxSteps := 10000000) (disch := omega) only [vm, seval, h.1]
 refine ⟨jsondoc_Equal_w cy25 (by first | (simp (maxSteps := 10000000) (disch := omega) only [vm, seval, h.1]; done) | rfl) fun n26 hn26 => ?_⟩
 obtain ⟨H, h⟩ := h
 cases h
 simp (maxSteps := 10000000) (disch := omega) only [vm, seval, H]
 refine ⟨(hR _ _ _ _ _ _ (by simp (maxSteps := 10000000) (disch := omega) only [vm, seval, H]; rfl) (.cons _ (.cons _ (.cons _ (.cons _ (List.Sublist.refl _))))) ?_ (by omega) ?_).1⟩ <;> first | (simp (maxSteps := 10000000) (disch := omega) only [vm, seval, H]; done) | rfl
 simp (maxSteps := 10000000) (disch := omega) only [vm, seval, h.1]
 refine ⟨awp_drw [] (.take 0 (.take 1 (.take 2 (.take 3 (.take 4 (.take 5 (.alt 6 [2, 1, 0] (.take 7 (.take 8 (.take 9 (.take 10 (.take 12 (.take 13 (.alt 11 [13, 12, 7, 5, 4, 3, 2, 1, 0] (.alt 14 [10, 9, 7, 5, 4, 3, 2, 1, 0] (.take 15 (.take 16 (.take 17 (.take 18 (.take 19 (.alt 20 [16, 15, 13, 12, 10, 9, 8, 7, 5, 4, 3, 2, 1, 0] (.take 21 (.alt 22 [] (.done) (.stop))) (.stop))))))) (.stop)) (.stop)))))))) (.stop)))))))) vE_mixed (by kernel_rfl) ?_⟩
 simp (maxSteps := 10000000) (disch := omega) only [vm, seval, h.1]
 refine ⟨ref14_Same_w cy19 (by first | (simp (maxSteps := 10000000) (disch := omega) only [vm, seval, h.1]; done) | rfl) fun n20 hn20 => ?_⟩
 simp (maxSteps := 10000000) (disch := omega) only [vm, seval, h.1]
 refine ⟨jsondoc_Equal_w cy21 (by first | (simp (maxSteps := 10000000) (disch := omega) only [vm, seval, h.1]; done) | rfl) fun n22 hn22 => ?_⟩
 simp (maxSteps := 10000000) (disch := omega) only [vm, seval, h.1]
 refine ⟨ref14_Equal_w cy23 (by first | (simp (maxSteps := 10000000) (disch := omega) only [vm, seval, h.1]; done) | rfl) fun n24 hn24 => ?_⟩
 obtain ⟨H, h⟩ := h
 cases h
 simp (maxSteps := 10000000) (disch := omega) only [vm, seval, H]
 refine ⟨(hR _ _ _ _ _ _ (by simp (maxSteps := 10000000) (disch := omega) only [vm, seval, H]; rfl) (.cons _ (.cons _ (.cons _ (.cons _ (List.Sublist.refl _))))) ?_ (by omega) ?_).1⟩ <;> first | (simp (maxSteps := 10000000) (disch := omega) only [vm, seval, H]; done) | rfl
 simp (maxSteps := 10000000) (disch := omega) only [vm, seval, h.1]
 refine ⟨awp_drw [] (.take 0 (.take 1 (.take 2 (.take 3 (.take 4 (.take 5 (.alt 6 [2, 1, 0] (.take 7 (.take 8 (.take 9 (.take 10 (.take 12 (.take 13 (.alt 11 [13, 12, 7, 5, 4, 3, 2, 1, 0] (.alt 14 [10, 9, 7, 5, 4, 3, 2, 1, 0] (.take 15 (.take 16 (.take 17 (.take 18 (.take 19 (.alt 20 [16, 15, 13, 12, 10, 9, 8, 7, 5, 4, 3, 2, 1, 0] (.take 21 (.alt 22 [] (.done) (.stop))) (.stop))))))) (.stop)) (.stop)))))))) (.stop)))))))) vE_mixed (by kernel_rfl) ?_⟩
 simp (maxSteps := 10000000) (disch := omega) only [vm, seval, h.1]
 refine ⟨ref14_Same_w cy19 (by first | (simp (maxSteps := 10000000) (disch := omega) only [vm, seval, h.1]; done) | rfl) fun n20 hn20 => ?_⟩
 obtain ⟨H, h⟩ := h
 cases h
 simp (maxSteps := 10000000) (disch := omega) only [vm, seval, H]
 refine ⟨(hR _ _ _ _ _ _ (by simp (maxSteps := 10000000) (disch := omega) only [vm, seval, H]; rfl) (.cons _ (.cons _ (.cons _ (.cons _ (List.Sublist.refl _))))) ?_ (by omega) ?_).1⟩ <;> first | (simp (maxSteps := 10000000) (disch := omega) only [vm, seval, H]; done) | rfl
 simp (maxSteps := 10000000) (disch := omega) only [vm, seval, h.1]
 refine ⟨awp_drw [] (.take 0 (.take 1 (.take 2 (.take 3 (.take 4 (.take 5 (.alt 6 [2, 1, 0] (.take 7 (.take 8 (.take 9 (.take 10 (.take 12 (.take 13 (.alt 11 [13, 12, 7, 5, 4, 3, 2, 1, 0] (.alt 14 [10, 9, 7, 5, 4, 3, 2, 1, 0] (.take 15 (.take 16 (.take 17 (.take 18 (.take 19 (.alt 20 [16, 15, 13, 12, 10, 9, 8, 7, 5, 4, 3, 2, 1, 0] (.take 21 (.alt 22 [] (.done) (.stop))) (.stop))))))) (.stop)) (.stop)))))))) (.stop)))))))) vE_mixed (by kernel_rfl) ?_⟩
 obtain ⟨H, h⟩ := h
 cases h
 simp (maxSteps := 10000000) (disch := omega) only [vm, seval, H]
 refine ⟨(hR _ _ _ _ _ _ (by simp (maxSteps := 10000000) (disch := omega) only [vm, seval, H]; rfl) (.cons _ (.cons _ (.cons _ (.cons _ (List.Sublist.refl _))))) ?_ (by omega) ?_).1⟩ <;> first | (simp (maxSteps := 10000000) (disch := omega) only [vm, seval, H]; done) | rfl
 intro k4 Jk4 hk4 h
 replace h := bind_a h
 obtain ⟨y7, h⟩ := h
 simp (maxSteps := 10000000) (disch := omega) only [vm, seval, h.1]
 refine ⟨keep_Value_w h.1.1 (by first | (simp (maxSteps := 10000000) (disch := omega) only [vm, seval, h.1]; done) | rfl) fun n8 hn8 => ?_⟩
 replace h := ite_a h
 rcases h with h | h
 replace h := bind_a h
 obtain ⟨y9, h⟩ := h
 simp (maxSteps := 10000000) (disch := omega) only [vm, seval, h.1]
 refine ⟨keep_Value_w h.1.1 (by first | (simp (maxSteps := 10000000) (disch := omega) only [vm, seval, h.1]; done) | rfl) fun n10 hn10 => ?_⟩
 replace h := ite_a h
 rcases h with h | h
 replace h := bind_a h
 obtain ⟨y11, h⟩ := h
 simp (maxSteps := 10000000) (disch := omega) only [vm, seval, h.1]
 refine ⟨wjson_Valid_w h.1.1 (by first | (simp (maxSteps := 10000000) (disch := omega) only [vm, seval, h.1]; done) | rfl) fun n12 hn12 => ?_⟩
 replace h := ite_a h
 rcases h with h | h
 replace h := bind_a h
 obtain ⟨y13, h⟩ := h
 simp (maxSteps := 10000000) (disch := omega) only [vm, seval, h.1]
 refine ⟨wjson_Valid_w h.1.1 (by first | (simp (maxSteps := 10000000) (disch := omega) only [vm, seval, h.1]; done) | rfl) fun n14 hn14 => ?_⟩
 simp (maxSteps := 10000000) (disch := omega) only [vm, seval, h.1]
 refine ⟨hk4 (!y13) () _ _ _ _ h.2 (List.Sublist.refl _) ?_ ?_ ?_ (by omega)⟩ <;> first | (simp (maxSteps := 10000000) (disch := omega) only [vm, seval, h.1]; done) | rfl
 simp (maxSteps := 10000000) (disch := omega) only [vm, seval, h.1]
 refine ⟨hk4 true () _ _ _ _ h.2 (List.Sublist.refl _) ?_ ?_ ?_ (by omega)⟩ <;> first | (simp (maxSteps := 10000000) (disch := omega) only [vm, seval, h.1]; done) | rfl
 simp (maxSteps := 10000000) (disch := omega) only [vm, seval, h.1]
 refine ⟨hk4 true () _ _ _ _ h.2 (List.Sublist.refl _) ?_ ?_ ?_ (by omega)⟩ <;> first | (simp (maxSteps := 10000000) (disch := omega) only [vm, seval, h.1]; done) | rfl
 simp (maxSteps := 10000000) (disch := omega) only [vm, seval, h.1]
 refine ⟨hk4 true () _ _ _ _ h.2 (List.Sublist.refl _) ?_ ?_ ?_ (by omega)⟩ <;> first | (simp (maxSteps := 10000000) (disch := omega) only [vm, seval, h.1]; done) | rfl
 obtain ⟨H, h⟩ := h
 cases h
 simp (maxSteps := 10000000) (disch := omega) only [vm, seval, H]
 refine ⟨(hR _ _ _ _ _ _ (by simp (maxSteps := 10000000) (disch := omega) only [vm, seval, H]; rfl) (.cons _ (.cons _ (List.Sublist.refl _))) ?_ (by omega) ?_).1⟩ <;> first | (simp (maxSteps := 10000000) (disch := omega) only [vm, seval, H]; done) | rfl
end Go.Proofs.YtbmilkoebhmnnaaGreatDoor
