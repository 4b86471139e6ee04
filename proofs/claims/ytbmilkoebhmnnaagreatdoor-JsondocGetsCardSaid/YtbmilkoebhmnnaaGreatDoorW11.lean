/- That the code computes these functions; written by decomp.py. -/
import Derived.Test.YtbmilkoebhmnnaaGreatDoorVmFacts
import Derived.Test.YtbmilkoebhmnnaaGreatDoorDefs
import Derived.Test.YtbmilkoebhmnnaaGreatDoorVM2
import Derived.Test.YtbmilkoebhmnnaaGreatDoorW0
import Derived.Test.YtbmilkoebhmnnaaGreatDoorW1
import Derived.Test.YtbmilkoebhmnnaaGreatDoorW3
import Derived.Test.YtbmilkoebhmnnaaGreatDoorW4
import Derived.Test.YtbmilkoebhmnnaaGreatDoorW9
import Derived.Test.YtbmilkoebhmnnaaGreatDoorW10
set_option linter.unusedVariables false
set_option linter.unusedSimpArgs false
set_option maxHeartbeats 4000000
set_option maxRecDepth 100000
set_option linter.defProp false
namespace Go.Proofs.YtbmilkoebhmnnaaGreatDoor
open Go.VM
variable {N n : Nat} {m : MS} {Q : PQ} {args : List AVal}
theorem token_Next_w {a0 a1 r} (h : token_Next N a0 a1 = some r) (ha : args = [.str a0, .int .i64 a1]) (hQ : ∀ n', n ≤ n' → Gl (Q (.tuple [encApiToken r.1, .int .i64 r.2.1, .int .i64 r.2.2]) ⟨m, n'⟩)) : ACall vE 19 args ⟨m, n⟩ Q := by
 rw [token_Next] at h
 subst ha
 refine ent hQ Tryz.func19 rfl Tryz.ntmps19 Tryz.results19 (.q (.r []) (.q .z (.q (.r []) (.q (.r []) (.q (.r []) (.q (.r []) (.q (.q (.r []) (.c (.q (.r []) .z) .z)) (.q .z .z)))))))) fun R hR => ?_
 replace h := And.intro trivial h
 simp (disch := omega) only [vm, seval, h.1]
 refine ⟨sjoin (γ := Unit) h [12, 13, 14, 15, 16, 17, 18] [19] (fun j1 g => [.bool j1]) (fun j1 g => (n, [.int .i64 0, .str [], .int .i64 0]) :: m) (.r []) ?_ ?_⟩ <;> clear h
 rintro j1 _ n4 hnn4 _ _ h
 refine wpc_snd (.c (.q (.r []) .z) .z) ?_
 replace h := ite_a h
 rcases h with h | h
 obtain ⟨H, h⟩ := h
 cases h
 simp (disch := omega) only [vm, seval, H]
 refine ⟨(hR _ _ _ _ _ _ (by simp (disch := omega) only [vm, seval, H]; rfl) (.cons _ (List.Sublist.refl _)) ?_ (by omega) ?_).1⟩ <;> first | (simp (disch := omega) only [vm, seval, H]; done) | rfl
 replace h := bind_a h
 obtain ⟨y5, h⟩ := h
 simp (disch := omega) only [vm, seval, h.1]
 refine ⟨token_reader_while__token_space_w h.1.1 (by first | (simp (disch := omega) only [vm, seval, h.1]; done) | rfl) (i0 := n4) (by simp (disch := omega) only [vm, seval, h.1]) fun n6 hn6 => ?_⟩
 replace h := bind_a h
 obtain ⟨y7, h⟩ := h
 simp (disch := omega) only [vm, seval, h.1]
 refine ⟨token_reader_token_w h.1.1 (by first | (simp (disch := omega) only [vm, seval, h.1]; done) | rfl) (i0 := n4) (by simp (disch := omega) only [vm, seval, h.1]) fun n8 hn8 => ?_⟩
 replace h := ite_a h
 rcases h with h | h
 obtain ⟨H, h⟩ := h
 cases h
 simp (disch := omega) only [vm, seval, H]
 refine ⟨(hR _ _ _ _ _ _ (by simp (disch := omega) only [vm, seval, H]; rfl) (.cons _ (.cons _ (List.Sublist.refl _))) ?_ (by omega) ?_).1⟩ <;> first | (simp (disch := omega) only [vm, seval, H]; done) | rfl
 simp (disch := omega) only [vm, seval, h.1]
 refine ⟨awp_drw [] (.take 0 (.take 1 (.take 2 (.take 4 (.take 5 (.take 6 (.take 7 (.alt 3 [7, 6, 5, 4] (.alt 8 [7, 6, 5, 4] (.alt 9 [] (.alt 10 [] (.done) (.stop)) (.stop)) (.stop)) (.stop))))))))) vE_mixed (by kernel_rfl) ?_⟩
 obtain ⟨H, h⟩ := h
 cases h
 simp (disch := omega) only [vm, seval, H]
 refine ⟨(hR _ _ _ _ _ _ (by simp (disch := omega) only [vm, seval, H]; rfl) (.cons _ (.cons _ (List.Sublist.refl _))) ?_ (by omega) ?_).1⟩ <;> first | (simp (disch := omega) only [vm, seval, H]; done) | rfl
 intro k2 Jk2 hk2 h
 replace h := ite_a h
 rcases h with h | h
 simp (disch := omega) only [vm, seval, h.1]
 refine ⟨hk2 true () _ _ _ _ h.2 (List.Sublist.refl _) ?_ ?_ ?_ (by omega)⟩ <;> first | (simp (disch := omega) only [vm, seval, h.1]; done) | rfl
 simp (disch := omega) only [vm, seval, h.1]
 refine ⟨hk2 (decide (a1 > (a0.length : Int))) () _ _ _ _ h.2 (List.Sublist.refl _) ?_ ?_ ?_ (by omega)⟩ <;> first | (simp (disch := omega) only [vm, seval, h.1]; done) | rfl
theorem wjson_Valid_w {a0 r} (h : wjson_Valid N a0 = some r) (ha : args = [encApiValue a0]) (hQ : ∀ n', n ≤ n' → Gl (Q (.bool r) ⟨m, n'⟩)) : ACall vE 15 args ⟨m, n⟩ Q := by
 rw [wjson_Valid] at h
 subst ha
 refine ent hQ Tryz.func15 rfl Tryz.ntmps15 Tryz.results15 (.q (.r []) (.q (.r []) .z)) fun R hR => ?_
 replace h := And.intro trivial h
 replace h := bind_a h
 obtain ⟨y1, h⟩ := h
 simp (disch := omega) only [vm, seval, h.1]
 refine ⟨ref15_Valid_w h.1.1 (by first | (simp (disch := omega) only [vm, seval, h.1]; done) | rfl) fun n2 hn2 => ?_⟩
 obtain ⟨H, h⟩ := h
 cases h
 simp (disch := omega) only [vm, seval, H]
 refine ⟨(hR _ _ _ _ _ _ (by simp (disch := omega) only [vm, seval, H]; rfl) (.cons _ (List.Sublist.refl _)) ?_ (by omega) ?_).1⟩ <;> first | (simp (disch := omega) only [vm, seval, H]; done) | rfl
end Go.Proofs.YtbmilkoebhmnnaaGreatDoor
