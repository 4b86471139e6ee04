/- That the code computes these functions; written by decomp.py. -/
import Derived.Test.YtbmilkoebhmnnaaGreatDoorVmFacts
import Derived.Test.YtbmilkoebhmnnaaGreatDoorDefs
import Derived.Test.YtbmilkoebhmnnaaGreatDoorVM2
import Derived.Test.YtbmilkoebhmnnaaGreatDoorW0
import Derived.Test.YtbmilkoebhmnnaaGreatDoorW1
import Derived.Test.YtbmilkoebhmnnaaGreatDoorW3
import Derived.Test.YtbmilkoebhmnnaaGreatDoorW4
import Derived.Test.YtbmilkoebhmnnaaGreatDoorW9
import Derived.Test.YtbmilkoebhmnnaaGreatDoorW10
set_option linter.unusedVariables false
set_option linter.unusedSimpArgs false
set_option maxHeartbeats 4000000
set_option maxRecDepth 100000
set_option linter.defProp false
namespace Go.Proofs.YtbmilkoebhmnnaaGreatDoor
open Go.VM
variable {N n : Nat} {m : MS} {Q : PQ} {args : List AVal}
theorem token_Next_w {a0 a1 r} (h : token_Next N a0 a1 = some r) (ha : args = [.str a0, .int .i64 a1]) (hQ : ∀ n', n ≤ n' → Gl (Q (.tuple [encApiToken r.1, .int .i64 r.2.1, .int .i64 r.2.2]) ⟨m, n'⟩)) : ACall vE 19 args ⟨m, n⟩ Q := by
 rw [token_Next] at h
 subst ha
 refine ent hQ Tryz.func19 rfl Tryz.ntmps19 Tryz.results19 (.q (.r []) (.q .z (.q (.r []) (.q (.r []) (.q (.r []) (.q (.r []) (.q (.q (.r []) (.c (.q (.r []) .z) .z)) (.q .z .z)))))))) fun R hR => ?_
 replace h := And.intro trivial h
 simp (disch := omega) only [vm, seval, h.1]
 refine ⟨sjoin (γ := Unit) h [12, 13, 14, 15, 16, 17, 18] [19] (fun j1 g => [.bool j1]) (fun j1 g => (n, [.int .i64 0, .str [], .int .i64 0]) :: m) (.r []) ?_ ?_⟩ <;> clear h
 rintro j1 _ n4 hnn4 _ _ h
 refine wpc_snd (.c (.q (.r []) .z) .z) ?_
 replace h := ite_a h
 rcases h with h | h
 obtain ⟨H, h⟩ := h
 cases h
 simp (disch := omega) only [vm, seval, H]
 refine ⟨(hR _ _ _ _ _ _ (by simp (disch := omega) only [vm, seval, H]; rfl) (.cons _ (List.Sublist.refl _)) ?_ (by omega) ?_).1⟩ <;> first | (simp (disch := omega) only [vm, seval, H]; done) | rfl
 replace h := bind_a h
 obtain ⟨y5, h⟩ := h
 simp (disch := omega) only [vm, seval, h.1]
 refine ⟨token_reader_while__token_space_w h.1.1 (by first | (simp (disch := omega) only [vm, seval, h.1]; done) | rfl) (i0 := n4) (by simp (disch := omega) only [vm, seval, h.1]) fun n6 hn6 => ?_⟩
 replace h := bind_a h
 obtain ⟨y7, h⟩ := h
 simp (disch := omega) only [vm, seval, h.1]
 refine ⟨token_reader_token_w h.1.1 (by first | (simp (disch := omega) only [vm, seval, h.1]; done) | rfl) (i0 := n4) (by simp (disch := omega) only [vm, seval, h.1]) fun n8 hn8 => ?_⟩
 replace h := ite_a h
 rcases h with h | h
 obtain ⟨H, h⟩ := h
 cases h
 simp (disch := omega) only [vm, seval, H]
 refine ⟨(hR _ _ _ _ _ _ (by simp (disch := omega) only [vm, seval, H]; rfl) (.cons _ (.cons _ (List.Sublist.refl _))) ?_ (by omega) ?_).1⟩ <;> first | (simp (disch := omega) only [vm, seval, H]; done) | rfl
 simp (disch := omega) only [vm, seval, h.1]
 refine ⟨awp_drw [] (.take 0 (.take 1 (.take 2 (.take 4 (.take 5 (.take 6 (.take 7 (.alt 3 [7, 6, 5, 4] (.alt 8 [7, 6, 5, 4] (.alt 9 [] (.alt 10 [] (.done) (.stop)) (.stop)) (.stop)) (.stop))))))))) vE_mixed (by kernel_rfl) ?_⟩
 obtain ⟨H, h⟩ := h
 cases h
 simp (disch := omega) only [vm, seval, H]
 refine ⟨(hR _ _ _ _ _ _ (by simp (disch := omega) only [vm, seval, H]; rfl) (.cons _ (.cons _ (List.Sublist.refl _))) ?_ (by omega) ?_).1⟩ <;> first | (simp (disch := omega) only [vm, seval, H]; done) | rfl
 intro k2 Jk2 hk2 h
 replace h := ite_a h
 rcases h with h | h
 simp (disch := omega) only [vm, seval, h.1]
 refine ⟨hk2 true () _ _ _ _ h.2 (List.Sublist.refl _) ?_ ?_ ?_ (by omega)⟩ <;> first | (simp (disch := omega) only [vm, seval, h.1]; done) | rfl
 simp (disch := omega) only [vm, seval, h.1]
 refine ⟨hk2 (decide (a1 > (a0.length : Int))) () _ _ _ _ h.2 (List.Sublist.refl _) ?_ ?_ ?_ (by omega)⟩ <;> first | (simp (disch := omega) only [vm, seval, h.1]; done) | rfl
theorem ref14_parser_next_w {a0 r} {i0 : Nat} (h : ref14_parser_next N a0 = some r) (ha : args = [.ptr i0 0]) (hi0 : mget m i0 = some ([.str a0.s, .int .i64 a0.at_, .int .i64 a0.nodes, .int .i64 a0.fail, .int .i64 a0.where_])) (hQ : ∀ n', n ≤ n' → Gl (Q (encApiToken r.1) ⟨mset m i0 ([.str r.2.s, .int .i64 r.2.at_, .int .i64 r.2.nodes, .int .i64 r.2.fail, .int .i64 r.2.where_]), n'⟩)) : ACall vE 22 args ⟨m, n⟩ Q := by
 rw [ref14_parser_next] at h
 subst ha
 refine ACall.front hi0 fun hin => ent (fun n' k => ⟨_, rfl, (hQ n' k).go⟩) Tryz.func22 rfl Tryz.ntmps22 Tryz.results22 (.q (.r []) (.q (.q (.r []) (.c (.q (.r []) .z) .z)) .z)) fun R hR => ?_
 replace h := And.intro trivial h
 replace h := ite_a h
 rcases h with h | h
 obtain ⟨H, h⟩ := h
 cases h
 simp (disch := omega) only [vm, seval, H]
 refine ⟨(hR _ _ _ _ _ _ (by simp (disch := omega) only [vm, seval, H]; rfl) (.cons _ (List.Sublist.refl _)) ?_ (by omega) ?_).1⟩ <;> first | (simp (disch := omega) only [vm, seval, H]; done) | rfl
 · simp (disch := omega) only [vm, seval, h.1]
   refine ⟨sjoin (γ := Nat) h [12, 13, 14, 15, 16, 17, 18, 19, 20, 21, 22, 23, 24] [3, 4, 5] (fun j2 g => [.ptr g 0, .int .i64 j2.1, .int .i64 j2.2.1]) (fun j2 g => (g, [.int .i64 j2.2.2.kind, .str j2.2.2.text, .int .i64 j2.2.2.at_]) :: (n, [.int .i64 0, .str [], .int .i64 0]) :: (i0, [.str a0.s, .int .i64 a0.at_, .int .i64 a0.nodes, .int .i64 a0.fail, .int .i64 a0.where_]) :: mdel m i0) .z ?_ ?_⟩ <;> clear h
   rintro j2 q1 n5 hnn5 hk hd h
   simp only [List.map_cons, List.nodup_cons, List.mem_cons, not_or] at hd
   try dsimp only at hk
   obtain ⟨hu10, hk⟩ := keysLt_cons hk
   obtain ⟨hu11, hk⟩ := keysLt_cons hk
   obtain ⟨hu12, hk⟩ := keysLt_cons hk
   clear hk
   refine wpc_snd (.q (.q (.r []) (.c (.q (.r []) (.q (.r []) .z)) .z)) (.q (.r []) (.q (.r []) .z))) ?_
   replace h := ite_a h
   rcases h with h | h
   replace h := bind_a h
   obtain ⟨y8, h⟩ := h
   simp (disch := omega) only [vm, seval, h.1]
   refine ⟨ref14_parser_stop_w h.1.1 (by first | (simp (disch := omega) only [vm, seval, h.1]; done) | rfl) (i0 := i0) (by simp (disch := omega) only [vm, seval, h.1]) fun n9 hn9 => ?_⟩
   obtain ⟨H, h⟩ := h
   cases h
   simp (disch := omega) only [vm, seval, H]
   refine ⟨(hR _ _ _ _ _ _ (by simp (disch := omega) only [vm, seval, H]; rfl) (.cons _ (.cons _ (List.Sublist.refl _))) ?_ (by omega) ?_).1⟩ <;> first | (simp (disch := omega) only [vm, seval, H]; done) | rfl
   obtain ⟨H, h⟩ := h
   cases h
   simp (disch := omega) only [vm, seval, H]
   refine ⟨(hR _ _ _ _ _ _ (by simp (disch := omega) only [vm, seval, H]; rfl) (.cons _ (.cons _ (List.Sublist.refl _))) ?_ (by omega) ?_).1⟩ <;> first | (simp (disch := omega) only [vm, seval, H]; done) | rfl
   · intro k3 Jk3 hk3 h
     replace h := bind_a h
     obtain ⟨y6, h⟩ := h
     have cy6 := h.1.1
     simp (disch := omega) only [vm, seval, h.1]
     refine ⟨awp_drw [] (.take 0 (.take 1 (.take 2 (.take 3 (.take 4 (.take 5 (.take 6 (.take 7 (.alt 8 [6, 5, 4, 2, 1, 0] (.take 9 (.alt 10 [7, 6, 5, 4, 3, 2, 1, 0] (.alt 11 [7, 6, 5, 4, 3, 2, 1, 0] (.alt 12 [7, 6, 5, 4, 3, 2, 1, 0] (.alt 13 [9, 7, 6, 5, 4, 3, 2, 1, 0] (.alt 14 [] (.alt 15 [] (.alt 16 [] (.done) (.stop)) (.stop)) (.stop)) (.stop)) (.alt 13 [9, 7, 6, 5, 4, 3, 2, 1, 0] (.alt 12 [7, 6, 5, 4, 3, 2, 1, 0] (.alt 14 [] (.alt 15 [] (.alt 16 [] (.done) (.stop)) (.stop)) (.stop)) (.alt 14 [] (.alt 12 [7, 6, 5, 4, 3, 2, 1, 0] (.alt 15 [] (.alt 16 [] (.done) (.stop)) (.stop)) (.alt 15 [] (.alt 12 [7, 6, 5, 4, 3, 2, 1, 0] (.alt 16 [] (.done) (.stop)) (.stop)) (.stop))) (.stop))) (.stop))) (.alt 12 [7, 6, 5, 4, 3, 2, 1, 0] (.alt 11 [7, 6, 5, 4, 3, 2, 1, 0] (.alt 13 [9, 7, 6, 5, 4, 3, 2, 1, 0] (.alt 14 [] (.alt 15 [] (.alt 16 [] (.done) (.stop)) (.stop)) (.stop)) (.stop)) (.alt 13 [9, 7, 6, 5, 4, 3, 2, 1, 0] (.alt 11 [7, 6, 5, 4, 3, 2, 1, 0] (.alt 14 [] (.alt 15 [] (.alt 16 [] (.done) (.stop)) (.stop)) (.stop)) (.alt 14 [] (.alt 11 [7, 6, 5, 4, 3, 2, 1, 0] (.alt 15 [] (.alt 16 [] (.done) (.stop)) (.stop)) (.stop)) (.stop))) (.stop))) (.alt 13 [9, 7, 6, 5, 4, 3, 2, 1, 0] (.alt 11 [7, 6, 5, 4, 3, 2, 1, 0] (.alt 12 [7, 6, 5, 4, 3, 2, 1, 0] (.alt 14 [] (.alt 15 [] (.alt 16 [] (.done) (.stop)) (.stop)) (.stop)) (.alt 14 [] (.alt 12 [7, 6, 5, 4, 3, 2, 1, 0] (.alt 15 [] (.alt 16 [] (.done) (.stop)) (.stop)) (.alt 15 [] (.alt 12 [7, 6, 5, 4, 3, 2, 1, 0] (.alt 16 [] (.done) (.stop)) (.stop)) (.stop))) (.stop))) (.alt 12 [7, 6, 5, 4, 3, 2, 1, 0] (.alt 11 [7, 6, 5, 4, 3, 2, 1, 0] (.alt 14 [] (.alt 15 [] (.alt 16 [] (.done) (.stop)) (.stop)) (.stop)) (.alt 14 [] (.alt 11 [7, 6, 5, 4, 3, 2, 1, 0] (.alt 15 [] (.alt 16 [] (.done) (.stop)) (.stop)) (.stop)) (.stop))) (.alt 14 [] (.alt 11 [7, 6, 5, 4, 3, 2, 1, 0] (.alt 12 [7, 6, 5, 4, 3, 2, 1, 0] (.alt 15 [] (.alt 16 [] (.done) (.stop)) (.stop)) (.alt 15 [] (.alt 12 [7, 6, 5, 4, 3, 2, 1, 0] (.alt 16 [] (.done) (.stop)) (.stop)) (.stop))) (.alt 12 [7, 6, 5, 4, 3, 2, 1, 0] (.alt 11 [7, 6, 5, 4, 3, 2, 1, 0] (.alt 15 [] (.alt 16 [] (.done) (.stop)) (.stop)) (.stop)) (.stop))) (.stop)))) (.stop)))) (.alt 11 [7, 6, 5, 4, 3, 2, 1, 0] (.alt 10 [7, 6, 5, 4, 3, 2, 1, 0] (.alt 12 [7, 6, 5, 4, 3, 2, 1, 0] (.alt 13 [9, 7, 6, 5, 4, 3, 2, 1, 0] (.alt 14 [] (.alt 15 [] (.alt 16 [] (.done) (.stop)) (.stop)) (.stop)) (.stop)) (.alt 13 [9, 7, 6, 5, 4, 3, 2, 1, 0] (.alt 12 [7, 6, 5, 4, 3, 2, 1, 0] (.alt 14 [] (.alt 15 [] (.alt 16 [] (.done) (.stop)) (.stop)) (.stop)) (.alt 14 [] (.alt 12 [7, 6, 5, 4, 3, 2, 1, 0] (.alt 15 [] (.alt 16 [] (.done) (.stop)) (.stop)) (.alt 15 [] (.alt 12 [7, 6, 5, 4, 3, 2, 1, 0] (.alt 16 [] (.done) (.stop)) (.stop)) (.stop))) (.stop))) (.stop))) (.alt 12 [7, 6, 5, 4, 3, 2, 1, 0] (.alt 10 [7, 6, 5, 4, 3, 2, 1, 0] (.alt 13 [9, 7, 6, 5, 4, 3, 2, 1, 0] (.alt 14 [] (.alt 15 [] (.alt 16 [] (.done) (.stop)) (.stop)) (.stop)) (.stop)) (.alt 13 [9, 7, 6, 5, 4, 3, 2, 1, 0] (.alt 10 [7, 6, 5, 4, 3, 2, 1, 0] (.alt 14 [] (.alt 15 [] (.alt 16 [] (.done) (.stop)) (.stop)) (.stop)) (.stop)) (.stop))) (.alt 13 [9, 7, 6, 5, 4, 3, 2, 1, 0] (.alt 10 [7, 6, 5, 4, 3, 2, 1, 0] (.alt 12 [7, 6, 5, 4, 3, 2, 1, 0] (.alt 14 [] (.alt 15 [] (.alt 16 [] (.done) (.stop)) (.stop)) (.stop)) (.alt 14 [] (.alt 12 [7, 6, 5, 4, 3, 2, 1, 0] (.alt 15 [] (.alt 16 [] (.done) (.stop)) (.stop)) (.alt 15 [] (.alt 12 [7, 6, 5, 4, 3, 2, 1, 0] (.alt 16 [] (.done) (.stop)) (.stop)) (.stop))) (.stop))) (.alt 12 [7, 6, 5, 4, 3, 2, 1, 0] (.alt 10 [7, 6, 5, 4, 3, 2, 1, 0] (.alt 14 [] (.alt 15 [] (.alt 16 [] (.done) (.stop)) (.stop)) (.stop)) (.stop)) (.stop))) (.stop)))) (.alt 12 [7, 6, 5, 4, 3, 2, 1, 0] (.alt 10 [7, 6, 5, 4, 3, 2, 1, 0] (.alt 11 [7, 6, 5, 4, 3, 2, 1, 0] (.alt 13 [9, 7, 6, 5, 4, 3, 2, 1, 0] (.alt 14 [] (.alt 15 [] (.alt 16 [] (.done) (.stop)) (.stop)) (.stop)) (.stop)) (.alt 13 [9, 7, 6, 5, 4, 3, 2, 1, 0] (.alt 11 [7, 6, 5, 4, 3, 2, 1, 0] (.alt 14 [] (.alt 15 [] (.alt 16 [] (.done) (.stop)) (.stop)) (.stop)) (.alt 14 [] (.alt 11 [7, 6, 5, 4, 3, 2, 1, 0] (.alt 15 [] (.alt 16 [] (.done) (.stop)) (.stop)) (.stop)) (.stop))) (.stop))) (.alt 11 [7, 6, 5, 4, 3, 2, 1, 0] (.alt 10 [7, 6, 5, 4, 3, 2, 1, 0] (.alt 13 [9, 7, 6, 5, 4, 3, 2, 1, 0] (.alt 14 [] (.alt 15 [] (.alt 16 [] (.done) (.stop)) (.stop)) (.stop)) (.stop)) (.alt 13 [9, 7, 6, 5, 4, 3, 2, 1, 0] (.alt 10 [7, 6, 5, 4, 3, 2, 1, 0] (.alt 14 [] (.alt 15 [] (.alt 16 [] (.done) (.stop)) (.stop)) (.stop)) (.stop)) (.stop))) (.alt 13 [9, 7, 6, 5, 4, 3, 2, 1, 0] (.alt 10 [7, 6, 5, 4, 3, 2, 1, 0] (.alt 11 [7, 6, 5, 4, 3, 2, 1, 0] (.alt 14 [] (.alt 15 [] (.alt 16 [] (.done) (.stop)) (.stop)) (.stop)) (.alt 14 [] (.alt 11 [7, 6, 5, 4, 3, 2, 1, 0] (.alt 15 [] (.alt 16 [] (.done) (.stop)) (.stop)) (.stop)) (.stop))) (.alt 11 [7, 6, 5, 4, 3, 2, 1, 0] (.alt 10 [7, 6, 5, 4, 3, 2, 1, 0] (.alt 14 [] (.alt 15 [] (.alt 16 [] (.done) (.stop)) (.stop)) (.stop)) (.stop)) (.stop))) (.stop)))) (.alt 13 [9, 7, 6, 5, 4, 3, 2, 1, 0] (.alt 10 [7, 6, 5, 4, 3, 2, 1, 0] (.alt 11 [7, 6, 5, 4, 3, 2, 1, 0] (.alt 12 [7, 6, 5, 4, 3, 2, 1, 0] (.alt 14 [] (.alt 15 [] (.alt 16 [] (.done) (.stop)) (.stop)) (.stop)) (.alt 14 [] (.alt 12 [7, 6, 5, 4, 3, 2, 1, 0] (.alt 15 [] (.alt 16 [] (.done) (.stop)) (.stop)) (.alt 15 [] (.alt 12 [7, 6, 5, 4, 3, 2, 1, 0] (.alt 16 [] (.done) (.stop)) (.stop)) (.stop))) (.stop))) (.alt 12 [7, 6, 5, 4, 3, 2, 1, 0] (.alt 11 [7, 6, 5, 4, 3, 2, 1, 0] (.alt 14 [] (.alt 15 [] (.alt 16 [] (.done) (.stop)) (.stop)) (.stop)) (.alt 14 [] (.alt 11 [7, 6, 5, 4, 3, 2, 1, 0] (.alt 15 [] (.alt 16 [] (.done) (.stop)) (.stop)) (.stop)) (.stop))) (.alt 14 [] (.alt 11 [7, 6, 5, 4, 3, 2, 1, 0] (.alt 12 [7, 6, 5, 4, 3, 2, 1, 0] (.alt 15 [] (.alt 16 [] (.done) (.stop)) (.stop)) (.alt 15 [] (.alt 12 [7, 6, 5, 4, 3, 2, 1, 0] (.alt 16 [] (.done) (.stop)) (.stop)) (.stop))) (.alt 12 [7, 6, 5, 4, 3, 2, 1, 0] (.alt 11 [7, 6, 5, 4, 3, 2, 1, 0] (.alt 15 [] (.alt 16 [] (.done) (.stop)) (.stop)) (.stop)) (.stop))) (.stop)))) (.alt 11 [7, 6, 5, 4, 3, 2, 1, 0] (.alt 10 [7, 6, 5, 4, 3, 2, 1, 0] (.alt 12 [7, 6, 5, 4, 3, 2, 1, 0] (.alt 14 [] (.alt 15 [] (.alt 16 [] (.done) (.stop)) (.stop)) (.stop)) (.alt 14 [] (.alt 12 [7, 6, 5, 4, 3, 2, 1, 0] (.alt 15 [] (.alt 16 [] (.done) (.stop)) (.stop)) (.alt 15 [] (.alt 12 [7, 6, 5, 4, 3, 2, 1, 0] (.alt 16 [] (.done) (.stop)) (.stop)) (.stop))) (.stop))) (.alt 12 [7, 6, 5, 4, 3, 2, 1, 0] (.alt 10 [7, 6, 5, 4, 3, 2, 1, 0] (.alt 14 [] (.alt 15 [] (.alt 16 [] (.done) (.stop)) (.stop)) (.stop)) (.stop)) (.stop))) (.alt 12 [7, 6, 5, 4, 3, 2, 1, 0] (.alt 10 [7, 6, 5, 4, 3, 2, 1, 0] (.alt 11 [7, 6, 5, 4, 3, 2, 1, 0] (.alt 14 [] (.alt 15 [] (.alt 16 [] (.done) (.stop)) (.stop)) (.stop)) (.alt 14 [] (.alt 11 [7, 6, 5, 4, 3, 2, 1, 0] (.alt 15 [] (.alt 16 [] (.done) (.stop)) (.stop)) (.stop)) (.stop))) (.alt 11 [7, 6, 5, 4, 3, 2, 1, 0] (.alt 10 [7, 6, 5, 4, 3, 2, 1, 0] (.alt 14 [] (.alt 15 [] (.alt 16 [] (.done) (.stop)) (.stop)) (.stop)) (.stop)) (.stop))) (.stop)))) (.stop)))))) (.alt 13 [7, 6, 5, 4, 3, 2, 1, 0] (.alt 8 [6, 5, 4, 2, 1, 0] (.take 9 (.alt 10 [7, 6, 5, 4, 3, 2, 1, 0] (.alt 11 [7, 6, 5, 4, 3, 2, 1, 0] (.alt 12 [7, 6, 5, 4, 3, 2, 1, 0] (.alt 14 [] (.alt 15 [] (.alt 16 [] (.done) (.stop)) (.stop)) (.stop)) (.alt 14 [] (.alt 12 [7, 6, 5, 4, 3, 2, 1, 0] (.alt 15 [] (.alt 16 [] (.done) (.stop)) (.stop)) (.alt 15 [] (.alt 12 [7, 6, 5, 4, 3, 2, 1, 0] (.alt 16 [] (.done) (.stop)) (.stop)) (.stop))) (.stop))) (.alt 12 [7, 6, 5, 4, 3, 2, 1, 0] (.alt 11 [7, 6, 5, 4, 3, 2, 1, 0] (.alt 14 [] (.alt 15 [] (.alt 16 [] (.done) (.stop)) (.stop)) (.stop)) (.alt 14 [] (.alt 11 [7, 6, 5, 4, 3, 2, 1, 0] (.alt 15 [] (.alt 16 [] (.done) (.stop)) (.stop)) (.stop)) (.stop))) (.alt 14 [] (.alt 11 [7, 6, 5, 4, 3, 2, 1, 0] (.alt 12 [7, 6, 5, 4, 3, 2, 1, 0] (.alt 15 [] (.alt 16 [] (.done) (.stop)) (.stop)) (.alt 15 [] (.alt 12 [7, 6, 5, 4, 3, 2, 1, 0] (.alt 16 [] (.done) (.stop)) (.stop)) (.stop))) (.alt 12 [7, 6, 5, 4, 3, 2, 1, 0] (.alt 11 [7, 6, 5, 4, 3, 2, 1, 0] (.alt 15 [] (.alt 16 [] (.done) (.stop)) (.stop)) (.stop)) (.stop))) (.stop)))) (.alt 11 [7, 6, 5, 4, 3, 2, 1, 0] (.alt 10 [7, 6, 5, 4, 3, 2, 1, 0] (.alt 12 [7, 6, 5, 4, 3, 2, 1, 0] (.alt 14 [] (.alt 15 [] (.alt 16 [] (.done) (.stop)) (.stop)) (.stop)) (.alt 14 [] (.alt 12 [7, 6, 5, 4, 3, 2, 1, 0] (.alt 15 [] (.alt 16 [] (.done) (.stop)) (.stop)) (.alt 15 [] (.alt 12 [7, 6, 5, 4, 3, 2, 1, 0] (.alt 16 [] (.done) (.stop)) (.stop)) (.stop))) (.stop))) (.alt 12 [7, 6, 5, 4, 3, 2, 1, 0] (.alt 10 [7, 6, 5, 4, 3, 2, 1, 0] (.alt 14 [] (.alt 15 [] (.alt 16 [] (.done) (.stop)) (.stop)) (.stop)) (.stop)) (.stop))) (.alt 12 [7, 6, 5, 4, 3, 2, 1, 0] (.alt 10 [7, 6, 5, 4, 3, 2, 1, 0] (.alt 11 [7, 6, 5, 4, 3, 2, 1, 0] (.alt 14 [] (.alt 15 [] (.alt 16 [] (.done) (.stop)) (.stop)) (.stop)) (.alt 14 [] (.alt 11 [7, 6, 5, 4, 3, 2, 1, 0] (.alt 15 [] (.alt 16 [] (.done) (.stop)) (.stop)) (.stop)) (.stop))) (.alt 11 [7, 6, 5, 4, 3, 2, 1, 0] (.alt 10 [7, 6, 5, 4, 3, 2, 1, 0] (.alt 14 [] (.alt 15 [] (.alt 16 [] (.done) (.stop)) (.stop)) (.stop)) (.stop)) (.stop))) (.stop))))) (.stop)) (.stop))))))))))) vE_mixed (by kernel_rfl) ?_⟩
     all_goals
      simp (disch := omega) only [vm, seval, h.1]
      repeat' refine Gl_and ?_ ?_
      all_goals
       refine ⟨ref13_Next_w cy6 (by first | (simp (disch := omega) only [vm, seval, h.1]; done) | rfl) fun n7 hn7 => ?_⟩
       simp (disch := omega) only [vm, seval, h.1]
       exact ⟨hk3 (y6.2.1, y6.2.2, y6.1) _ _ _ _ _ h.2 (List.Sublist.refl _) (by first | (simp (disch := omega) only [vm, seval, h.1]; done) | (simp (disch := omega) only [vm, seval, h.1]; rfl) | rfl) (by first | (simp (disch := omega) only [vm, seval, h.1]; done) | rfl) (by first | (simp (disch := omega) only [vm, seval, h.1]; done) | rfl) (by omega)⟩
end Go.Proofs.YtbmilkoebhmnnaaGreatDoor
