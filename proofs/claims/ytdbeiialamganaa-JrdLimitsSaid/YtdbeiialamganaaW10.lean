/- That the code computes these functions; written by decomp.py. -/
import Derived.Test.YtdbeiialamganaaVmFacts
import Derived.Test.YtdbeiialamganaaDefs
import Derived.Test.YtdbeiialamganaaVM2
import Derived.Test.YtdbeiialamganaaW0
import Derived.Test.YtdbeiialamganaaW8
import Derived.Test.YtdbeiialamganaaW9
set_option linter.unusedVariables false
set_option linter.unusedSimpArgs false
set_option maxHeartbeats 4000000
set_option maxRecDepth 100000
set_option linter.defProp false
namespace Go.Proofs.Ytdbeiialamganaa
open Go.VM
variable {N n : Nat} {m : MS} {Q : PQ} {args : List AVal}
theorem ref14_Parse_w {a0 r} (h : ref14_Parse N a0 = some r) (ha : args = [.str a0]) (hQ : ∀ n', n ≤ n' → Gl (Q (.tuple [encApiValue r.1, .int .i64 r.2.1, .int .i64 r.2.2]) ⟨m, n'⟩)) : ACall vE 10 args ⟨m, n⟩ Q := by
 rw [ref14_Parse] at h
 subst ha
 refine ent_s hQ Try.func10 rfl Try.ntmps10 Try.results10 (.q (.r []) (.q (.q (.r []) (.c (.q (.r []) .z) .z)) (.q (.r []) (.q (.r []) .z)))) fun R hR => ?_
 replace h := And.intro trivial h
 replace h := ite_a h
 rcases h with h | h
 obtain ⟨H, h⟩ := h
 cases h
 simp (disch := omega) only [vm, seval, H]
 refine ⟨(hR _ _ _ _ _ _ (by simp (disch := omega) only [vm, seval, H]; rfl) (.cons _ (List.Sublist.refl _)) ?_ (by omega) ?_).1⟩ <;> first | (simp (disch := omega) only [vm, seval, H]; done) | rfl
 replace h := bind_a h
 obtain ⟨y1, h⟩ := h
 simp (disch := omega) only [vm, seval, h.1]
 refine ⟨ref14_parser_next_w h.1.1 (by first | (simp (disch := omega) only [vm, seval, h.1]; done) | rfl) (i0 := (n + 1)) (by simp (disch := omega) only [vm, seval, h.1]) fun n2 hn2 => ?_⟩
 replace h := bind_a h
 obtain ⟨y3, h⟩ := h
 simp (disch := omega) only [vm, seval, h.1]
 refine ⟨ref14_parser_value_w h.1.1 (by first | (simp (disch := omega) only [vm, seval, h.1]; done) | rfl) (i0 := (n + 1)) (by simp (disch := omega) only [vm, seval, h.1]) fun n4 hn4 => ?_⟩
 simp (disch := omega) only [vm, seval, h.1]
 refine ⟨sjoin (γ := Unit) h [7, 19, 20, 21, 22, 23, 24, 25, 26, 27, 28, 29, 30, 31, 32, 33, 34] [] (fun j5 g => []) (fun j5 g => (n4, [.int .i64 y3.1.kind, .str y3.1.text, .slice 1 (List.map AVal.str y3.1.keys) false, .slice 4 (List.map encApiValue y3.1.items) false]) :: ((n + 1), [.str j5.s, .int .i64 j5.at_, .int .i64 j5.nodes, .int .i64 j5.fail, .int .i64 j5.where_]) :: (n, [.int .i64 0, .str [], .slice 1 (List.map AVal.str []) true, .slice 4 (List.map encApiValue []) true]) :: m) (.q (.r []) .z) ?_ ?_⟩ <;> clear h
 rintro j5 _ n8 hnn8 _ _ h
 refine wpc_snd (.q (.q (.r []) (.c (.q .z .z) .z)) (.q (.r []) .z)) ?_
 replace h := ite_a h
 rcases h with h | h
 simp (disch := omega) only [vm, seval, h.1]
 refine ⟨awp_drw [] (.take 1 (.take 2 (.take 3 (.take 4 (.take 5 (.take 6 (.take 7 (.take 8 (.alt 0 [8, 7, 6, 5, 4, 3, 2, 1] (.alt 9 [8, 7, 6, 5, 4, 3, 2, 1] (.alt 10 [8, 7, 6, 5] (.alt 11 [] (.done) (.stop)) (.stop)) (.stop)) (.stop)))))))))) vE_mixed (by kernel_rfl) ?_⟩
 obtain ⟨H, h⟩ := h
 cases h
 simp (disch := omega) only [vm, seval, H]
 refine ⟨(hR _ _ _ _ _ _ (by simp (disch := omega) only [vm, seval, H]; rfl) (.cons _ (.cons _ (.cons _ (List.Sublist.refl _)))) ?_ (by omega) ?_).1⟩ <;> first | (simp (disch := omega) only [vm, seval, H]; done) | rfl
 obtain ⟨H, h⟩ := h
 cases h
 simp (disch := omega) only [vm, seval, H]
 refine ⟨(hR _ _ _ _ _ _ (by simp (disch := omega) only [vm, seval, H]; rfl) (.cons _ (.cons _ (.cons _ (List.Sublist.refl _)))) ?_ (by omega) ?_).1⟩ <;> first | (simp (disch := omega) only [vm, seval, H]; done) | rfl
 intro k6 Jk6 hk6 h
 replace h := bind_a h
 obtain ⟨y9, h⟩ := h
 simp (disch := omega) only [vm, seval, h.1]
 refine ⟨ref14_parser_next_w h.1.1 (by first | (simp (disch := omega) only [vm, seval, h.1]; done) | rfl) (i0 := (n + 1)) (by simp (disch := omega) only [vm, seval, h.1]) fun n10 hn10 => ?_⟩
 simp (disch := omega) only [vm, seval, h.1]
 refine ⟨sjoin (γ := Unit) h [21, 22, 23, 24, 25, 26, 27, 28, 29] [30] (fun j11 g => [.bool j11]) (fun j11 g => (n10, [.int .i64 y9.1.kind, .str y9.1.text, .int .i64 y9.1.at_]) :: (n4, [.int .i64 y3.1.kind, .str y3.1.text, .slice 1 (List.map AVal.str y3.1.keys) false, .slice 4 (List.map encApiValue y3.1.items) false]) :: ((n + 1), [.str y9.2.s, .int .i64 y9.2.at_, .int .i64 y9.2.nodes, .int .i64 y9.2.fail, .int .i64 y9.2.where_]) :: (n, [.int .i64 0, .str [], .slice 1 (List.map AVal.str []) true, .slice 4 (List.map encApiValue []) true]) :: m) (.r []) ?_ ?_⟩ <;> clear h
 rintro j11 _ n14 hnn14 _ _ h
 refine wpc_snd (.c (.r []) .z) ?_
 replace h := ite_a h
 rcases h with h | h
 replace h := bind_a h
 obtain ⟨y15, h⟩ := h
 simp (disch := omega) only [vm, seval, h.1]
 refine ⟨ref14_parser_stop_w h.1.1 (by first | (simp (disch := omega) only [vm, seval, h.1]; done) | rfl) (i0 := (n + 1)) (by simp (disch := omega) only [vm, seval, h.1]) fun n16 hn16 => ?_⟩
 simp (disch := omega) only [vm, seval, h.1]
 refine ⟨hk6 y15 () _ _ _ _ h.2 (.cons _ (List.Sublist.refl _)) ?_ ?_ ?_ (by omega)⟩ <;> first | (simp (disch := omega) only [vm, seval, h.1]; done) | rfl
 simp (disch := omega) only [vm, seval, h.1]
 refine ⟨hk6 y9.2 () _ _ _ _ h.2 (.cons _ (List.Sublist.refl _)) ?_ ?_ ?_ (by omega)⟩ <;> first | (simp (disch := omega) only [vm, seval, h.1]; done) | rfl
 intro k12 Jk12 hk12 h
 replace h := ite_a h
 rcases h with h | h
 simp (disch := omega) only [vm, seval, h.1]
 refine ⟨hk12 (y9.1.kind != 1) () _ _ _ _ h.2 (List.Sublist.refl _) ?_ ?_ ?_ (by omega)⟩ <;> first | (simp (disch := omega) only [vm, seval, h.1]; done) | rfl
 simp (disch := omega) only [vm, seval, h.1]
 refine ⟨hk12 false () _ _ _ _ h.2 (List.Sublist.refl _) ?_ ?_ ?_ (by omega)⟩ <;> first | (simp (disch := omega) only [vm, seval, h.1]; done) | rfl
end Go.Proofs.Ytdbeiialamganaa
