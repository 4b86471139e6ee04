/- That the code computes these functions; written by decomp.py. -/
import Derived.Test.YtdbeiialamganaaVmFacts
import Derived.Test.YtdbeiialamganaaDefs
import Derived.Test.YtdbeiialamganaaVM2
import Derived.Test.YtdbeiialamganaaW1
import Derived.Test.YtdbeiialamganaaW4
set_option linter.unusedVariables false
set_option linter.unusedSimpArgs false
set_option maxHeartbeats 4000000
set_option maxRecDepth 100000
set_option linter.defProp false
namespace Go.Proofs.Ytdbeiialamganaa
open Go.VM
variable {N n : Nat} {m : MS} {Q : PQ} {args : List AVal}
theorem ref13_escape_w {a0 a1 r} (h : ref13_escape N a0 a1 = some r) (ha : args = [.str a0, .int .i64 a1]) (hQ : ∀ n', n ≤ n' → Gl (Q (.tuple [.str r.1, .int .i64 r.2.1, .int .i64 r.2.2]) ⟨m, n'⟩)) : ACall vE 66 args ⟨m, n⟩ Q := by
 rw [ref13_escape] at h
 subst ha
 refine ent hQ Try.func66 rfl Try.ntmps66 Try.results66 (.q (.r []) .z) fun R hR => ?_
 replace h := And.intro trivial h
 simp (disch := omega) only [vm, seval, h.1]
 refine ⟨sjoin (γ := Unit) h [4, 5, 6, 7, 15, 16, 17, 18, 19, 20, 21, 22, 23, 24, 25, 26, 27, 28, 29, 30, 31, 32, 33, 34, 35, 36] [] (fun j1 g => []) (fun j1 g => m) (.q (.r []) (.c (.q (.r []) .z) .z)) ?_ ?_⟩ <;> clear h
 rintro j1 _ n4 hnn4 _ _ h
 refine wpc_snd (.q (.r []) (.q (.q (.r []) (.c (.q (.r []) .z) .z)) (.q .z (.q (.r []) (.q .z (.q (.r []) (.q (.r []) .z))))))) ?_
 replace h := bind_a h
 obtain ⟨y9, h⟩ := h
 simp (disch := omega) only [vm, seval, h.1]
 refine ⟨ref13_unit_w h.1.1 (by first | (simp (disch := omega) only [vm, seval, h.1]; done) | rfl) fun n10 hn10 => ?_⟩
 replace h := ite_a h
 rcases h with h | h
 simp (disch := omega) only [vm, seval, h.1]
 refine ⟨sjoin (γ := Unit) h [45, 46, 47, 48, 49] [50] (fun j11 g => [.bool j11]) (fun j11 g => m) (.r []) ?_ ?_⟩ <;> clear h
 rintro j11 _ n14 hnn14 _ _ h
 refine wpc_snd (.c (.q (.r []) (.q (.r []) .z)) .z) ?_
 replace h := ite_a h
 rcases h with h | h
 replace h := bind_a h
 obtain ⟨y15, h⟩ := h
 simp (disch := omega) only [vm, seval, h.1]
 refine ⟨ref02_Encode_w h.1.1 (by first | (simp (disch := omega) only [vm, seval, h.1]; done) | rfl) fun n16 hn16 => ?_⟩
 obtain ⟨H, h⟩ := h
 cases h
 simp (disch := omega) only [vm, seval, H]
 refine ⟨(hR _ _ _ _ _ _ (by simp (disch := omega) only [vm, seval, H]; rfl) (List.Sublist.refl _) ?_ (by omega) ?_).1⟩ <;> first | (simp (disch := omega) only [vm, seval, H]; done) | rfl
 replace h := bind_a h
 obtain ⟨y17, h⟩ := h
 simp (disch := omega) only [vm, seval, h.1]
 refine ⟨ref13_unit_w h.1.1 (by first | (simp (disch := omega) only [vm, seval, h.1]; done) | rfl) fun n18 hn18 => ?_⟩
 simp (disch := omega) only [vm, seval, h.1]
 refine ⟨sjoin (γ := Unit) h [66, 67, 68, 69, 70, 71, 72, 73, 74, 75, 76, 77, 78] [79] (fun j19 g => [.bool j19]) (fun j19 g => m) (.r []) ?_ ?_⟩ <;> clear h
 rintro j19 _ n22 hnn22 _ _ h
 refine wpc_snd (.c (.q (.r []) .z) .z) ?_
 replace h := ite_a h
 rcases h with h | h
 obtain ⟨H, h⟩ := h
 cases h
 simp (disch := omega) only [vm, seval, H]
 refine ⟨(hR _ _ _ _ _ _ (by simp (disch := omega) only [vm, seval, H]; rfl) (List.Sublist.refl _) ?_ (by omega) ?_).1⟩ <;> first | (simp (disch := omega) only [vm, seval, H]; done) | rfl
 replace h := bind_a h
 obtain ⟨y23, h⟩ := h
 simp (disch := omega) only [vm, seval, h.1]
 refine ⟨ref02_Encode_w h.1.1 (by first | (simp (disch := omega) only [vm, seval, h.1]; done) | rfl) fun n24 hn24 => ?_⟩
 obtain ⟨H, h⟩ := h
 cases h
 simp (disch := omega) only [vm, seval, H]
 refine ⟨(hR _ _ _ _ _ _ (by simp (disch := omega) only [vm, seval, H]; rfl) (List.Sublist.refl _) ?_ (by omega) ?_).1⟩ <;> first | (simp (disch := omega) only [vm, seval, H]; done) | rfl
 intro k20 Jk20 hk20 h
 replace h := ite_a h
 rcases h with h | h
 simp (disch := omega) only [vm, seval, h.1]
 refine ⟨hk20 true () _ _ _ _ h.2 (List.Sublist.refl _) ?_ ?_ ?_ (by omega)⟩ <;> first | (simp (disch := omega) only [vm, seval, h.1]; done) | rfl
 replace h := ite_a h
 rcases h with h | h
 replace h := ite_a h
 rcases h with h | h
 simp (disch := omega) only [vm, seval, h.1]
 refine ⟨hk20 true () _ _ _ _ h.2 (List.Sublist.refl _) ?_ ?_ ?_ (by omega)⟩ <;> first | (simp (disch := omega) only [vm, seval, h.1]; done) | rfl
 simp (disch := omega) only [vm, seval, h.1]
 refine ⟨hk20 (decide (y17.1 > 57343)) () _ _ _ _ h.2 (List.Sublist.refl _) ?_ ?_ ?_ (by omega)⟩ <;> first | (simp (disch := omega) only [vm, seval, h.1]; done) | rfl
 simp (disch := omega) only [vm, seval, h.1]
 refine ⟨hk20 true () _ _ _ _ h.2 (List.Sublist.refl _) ?_ ?_ ?_ (by omega)⟩ <;> first | (simp (disch := omega) only [vm, seval, h.1]; done) | rfl
 intro k12 Jk12 hk12 h
 replace h := ite_a h
 rcases h with h | h
 simp (disch := omega) only [vm, seval, h.1]
 refine ⟨hk12 true () _ _ _ _ h.2 (List.Sublist.refl _) ?_ ?_ ?_ (by omega)⟩ <;> first | (simp (disch := omega) only [vm, seval, h.1]; done) | rfl
 simp (disch := omega) only [vm, seval, h.1]
 refine ⟨hk12 (decide (y9.1 > 57343)) () _ _ _ _ h.2 (List.Sublist.refl _) ?_ ?_ ?_ (by omega)⟩ <;> first | (simp (disch := omega) only [vm, seval, h.1]; done) | rfl
 obtain ⟨H, h⟩ := h
 cases h
 simp (disch := omega) only [vm, seval, H]
 refine ⟨(hR _ _ _ _ _ _ (by simp (disch := omega) only [vm, seval, H]; rfl) (List.Sublist.refl _) ?_ (by omega) ?_).1⟩ <;> first | (simp (disch := omega) only [vm, seval, H]; done) | rfl
 intro k2 Jk2 hk2 h
 replace h := ite_a h
 rcases h with h | h
 simp (disch := omega) only [vm, seval, h.1]
 refine ⟨sloop (σ := Nat) (γ := Unit) (fun k s => ref13_escape_L1 N a0 a1 k2 k s) (fun s g => [.iter ([34, 92, 47, 98, 102, 110, 114, 116] : List UInt8) s]) (fun s g => m) [4, 5, 6, 7, 21, 22, 23, 24, 25, 26, 27, 28, 29, 30, 31, 32, 33, 34, 35, 36] [20] 0 () h (fun _ => rfl) (by first | (simp (disch := omega) only [vm, seval, h.1]; done) | rfl) (by first | (simp (disch := omega) only [vm, seval, h.1]; done) | rfl) ?_⟩
 clear h
 rintro k5 s20 _ nL0_1 hnL0_1 _ h Jk5 hk5
 change _ ∧ ref13_escape_L1 N a0 a1 k2 (k5 + 1) s20 = _ at h
 rw [ref13_escape_L1] at h
 refine wpc_snd (.q (.r []) (.q (.c .z .z) (.q (.r []) (.q .z (.c (.q (.r []) .z) .z))))) ?_
 replace h := ite_a h
 rcases h with h | h
 replace h := bind_a h
 obtain ⟨x6, h⟩ := h
 replace h := bind_a h
 obtain ⟨x7, h⟩ := h
 simp (disch := omega) only [vm, seval, h.1]
 refine ⟨awp_drw [] (.take 0 (.take 1 (.take 2 (.take 3 (.take 4 (.take 5 (.take 6 (.done)))))))) vE_mixed (by kernel_rfl) ?_⟩
 replace h := ite_a h
 rcases h with h | h
 replace h := bind_a h
 obtain ⟨x8, h⟩ := h
 obtain ⟨H, h⟩ := h
 cases h
 simp (disch := omega) only [vm, seval, H]
 refine ⟨(hR _ _ _ _ _ _ (by simp (disch := omega) only [vm, seval, H]; rfl) (List.Sublist.refl _) ?_ (by omega) ?_).1⟩ <;> first | (simp (disch := omega) only [vm, seval, H]; done) | rfl
 simp (disch := omega) only [vm, seval, h.1]
 refine ⟨hk5 (s20 + (decodeAt ([34, 92, 47, 98, 102, 110, 114, 116] : List UInt8) s20).2) () _ _ _ _ h.2 (List.Sublist.refl _) ?_ ?_ ?_ (by omega)⟩ <;> first | (simp (disch := omega) only [vm, seval, h.1]; done) | rfl
 simp (disch := omega) only [vm, seval, h.1]
 refine ⟨hk2 () () _ _ _ _ h.2 (List.Sublist.refl _) ?_ ?_ ?_ (by omega)⟩ <;> first | (simp (disch := omega) only [vm, seval, h.1]; done) | rfl
 simp (disch := omega) only [vm, seval, h.1]
 refine ⟨hk2 () () _ _ _ _ h.2 (List.Sublist.refl _) ?_ ?_ ?_ (by omega)⟩ <;> first | (simp (disch := omega) only [vm, seval, h.1]; done) | rfl
end Go.Proofs.Ytdbeiialamganaa
