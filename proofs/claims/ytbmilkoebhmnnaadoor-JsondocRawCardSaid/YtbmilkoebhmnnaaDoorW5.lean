/- That the code computes these functions; written by decomp.py. -/
import Derived.Test.YtbmilkoebhmnnaaDoorVmFacts
import Derived.Test.YtbmilkoebhmnnaaDoorDefs
import Derived.Test.YtbmilkoebhmnnaaDoorVM2
import Derived.Test.YtbmilkoebhmnnaaDoorW0
import Derived.Test.YtbmilkoebhmnnaaDoorW2
import Derived.Test.YtbmilkoebhmnnaaDoorW3
import Derived.Test.YtbmilkoebhmnnaaDoorW4
set_option linter.unusedVariables false
set_option linter.unusedSimpArgs false
set_option maxHeartbeats 4000000
set_option maxRecDepth 100000
set_option linter.defProp false
namespace Go.Proofs.YtbmilkoebhmnnaaDoor
open Go.VM
variable {N n : Nat} {m : MS} {Q : PQ} {args : List AVal}
theorem number_Hex_w {a0 a1 r} (h : number_Hex N a0 a1 = some r) (ha : args = [.str a0, .int .u64 a1]) (hQ : ∀ n', n ≤ n' → Gl (Q (.tuple [.int .u64 r.1, .int .i64 r.2]) ⟨m, n'⟩)) : ACall vE 82 args ⟨m, n⟩ Q := by
 rw [number_Hex] at h
 subst ha
 refine ent hQ Tryd.func82 rfl Tryd.ntmps82 Tryd.results82 (.q (.r []) (.q (.r []) .z)) fun R hR => ?_
 replace h := And.intro trivial h
 replace h := bind_a h
 obtain ⟨y1, h⟩ := h
 simp (disch := omega) only [vm, seval, h.1]
 refine ⟨number_parse__ascii_IsHex_w h.1.1 (by first | (simp (disch := omega) only [vm, seval, h.1]; done) | rfl) fun n2 hn2 => ?_⟩
 obtain ⟨H, h⟩ := h
 cases h
 simp (disch := omega) only [vm, seval, H]
 refine ⟨(hR _ _ _ _ _ _ (by simp (disch := omega) only [vm, seval, H]; rfl) (List.Sublist.refl _) ?_ (by omega) ?_).1⟩ <;> first | (simp (disch := omega) only [vm, seval, H]; done) | rfl
theorem token_reader_number_w {a0 r} {i0 : Nat} (h : token_reader_number N a0 = some r) (ha : args = [.ptr i0 0]) (hi0 : mget m i0 = some ([.str a0.s, .int .i64 a0.at_])) (hQ : ∀ n', n ≤ n' → Gl (Q (.tuple [.str r.1, .bool r.2.1]) ⟨mset m i0 ([.str r.2.2.s, .int .i64 r.2.2.at_]), n'⟩)) : ACall vE 32 args ⟨m, n⟩ Q := by
 rw [token_reader_number] at h
 subst ha
 refine ACall.front hi0 fun hin => ent (fun n' k => ⟨_, rfl, (hQ n' k).go⟩) Tryd.func32 rfl Tryd.ntmps32 Tryd.results32 (.q (.r []) (.q (.r []) (.q (.r []) (.q .z .z)))) fun R hR => ?_
 replace h := And.intro trivial h
 replace h := bind_a h
 obtain ⟨y1, h⟩ := h
 simp (disch := omega) only [vm, seval, h.1]
 refine ⟨token_reader_take_w h.1.1 (by first | (simp (disch := omega) only [vm, seval, h.1]; done) | rfl) (i0 := i0) (by simp (disch := omega) only [vm, seval, h.1]) fun n2 hn2 => ?_⟩
 simp (disch := omega) only [vm, seval, h.1]
 refine ⟨sjoin (γ := Unit) h [13, 14, 15, 16, 17, 18, 19] [20] (fun j3 g => [.bool j3.1]) (fun j3 g => (i0, [.str j3.2.s, .int .i64 j3.2.at_]) :: mdel m i0) (.r []) ?_ ?_⟩ <;> clear h
 rintro j3 _ n6 hnn6 _ _ h
 refine wpc_snd (.c (.q (.r []) .z) .z) ?_
 replace h := ite_a h
 rcases h with h | h
 obtain ⟨H, h⟩ := h
 cases h
 simp (disch := omega) only [vm, seval, H]
 refine ⟨(hR _ _ _ _ _ _ (by simp (disch := omega) only [vm, seval, H]; rfl) (List.Sublist.refl _) ?_ (by omega) ?_).1⟩ <;> first | (simp (disch := omega) only [vm, seval, H]; done) | rfl
 simp (disch := omega) only [vm, seval, h.1]
 refine ⟨sjoin (γ := Unit) h [5, 21, 22, 23, 24, 25, 26, 27, 28, 29] [] (fun j11 g => []) (fun j11 g => (i0, [.str j11.s, .int .i64 j11.at_]) :: mdel m i0) (.q (.r []) (.q (.r []) (.c (.r []) .z))) ?_ ?_⟩ <;> clear h
 rintro j11 _ n14 hnn14 _ _ h
 refine wpc_snd .z ?_
 simp (disch := omega) only [vm, seval, h.1]
 refine ⟨sjoin (γ := Unit) h [6, 30, 31, 32, 33, 34, 35, 36, 37, 38, 39, 40] [] (fun j19 g => []) (fun j19 g => (i0, [.str j19.s, .int .i64 j19.at_]) :: mdel m i0) (.q (.r []) (.q (.r []) (.c (.q (.r []) (.r [])) .z))) ?_ ?_⟩ <;> clear h
 rintro j19 _ n22 hnn22 _ _ h
 refine wpc_snd (.q .z .z) ?_
 replace h := bind_a h
 obtain ⟨x29, h⟩ := h
 simp (disch := omega) only [vm, seval, h.1]
 refine ⟨awp_drw [] (.take 0 (.take 1 (.take 2 (.take 3 (.take 4 (.take 5 (.take 6 (.take 7 (.take 8 (.take 9 (.alt 10 [] (.alt 11 [] (.done) (.stop)) (.stop)))))))))))) vE_mixed (by kernel_rfl) ?_⟩
 obtain ⟨H, h⟩ := h
 cases h
 simp (disch := omega) only [vm, seval, H]
 refine ⟨(hR _ _ _ _ _ _ (by simp (disch := omega) only [vm, seval, H]; rfl) (List.Sublist.refl _) ?_ (by omega) ?_).1⟩ <;> first | (simp (disch := omega) only [vm, seval, H]; done) | rfl
 intro k20 Jk20 hk20 h
 replace h := bind_a h
 obtain ⟨y23, h⟩ := h
 simp (disch := omega) only [vm, seval, h.1]
 refine ⟨token_reader_take_w h.1.1 (by first | (simp (disch := omega) only [vm, seval, h.1]; done) | rfl) (i0 := i0) (by simp (disch := omega) only [vm, seval, h.1]) fun n24 hn24 => ?_⟩
 replace h := ite_a h
 rcases h with h | h
 replace h := bind_a h
 obtain ⟨y25, h⟩ := h
 simp (disch := omega) only [vm, seval, h.1]
 refine ⟨token_reader_take_w h.1.1 (by first | (simp (disch := omega) only [vm, seval, h.1]; done) | rfl) (i0 := i0) (by simp (disch := omega) only [vm, seval, h.1]) fun n26 hn26 => ?_⟩
 replace h := bind_a h
 obtain ⟨y27, h⟩ := h
 simp (disch := omega) only [vm, seval, h.1]
 refine ⟨token_reader_digits_w h.1.1 (by first | (simp (disch := omega) only [vm, seval, h.1]; done) | rfl) (i0 := i0) (by simp (disch := omega) only [vm, seval, h.1]) fun n28 hn28 => ?_⟩
 simp (disch := omega) only [vm, seval, h.1]
 refine ⟨hk20 y27 () _ _ _ _ h.2 (List.Sublist.refl _) ?_ ?_ ?_ (by omega)⟩ <;> first | (simp (disch := omega) only [vm, seval, h.1]; done) | rfl
 simp (disch := omega) only [vm, seval, h.1]
 refine ⟨hk20 y23.2 () _ _ _ _ h.2 (List.Sublist.refl _) ?_ ?_ ?_ (by omega)⟩ <;> first | (simp (disch := omega) only [vm, seval, h.1]; done) | rfl
 intro k12 Jk12 hk12 h
 replace h := bind_a h
 obtain ⟨y15, h⟩ := h
 simp (disch := omega) only [vm, seval, h.1]
 refine ⟨token_reader_take_w h.1.1 (by first | (simp (disch := omega) only [vm, seval, h.1]; done) | rfl) (i0 := i0) (by simp (disch := omega) only [vm, seval, h.1]) fun n16 hn16 => ?_⟩
 replace h := ite_a h
 rcases h with h | h
 replace h := bind_a h
 obtain ⟨y17, h⟩ := h
 simp (disch := omega) only [vm, seval, h.1]
 refine ⟨token_reader_digits_w h.1.1 (by first | (simp (disch := omega) only [vm, seval, h.1]; done) | rfl) (i0 := i0) (by simp (disch := omega) only [vm, seval, h.1]) fun n18 hn18 => ?_⟩
 simp (disch := omega) only [vm, seval, h.1]
 refine ⟨hk12 y17 () _ _ _ _ h.2 (List.Sublist.refl _) ?_ ?_ ?_ (by omega)⟩ <;> first | (simp (disch := omega) only [vm, seval, h.1]; done) | rfl
 simp (disch := omega) only [vm, seval, h.1]
 refine ⟨hk12 y15.2 () _ _ _ _ h.2 (List.Sublist.refl _) ?_ ?_ ?_ (by omega)⟩ <;> first | (simp (disch := omega) only [vm, seval, h.1]; done) | rfl
 intro k4 Jk4 hk4 h
 replace h := bind_a h
 obtain ⟨y7, h⟩ := h
 simp (disch := omega) only [vm, seval, h.1]
 refine ⟨token_reader_take_w h.1.1 (by first | (simp (disch := omega) only [vm, seval, h.1]; done) | rfl) (i0 := i0) (by simp (disch := omega) only [vm, seval, h.1]) fun n8 hn8 => ?_⟩
 replace h := ite_a h
 rcases h with h | h
 simp (disch := omega) only [vm, seval, h.1]
 refine ⟨hk4 (false, y7.2) () _ _ _ _ h.2 (List.Sublist.refl _) ?_ ?_ ?_ (by omega)⟩ <;> first | (simp (disch := omega) only [vm, seval, h.1]; done) | rfl
 replace h := bind_a h
 obtain ⟨y9, h⟩ := h
 simp (disch := omega) only [vm, seval, h.1]
 refine ⟨token_reader_while__ascii_IsDigit_w h.1.1 (by first | (simp (disch := omega) only [vm, seval, h.1]; done) | rfl) (i0 := i0) (by simp (disch := omega) only [vm, seval, h.1]) fun n10 hn10 => ?_⟩
 simp (disch := omega) only [vm, seval, h.1]
 refine ⟨hk4 ((y9.1 == []), y9.2) () _ _ _ _ h.2 (List.Sublist.refl _) ?_ ?_ ?_ (by omega)⟩ <;> first | (simp (disch := omega) only [vm, seval, h.1]; done) | rfl
theorem strings_Cut_w {a0 a1 r} (h : strings_Cut N a0 a1 = some r) (ha : args = [.str a0, .str a1]) (hQ : ∀ n', n ≤ n' → Gl (Q (.tuple [.str r.1, .str r.2.1, .bool r.2.2]) ⟨m, n'⟩)) : ACall vE 50 args ⟨m, n⟩ Q := by
 rw [strings_Cut] at h
 subst ha
 refine ent hQ Tryd.func50 rfl Tryd.ntmps50 Tryd.results50 (.q (.r []) (.q (.r []) .z)) fun R hR => ?_
 replace h := And.intro trivial h
 replace h := bind_a h
 obtain ⟨y1, h⟩ := h
 simp (disch := omega) only [vm, seval, h.1]
 refine ⟨internal_stringslite_Cut_w h.1.1 (by first | (simp (disch := omega) only [vm, seval, h.1]; done) | rfl) fun n2 hn2 => ?_⟩
 obtain ⟨H, h⟩ := h
 cases h
 simp (disch := omega) only [vm, seval, H]
 refine ⟨(hR _ _ _ _ _ _ (by simp (disch := omega) only [vm, seval, H]; rfl) (List.Sublist.refl _) ?_ (by omega) ?_).1⟩ <;> first | (simp (disch := omega) only [vm, seval, H]; done) | rfl
theorem strings_ContainsRune_w {a0 a1 r} (h : strings_ContainsRune N a0 a1 = some r) (ha : args = [.str a0, .int .i32 a1]) (hQ : ∀ n', n ≤ n' → Gl (Q (.bool r) ⟨m, n'⟩)) : ACall vE 87 args ⟨m, n⟩ Q := by
 rw [strings_ContainsRune] at h
 subst ha
 refine ent hQ Tryd.func87 rfl Tryd.ntmps87 Tryd.results87 (.q (.r []) (.q (.r []) .z)) fun R hR => ?_
 replace h := And.intro trivial h
 replace h := bind_a h
 obtain ⟨y1, h⟩ := h
 simp (disch := omega) only [vm, seval, h.1]
 refine ⟨strings_IndexRune_w h.1.1 (by first | (simp (disch := omega) only [vm, seval, h.1]; done) | rfl) fun n2 hn2 => ?_⟩
 obtain ⟨H, h⟩ := h
 cases h
 simp (disch := omega) only [vm, seval, H]
 refine ⟨(hR _ _ _ _ _ _ (by simp (disch := omega) only [vm, seval, H]; rfl) (List.Sublist.refl _) ?_ (by omega) ?_).1⟩ <;> first | (simp (disch := omega) only [vm, seval, H]; done) | rfl
theorem number_Parse_w {a0 a1 r} (h : number_Parse N a0 a1 = some r) (ha : args = [.str a0, .int .u64 a1]) (hQ : ∀ n', n ≤ n' → Gl (Q (.tuple [.int .u64 r.1, .int .i64 r.2]) ⟨m, n'⟩)) : ACall vE 73 args ⟨m, n⟩ Q := by
 rw [number_Parse] at h
 subst ha
 refine ent hQ Tryd.func73 rfl Tryd.ntmps73 Tryd.results73 (.q (.r []) (.q (.r []) .z)) fun R hR => ?_
 replace h := And.intro trivial h
 replace h := bind_a h
 obtain ⟨y1, h⟩ := h
 simp (disch := omega) only [vm, seval, h.1]
 refine ⟨number_parse__ascii_IsDigit_w h.1.1 (by first | (simp (disch := omega) only [vm, seval, h.1]; done) | rfl) fun n2 hn2 => ?_⟩
 obtain ⟨H, h⟩ := h
 cases h
 simp (disch := omega) only [vm, seval, H]
 refine ⟨(hR _ _ _ _ _ _ (by simp (disch := omega) only [vm, seval, H]; rfl) (List.Sublist.refl _) ?_ (by omega) ?_).1⟩ <;> first | (simp (disch := omega) only [vm, seval, H]; done) | rfl
end Go.Proofs.YtbmilkoebhmnnaaDoor
