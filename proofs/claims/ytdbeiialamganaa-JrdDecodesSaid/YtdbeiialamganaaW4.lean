/- That the code computes these functions; written by decomp.py. -/
import Derived.Test.YtdbeiialamganaaVmFacts
import Derived.Test.YtdbeiialamganaaDefs
import Derived.Test.YtdbeiialamganaaVM2
import Derived.Test.YtdbeiialamganaaW0
import Derived.Test.YtdbeiialamganaaW1
import Derived.Test.YtdbeiialamganaaW2
set_option linter.unusedVariables false
set_option linter.unusedSimpArgs false
set_option maxHeartbeats 4000000
set_option maxRecDepth 100000
set_option linter.defProp false
namespace Go.Proofs.Ytdbeiialamganaa
open Go.VM
variable {N n : Nat} {m : MS} {Q : PQ} {args : List AVal}
theorem ref16_Encode_w {a0 r} (h : ref16_Encode N a0 = some r) (ha : args = [encApiJRD a0]) (hQ : ∀ n', n ≤ n' → Gl (Q (encApiValue r) ⟨m, n'⟩)) : ACall vE 15 args ⟨m, n⟩ Q := by
 rw [ref16_Encode] at h
 subst ha
 refine ent hQ Try.func15 rfl Try.ntmps15 Try.results15 (.q (.r []) (.q (.r []) .z)) fun R hR => ?_
 replace h := And.intro trivial h
 replace h := bind_a h
 obtain ⟨y1, h⟩ := h
 simp (disch := omega) only [vm, seval, h.1]
 refine ⟨ref16_some_w h.1.1 (by first | (simp (disch := omega) only [vm, seval, h.1]; done) | rfl) fun n2 hn2 => ?_⟩
 simp (disch := omega) only [vm, seval, h.1]
 refine ⟨sjoin (γ := Unit) h [12, 13, 14, 15, 16, 17, 18, 19, 20] [] (fun j3 g => []) (fun j3 g => (n2, [.int .i64 j3.kind, .str j3.text, .slice 1 (List.map AVal.str j3.keys) false, .slice 4 (List.map encApiValue j3.items) false]) :: ((n + 1), [.int .i64 0, .str [], .slice 1 (List.map AVal.str []) true, .slice 4 (List.map encApiValue []) true]) :: (n, [.str a0.subject, .slice 1 (List.map AVal.str a0.aliases) false, .slice 3 (List.map encApiProperty a0.properties) false, .slice 6 (List.map encApiLink a0.links) false]) :: m) (.q (.r []) (.c .z .z)) ?_ ?_⟩ <;> clear h
 rintro j3 _ n6 hnn6 _ _ h
 refine wpc_snd (.q (.r []) (.q (.q (.r []) (.c (.q (.r []) .z) .z)) (.q (.r []) .z))) ?_
 replace h := bind_a h
 obtain ⟨y11, h⟩ := h
 simp (disch := omega) only [vm, seval, h.1]
 refine ⟨ref16_members_w h.1.1 (by first | (simp (disch := omega) only [vm, seval, h.1]; done) | rfl) fun n12 hn12 => ?_⟩
 replace h := ite_a h
 rcases h with h | h
 obtain ⟨H, h⟩ := h
 cases h
 simp (disch := omega) only [vm, seval, H]
 refine ⟨(hR _ _ _ _ _ _ (by simp (disch := omega) only [vm, seval, H]; rfl) (.cons _ (.cons _ (.cons _ (List.Sublist.refl _)))) ?_ (by omega) ?_).1⟩ <;> first | (simp (disch := omega) only [vm, seval, H]; done) | rfl
 simp (disch := omega) only [vm, seval, h.1]
 refine ⟨sjoin (γ := Unit) h [6, 7, 31, 32, 33, 34, 35, 36, 37, 38, 39, 40, 41, 42, 43, 44, 45, 46, 47, 48, 49, 50, 51, 52, 53, 54, 55, 56, 57, 58, 59, 60, 61, 62, 63, 64, 65, 66] [] (fun j13 g => []) (fun j13 g => (n12, [.int .i64 6, .str [], .slice 1 (List.map AVal.str []) true, .slice 4 (List.map encApiValue j13) true]) :: (n2, [.int .i64 y11.kind, .str y11.text, .slice 1 (List.map AVal.str y11.keys) false, .slice 4 (List.map encApiValue y11.items) false]) :: ((n + 1), [.int .i64 0, .str [], .slice 1 (List.map AVal.str []) true, .slice 4 (List.map encApiValue []) true]) :: (n, [.str a0.subject, .slice 1 (List.map AVal.str a0.aliases) false, .slice 3 (List.map encApiProperty a0.properties) false, .slice 6 (List.map encApiLink a0.links) false]) :: m) (.q (.r []) .z) ?_ ?_⟩ <;> clear h
 rintro j13 _ n16 hnn16 _ _ h
 refine wpc_snd (.q (.r []) .z) ?_
 replace h := bind_a h
 obtain ⟨y32, h⟩ := h
 simp (disch := omega) only [vm, seval, h.1]
 refine ⟨ref16_with_w h.1.1 (by first | (simp (disch := omega) only [vm, seval, h.1]; done) | rfl) fun n33 hn33 => ?_⟩
 obtain ⟨H, h⟩ := h
 cases h
 simp (disch := omega) only [vm, seval, H]
 refine ⟨(hR _ _ _ _ _ _ (by simp (disch := omega) only [vm, seval, H]; rfl) (.cons _ (.cons _ (.cons _ (.cons _ (List.Sublist.refl _))))) ?_ (by omega) ?_).1⟩ <;> first | (simp (disch := omega) only [vm, seval, H]; done) | rfl
 intro k14 Jk14 hk14 h
 replace h := grd_a h
 obtain ⟨hfk17, h⟩ := h
 simp (disch := omega) only [vm, seval, h.1]
 refine ⟨sloopr (σ := (List ApiValue)) (γ := Unit) a0.links hfk17 (fun xs i s => ref16_Encode_L1 N k14 xs s) (fun i s g => [.int .i64 i]) (fun i s g => (n12, [.int .i64 6, .str [], .slice 1 (List.map AVal.str []) true, .slice 4 (List.map encApiValue s) true]) :: (n2, [.int .i64 y11.kind, .str y11.text, .slice 1 (List.map AVal.str y11.keys) false, .slice 4 (List.map encApiValue y11.items) false]) :: ((n + 1), [.int .i64 0, .str [], .slice 1 (List.map AVal.str []) true, .slice 4 (List.map encApiValue []) true]) :: (n, [.str a0.subject, .slice 1 (List.map AVal.str a0.aliases) false, .slice 3 (List.map encApiProperty a0.properties) false, .slice 6 (List.map encApiLink a0.links) false]) :: m) [6, 7, 35, 36, 37, 38, 39, 40, 41, 42, 43, 44, 45, 46, 47, 48, 49, 50, 51, 52, 53, 54, 55, 56, 57, 58, 59, 60, 61, 62, 63, 64, 65, 66] [34] [] () h (by first | (simp (disch := omega) only [vm, seval, h.1]; done) | rfl) (by first | (simp (disch := omega) only [vm, seval, h.1]; done) | rfl) ?_ ?_⟩ <;> clear h
 rintro s34 bn12_items _ nL0_1 hnL0_1 _ h
 change _ ∧ ref16_Encode_L1 N k14 [] bn12_items = _ at h
 rw [ref16_Encode_L1] at h
 refine wpc_snd (.q (.r []) (.q (.c .z .z) (.q (.q (.r []) (.q (.r []) (.q .z (.q .z (.r [61]))))) (.r [])))) ?_
 simp (disch := omega) only [vm, seval, h.1]
 refine ⟨hk14 bn12_items () _ _ _ _ h.2 (List.Sublist.refl _) ?_ ?_ ?_ (by omega)⟩ <;> first | (simp (disch := omega) only [vm, seval, h.1]; done) | rfl
 rintro xk17 xsk17 s34 bn12_items _ nL0_1 hnL0_1 _ h Jk17 hk17
 change _ ∧ ref16_Encode_L1 N k14 (xk17 :: xsk17) bn12_items = _ at h
 rw [ref16_Encode_L1] at h
 refine wpc_snd (.q (.r []) (.q (.c .z .z) (.q (.q (.r []) (.q (.r []) (.q .z (.q .z (.r [61]))))) (.r [])))) ?_
 replace h := bind_a h
 obtain ⟨y18, h⟩ := h
 simp (disch := omega) only [vm, seval, h.1]
 refine ⟨ref16_Text_w h.1.1 (by first | (simp (disch := omega) only [vm, seval, h.1]; done) | rfl) fun n19 hn19 => ?_⟩
 replace h := bind_a h
 obtain ⟨y20, h⟩ := h
 simp (disch := omega) only [vm, seval, h.1]
 refine ⟨ref16_with_w h.1.1 (by first | (simp (disch := omega) only [vm, seval, h.1]; done) | rfl) fun n21 hn21 => ?_⟩
 replace h := bind_a h
 obtain ⟨y22, h⟩ := h
 have cy22 := h.1.1
 replace h := bind_a h
 obtain ⟨y24, h⟩ := h
 have cy24 := h.1.1
 replace h := bind_a h
 obtain ⟨y26, h⟩ := h
 have cy26 := h.1.1
 simp (disch := omega) only [vm, seval, h.1]
 refine ⟨awp_drw [] (.take 0 (.take 1 (.take 2 (.take 4 (.take 5 (.take 7 (.take 8 (.alt 3 [8, 7, 5, 4, 1] (.alt 6 [8, 7, 4, 2, 1, 0] (.alt 9 [7, 5, 4, 2, 1, 0] (.alt 10 [] (.done) (.stop)) (.stop)) (.stop)) (.stop))))))))) vE_mixed (by kernel_rfl) ?_⟩
 simp (disch := omega) only [vm, seval, h.1]
 refine ⟨ref16_some_w cy22 (by first | (simp (disch := omega) only [vm, seval, h.1]; done) | rfl) fun n23 hn23 => ?_⟩
 simp (disch := omega) only [vm, seval, h.1]
 refine ⟨ref16_some_w cy24 (by first | (simp (disch := omega) only [vm, seval, h.1]; done) | rfl) fun n25 hn25 => ?_⟩
 simp (disch := omega) only [vm, seval, h.1]
 refine ⟨ref16_some_w cy26 (by first | (simp (disch := omega) only [vm, seval, h.1]; done) | rfl) fun n27 hn27 => ?_⟩
 replace h := bind_a h
 obtain ⟨y28, h⟩ := h
 have cy28 := h.1.1
 replace h := bind_a h
 obtain ⟨y30, h⟩ := h
 have cy30 := h.1.1
 simp (disch := omega) only [vm, seval, h.1]
 refine ⟨awp_drw [] (.take 0 (.take 1 (.take 2 (.take 4 (.take 5 (.alt 3 [5, 4, 1] (.alt 6 [4, 2, 1, 0] (.alt 7 [] (.done) (.stop)) (.stop)) (.stop))))))) vE_mixed (by kernel_rfl) ?_⟩
 simp (disch := omega) only [vm, seval, h.1]
 refine ⟨ref16_members_w cy28 (by first | (simp (disch := omega) only [vm, seval, h.1]; done) | rfl) fun n29 hn29 => ?_⟩
 simp (disch := omega) only [vm, seval, h.1]
 refine ⟨ref16_members_w cy30 (by first | (simp (disch := omega) only [vm, seval, h.1]; done) | rfl) fun n31 hn31 => ?_⟩
 replace h := grd_a h
 obtain ⟨c, h⟩ := h
 try simp only [liE, seval] at c
 replace h := and_in c h
 simp (disch := omega) only [vm, seval, h.1]
 refine ⟨hk17 (bn12_items ++ [y30]) () _ _ _ _ h.2 (.cons _ (.cons _ (List.Sublist.refl _))) ?_ ?_ ?_ (by omega)⟩ <;> first | (simp (disch := omega) only [vm, seval, h.1]; done) | rfl
 intro k4 Jk4 hk4 h
 replace h := ite_a h
 rcases h with h | h
 replace h := bind_a h
 obtain ⟨y7, h⟩ := h
 have cy7 := h.1.1
 replace h := bind_a h
 obtain ⟨y9, h⟩ := h
 have cy9 := h.1.1
 simp (disch := omega) only [vm, seval, h.1]
 refine ⟨awp_drw [] (.take 0 (.take 1 (.take 2 (.alt 3 [1, 0] (.alt 4 [2, 1] (.alt 5 [] (.done) (.stop)) (.stop)) (.stop))))) vE_mixed (by kernel_rfl) ?_⟩
 simp (disch := omega) only [vm, seval, h.1]
 refine ⟨ref16_Array_w cy7 (by first | (simp (disch := omega) only [vm, seval, h.1]; done) | rfl) fun n8 hn8 => ?_⟩
 simp (disch := omega) only [vm, seval, h.1]
 refine ⟨ref16_with_w cy9 (by first | (simp (disch := omega) only [vm, seval, h.1]; done) | rfl) fun n10 hn10 => ?_⟩
 simp (disch := omega) only [vm, seval, h.1]
 refine ⟨hk4 y9 () _ _ _ _ h.2 (List.Sublist.refl _) ?_ ?_ ?_ (by omega)⟩ <;> first | (simp (disch := omega) only [vm, seval, h.1]; done) | rfl
 simp (disch := omega) only [vm, seval, h.1]
 refine ⟨hk4 y1 () _ _ _ _ h.2 (List.Sublist.refl _) ?_ ?_ ?_ (by omega)⟩ <;> first | (simp (disch := omega) only [vm, seval, h.1]; done) | rfl
theorem jrd_Encode_w {a0 r} (h : jrd_Encode N a0 = some r) (ha : args = [encApiJRD a0]) (hQ : ∀ n', n ≤ n' → Gl (Q (encApiValue r) ⟨m, n'⟩)) : ACall vE 20 args ⟨m, n⟩ Q := by
 rw [jrd_Encode] at h
 subst ha
 refine ent hQ Try.func20 rfl Try.ntmps20 Try.results20 (.q (.r []) (.q (.r []) (.q (.r []) (.q (.r []) .z)))) fun R hR => ?_
 replace h := And.intro trivial h
 replace h := bind_a h
 obtain ⟨y1, h⟩ := h
 simp (disch := omega) only [vm, seval, h.1]
 refine ⟨jrd_object_text_w h.1.1 (by first | (simp (disch := omega) only [vm, seval, h.1]; done) | rfl) (i0 := (n + 2)) (by simp (disch := omega) only [vm, seval, h.1]) fun n2 hn2 => ?_⟩
 simp (disch := omega) only [vm, seval, h.1]
 refine ⟨sjoin (γ := Unit) h [7, 16, 17, 18, 19, 20, 21, 22, 23, 24, 25, 26, 27, 28] [4] (fun j3 g => [.slice 4 (List.map encApiValue j3) true]) (fun j3 g => ((n + 2), [.int .i64 y1.value.kind, .str y1.value.text, .slice 1 (List.map AVal.str y1.value.keys) true, .slice 4 (List.map encApiValue y1.value.items) true]) :: ((n + 1), [.int .i64 0, .str [], .slice 1 (List.map AVal.str []) true, .slice 4 (List.map encApiValue []) true]) :: (n, [.str a0.subject, .slice 1 (List.map AVal.str a0.aliases) false, .slice 3 (List.map encApiProperty a0.properties) false, .slice 6 (List.map encApiLink a0.links) false]) :: m) (.q (.r []) .z) ?_ ?_⟩ <;> clear h
 rintro j3 _ n6 hnn6 _ _ h
 refine wpc_snd (.q (.r []) (.q (.r []) .z)) ?_
 replace h := bind_a h
 obtain ⟨y8, h⟩ := h
 simp (disch := omega) only [vm, seval, h.1]
 refine ⟨jrd_object_list_w h.1.1 (by first | (simp (disch := omega) only [vm, seval, h.1]; done) | rfl) (i0 := (n + 2)) (by simp (disch := omega) only [vm, seval, h.1]) fun n9 hn9 => ?_⟩
 replace h := bind_a h
 obtain ⟨y10, h⟩ := h
 simp (disch := omega) only [vm, seval, h.1]
 refine ⟨jrd_object_properties_w h.1.1 (by first | (simp (disch := omega) only [vm, seval, h.1]; done) | rfl) (i0 := (n + 2)) (by simp (disch := omega) only [vm, seval, h.1]) fun n11 hn11 => ?_⟩
 simp (disch := omega) only [vm, seval, h.1]
 refine ⟨sjoin (γ := Unit) h [9, 10, 34, 35, 36, 37, 38, 39, 40, 41, 42, 43, 44, 45, 46, 47, 48, 49, 50, 51, 52, 53, 54, 55, 56, 57, 58, 59, 60, 61, 62, 63, 64, 65, 66, 67] [5] (fun j12 g => [.slice 4 (List.map encApiValue j12) true]) (fun j12 g => ((n + 2), [.int .i64 y10.value.kind, .str y10.value.text, .slice 1 (List.map AVal.str y10.value.keys) true, .slice 4 (List.map encApiValue y10.value.items) true]) :: ((n + 1), [.int .i64 0, .str [], .slice 1 (List.map AVal.str []) true, .slice 4 (List.map encApiValue []) true]) :: (n, [.str a0.subject, .slice 1 (List.map AVal.str a0.aliases) false, .slice 3 (List.map encApiProperty a0.properties) false, .slice 6 (List.map encApiLink a0.links) false]) :: m) (.q (.r []) .z) ?_ ?_⟩ <;> clear h
 rintro j12 _ n15 hnn15 _ _ h
 refine wpc_snd (.q (.r []) (.q (.r []) .z)) ?_
 replace h := bind_a h
 obtain ⟨y29, h⟩ := h
 simp (disch := omega) only [vm, seval, h.1]
 refine ⟨jrd_object_list_w h.1.1 (by first | (simp (disch := omega) only [vm, seval, h.1]; done) | rfl) (i0 := (n + 2)) (by simp (disch := omega) only [vm, seval, h.1]) fun n30 hn30 => ?_⟩
 obtain ⟨H, h⟩ := h
 cases h
 simp (disch := omega) only [vm, seval, H]
 refine ⟨(hR _ _ _ _ _ _ (by simp (disch := omega) only [vm, seval, H]; rfl) (.cons _ (.cons _ (.cons _ (List.Sublist.refl _)))) ?_ (by omega) ?_).1⟩ <;> first | (simp (disch := omega) only [vm, seval, H]; done) | rfl
 intro k13 Jk13 hk13 h
 replace h := grd_a h
 obtain ⟨hfk16, h⟩ := h
 simp (disch := omega) only [vm, seval, h.1]
 refine ⟨sloopr (σ := (List ApiValue)) (γ := Unit) a0.links hfk16 (fun xs i s => jrd_Encode_L2 N k13 xs s) (fun i s g => [.slice 4 (List.map encApiValue s) true, .int .i64 i]) (fun i s g => ((n + 2), [.int .i64 y10.value.kind, .str y10.value.text, .slice 1 (List.map AVal.str y10.value.keys) true, .slice 4 (List.map encApiValue y10.value.items) true]) :: ((n + 1), [.int .i64 0, .str [], .slice 1 (List.map AVal.str []) true, .slice 4 (List.map encApiValue []) true]) :: (n, [.str a0.subject, .slice 1 (List.map AVal.str a0.aliases) false, .slice 3 (List.map encApiProperty a0.properties) false, .slice 6 (List.map encApiLink a0.links) false]) :: m) [9, 10, 38, 39, 40, 41, 42, 43, 44, 45, 46, 47, 48, 49, 50, 51, 52, 53, 54, 55, 56, 57, 58, 59, 60, 61, 62, 63, 64, 65, 66, 67] [5, 37] [] () h (by first | (simp (disch := omega) only [vm, seval, h.1]; done) | rfl) (by first | (simp (disch := omega) only [vm, seval, h.1]; done) | rfl) ?_ ?_⟩ <;> clear h
 rintro s37 s5 _ nL1_1 hnL1_1 _ h
 change _ ∧ jrd_Encode_L2 N k13 [] s5 = _ at h
 rw [jrd_Encode_L2] at h
 refine wpc_snd (.q (.r []) (.q (.c .z .z) (.q (.q (.r []) (.q (.r []) (.q (.r []) (.q (.r []) (.q (.r []) (.q (.r []) (.q (.r []) (.q (.r []) (.r [62]))))))))) (.r [])))) ?_
 simp (disch := omega) only [vm, seval, h.1]
 refine ⟨hk13 s5 () _ _ _ _ h.2 (List.Sublist.refl _) ?_ ?_ ?_ (by omega)⟩ <;> first | (simp (disch := omega) only [vm, seval, h.1]; done) | rfl
 rintro xk16 xsk16 s37 s5 _ nL1_1 hnL1_1 _ h Jk16 hk16
 change _ ∧ jrd_Encode_L2 N k13 (xk16 :: xsk16) s5 = _ at h
 rw [jrd_Encode_L2] at h
 refine wpc_snd (.q (.r []) (.q (.c .z .z) (.q (.q (.r []) (.q (.r []) (.q (.r []) (.q (.r []) (.q (.r []) (.q (.r []) (.q (.r []) (.q (.r []) (.r [62]))))))))) (.r [])))) ?_
 replace h := bind_a h
 obtain ⟨y17, h⟩ := h
 simp (disch := omega) only [vm, seval, h.1]
 refine ⟨jrd_object_add_w h.1.1 (by first | (simp (disch := omega) only [vm, seval, h.1]; done) | rfl) (i0 := (nL1_1 + 1)) (by simp (disch := omega) only [vm, seval, h.1]) fun n18 hn18 => ?_⟩
 replace h := bind_a h
 obtain ⟨y19, h⟩ := h
 simp (disch := omega) only [vm, seval, h.1]
 refine ⟨jrd_object_text_w h.1.1 (by first | (simp (disch := omega) only [vm, seval, h.1]; done) | rfl) (i0 := (nL1_1 + 1)) (by simp (disch := omega) only [vm, seval, h.1]) fun n20 hn20 => ?_⟩
 replace h := bind_a h
 obtain ⟨y21, h⟩ := h
 simp (disch := omega) only [vm, seval, h.1]
 refine ⟨jrd_object_text_w h.1.1 (by first | (simp (disch := omega) only [vm, seval, h.1]; done) | rfl) (i0 := (nL1_1 + 1)) (by simp (disch := omega) only [vm, seval, h.1]) fun n22 hn22 => ?_⟩
 replace h := bind_a h
 obtain ⟨y23, h⟩ := h
 simp (disch := omega) only [vm, seval, h.1]
 refine ⟨jrd_object_text_w h.1.1 (by first | (simp (disch := omega) only [vm, seval, h.1]; done) | rfl) (i0 := (nL1_1 + 1)) (by simp (disch := omega) only [vm, seval, h.1]) fun n24 hn24 => ?_⟩
 replace h := bind_a h
 obtain ⟨y25, h⟩ := h
 simp (disch := omega) only [vm, seval, h.1]
 refine ⟨jrd_object_properties_w h.1.1 (by first | (simp (disch := omega) only [vm, seval, h.1]; done) | rfl) (i0 := (nL1_1 + 1)) (by simp (disch := omega) only [vm, seval, h.1]) fun n26 hn26 => ?_⟩
 replace h := bind_a h
 obtain ⟨y27, h⟩ := h
 simp (disch := omega) only [vm, seval, h.1]
 refine ⟨jrd_object_properties_w h.1.1 (by first | (simp (disch := omega) only [vm, seval, h.1]; done) | rfl) (i0 := (nL1_1 + 1)) (by simp (disch := omega) only [vm, seval, h.1]) fun n28 hn28 => ?_⟩
 replace h := grd_a h
 obtain ⟨c, h⟩ := h
 try simp only [liE, seval] at c
 replace h := and_in c h
 simp (disch := omega) only [vm, seval, h.1]
 refine ⟨hk16 (s5 ++ [y27.value]) () _ _ _ _ h.2 (.cons _ (.cons _ (List.Sublist.refl _))) ?_ ?_ ?_ (by omega)⟩ <;> first | (simp (disch := omega) only [vm, seval, h.1]; done) | rfl
 intro k4 Jk4 hk4 h
 replace h := grd_a h
 obtain ⟨hfk7, h⟩ := h
 simp (disch := omega) only [vm, seval, h.1]
 refine ⟨sloopr (σ := (List ApiValue)) (γ := Unit) a0.aliases hfk7 (fun xs i s => jrd_Encode_L1 N k4 xs s) (fun i s g => [.slice 4 (List.map encApiValue s) true, .int .i64 i]) (fun i s g => ((n + 2), [.int .i64 y1.value.kind, .str y1.value.text, .slice 1 (List.map AVal.str y1.value.keys) true, .slice 4 (List.map encApiValue y1.value.items) true]) :: ((n + 1), [.int .i64 0, .str [], .slice 1 (List.map AVal.str []) true, .slice 4 (List.map encApiValue []) true]) :: (n, [.str a0.subject, .slice 1 (List.map AVal.str a0.aliases) false, .slice 3 (List.map encApiProperty a0.properties) false, .slice 6 (List.map encApiLink a0.links) false]) :: m) [7, 20, 21, 22, 23, 24, 25, 26, 27, 28] [4, 19] [] () h (by first | (simp (disch := omega) only [vm, seval, h.1]; done) | rfl) (by first | (simp (disch := omega) only [vm, seval, h.1]; done) | rfl) ?_ ?_⟩ <;> clear h
 rintro s19 s4 _ nL0_1 hnL0_1 _ h
 change _ ∧ jrd_Encode_L1 N k4 [] s4 = _ at h
 rw [jrd_Encode_L1] at h
 refine wpc_snd (.q (.r []) (.q (.c .z .z) (.q (.q (.r []) (.r [23])) (.r [])))) ?_
 simp (disch := omega) only [vm, seval, h.1]
 refine ⟨hk4 s4 () _ _ _ _ h.2 (List.Sublist.refl _) ?_ ?_ ?_ (by omega)⟩ <;> first | (simp (disch := omega) only [vm, seval, h.1]; done) | rfl
 rintro xk7 xsk7 s19 s4 _ nL0_1 hnL0_1 _ h Jk7 hk7
 change _ ∧ jrd_Encode_L1 N k4 (xk7 :: xsk7) s4 = _ at h
 rw [jrd_Encode_L1] at h
 refine wpc_snd (.q (.r []) (.q (.c .z .z) (.q (.q (.r []) (.r [23])) (.r [])))) ?_
 replace h := grd_a h
 obtain ⟨c, h⟩ := h
 try simp only [liE, seval] at c
 replace h := and_in c h
 simp (disch := omega) only [vm, seval, h.1]
 refine ⟨hk7 (s4 ++ [(ApiValue.mk 5 xk7 [] [])]) () _ _ _ _ h.2 (List.Sublist.refl _) ?_ ?_ ?_ (by omega)⟩ <;> first | (simp (disch := omega) only [vm, seval, h.1]; done) | rfl
end Go.Proofs.Ytdbeiialamganaa
