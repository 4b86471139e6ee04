/- That the code computes these functions; written by decomp.py. -/
import Derived.Test.YtdbeiialamganaaVmFacts
import Derived.Test.YtdbeiialamganaaDefs
import Derived.Test.YtdbeiialamganaaVM2
import Derived.Test.YtdbeiialamganaaW0
import Derived.Test.YtdbeiialamganaaW1
import Derived.Test.YtdbeiialamganaaW2
set_option linter.unusedVariables false
set_option linter.unusedSimpArgs false
set_option maxHeartbeats 4000000
set_option maxRecDepth 100000
set_option linter.defProp false
namespace Go.Proofs.Ytdbeiialamganaa
open Go.VM
variable {N n : Nat} {m : MS} {Q : PQ} {args : List AVal}
theorem ref13_Number_w {a0 r} (h : ref13_Number N a0 = some r) (ha : args = [.str a0]) (hQ : ∀ n', n ≤ n' → Gl (Q (.tuple [.str r.1, .int .i64 r.2]) ⟨m, n'⟩)) : ACall vE 46 args ⟨m, n⟩ Q := by
 rw [ref13_Number] at h
 subst ha
 refine ent hQ Try.func46 rfl Try.ntmps46 Try.results46 (.q (.r []) (.q .z (.q (.r []) .z))) fun R hR => ?_
 replace h := And.intro trivial h
 simp (disch := omega) only [vm, seval, h.1]
 refine ⟨sjoin (γ := Unit) h [9, 10, 11, 12, 13, 14, 15, 16] [17] (fun j1 g => [.bool j1]) (fun j1 g => m) (.r []) ?_ ?_⟩ <;> clear h
 rintro j1 _ n4 hnn4 _ _ h
 refine wpc_snd (.c (.q (.r []) .z) .z) ?_
 replace h := ite_a h
 rcases h with h | h
 obtain ⟨H, h⟩ := h
 cases h
 simp (disch := omega) only [vm, seval, H]
 refine ⟨(hR _ _ _ _ _ _ (by simp (disch := omega) only [vm, seval, H]; rfl) (List.Sublist.refl _) ?_ (by omega) ?_).1⟩ <;> first | (simp (disch := omega) only [vm, seval, H]; done) | rfl
 simp (disch := omega) only [vm, seval, h.1]
 refine ⟨sjoin (γ := Unit) h [18, 19, 20, 21, 22] [0, 4] (fun j7 g => [.str j7.1, .str j7.2]) (fun j7 g => m) (.q (.r []) (.c .z .z)) ?_ ?_⟩ <;> clear h
 rintro j7 _ n10 hnn10 _ _ h
 refine wpc_snd (.q (.r []) (.q .z .z)) ?_
 replace h := bind_a h
 obtain ⟨y13, h⟩ := h
 simp (disch := omega) only [vm, seval, h.1]
 refine ⟨ref01_Index_w h.1.1 (by first | (simp (disch := omega) only [vm, seval, h.1]; done) | rfl) fun n14 hn14 => ?_⟩
 replace h := bind_a h
 obtain ⟨y15, h⟩ := h
 have cy15 := h.1.1
 replace h := bind_a h
 obtain ⟨y17, h⟩ := h
 have cy17 := h.1.1
 replace h := bind_a h
 obtain ⟨x19, h⟩ := h
 simp (disch := omega) only [vm, seval, h.1]
 refine ⟨awp_drw [] (.take 0 (.take 1 (.take 2 (.take 5 (.take 6 (.take 7 (.alt 3 [7, 6, 5, 1] (.alt 4 [7, 6, 5, 2, 1, 0] (.alt 8 [7, 6, 5] (.alt 9 [] (.done) (.stop)) (.stop)) (.stop)) (.stop)))))))) vE_mixed (by kernel_rfl) ?_⟩
 simp (disch := omega) only [vm, seval, h.1]
 refine ⟨ref13_tail_w cy15 (by first | (simp (disch := omega) only [vm, seval, h.1]; done) | rfl) fun n16 hn16 => ?_⟩
 simp (disch := omega) only [vm, seval, h.1]
 refine ⟨ref13_exponent_w cy17 (by first | (simp (disch := omega) only [vm, seval, h.1]; done) | rfl) fun n18 hn18 => ?_⟩
 simp (disch := omega) only [vm, seval, h.1]
 refine ⟨sjoin (γ := Unit) h [8, 33, 34, 35, 36, 37, 38, 39, 40, 41, 42, 43, 44, 45, 46, 47, 48, 49, 50, 51, 52, 53] [6, 7] (fun j20 g => [.int .i64 j20.1, .str j20.2]) (fun j20 g => m) (.q (.r []) (.q (.r []) (.c .z .z))) ?_ ?_⟩ <;> clear h
 rintro j20 _ n23 hnn23 _ _ h
 refine wpc_snd .z ?_
 simp (disch := omega) only [vm, seval, h.1]
 refine ⟨sjoin (γ := Unit) h [54, 55, 56, 57, 58, 59, 60, 61, 62, 63] [7] (fun j28 g => [.str j28]) (fun j28 g => m) .z ?_ ?_⟩ <;> clear h
 rintro j28 _ n31 hnn31 _ _ h
 refine wpc_snd (.q (.q (.r []) (.c (.q (.r []) .z) .z)) .z) ?_
 replace h := ite_a h
 rcases h with h | h
 obtain ⟨H, h⟩ := h
 cases h
 simp (disch := omega) only [vm, seval, H]
 refine ⟨(hR _ _ _ _ _ _ (by simp (disch := omega) only [vm, seval, H]; rfl) (List.Sublist.refl _) ?_ (by omega) ?_).1⟩ <;> first | (simp (disch := omega) only [vm, seval, H]; done) | rfl
 simp (disch := omega) only [vm, seval, h.1]
 refine ⟨sjoin (γ := Unit) h [66, 67, 68, 69, 70, 71, 72, 73, 74, 75, 76, 77, 78] [6, 7] (fun j39 g => [.int .i64 j39.1, .str j39.2]) (fun j39 g => m) .z ?_ ?_⟩ <;> clear h
 rintro j39 _ n42 hnn42 _ _ h
 refine wpc_snd (.q .z (.q (.r []) .z)) ?_
 simp (disch := omega) only [vm, seval, h.1]
 refine ⟨sjoin (γ := Unit) h [80, 81, 82, 83, 84, 85, 86, 87, 88, 89, 90] [79] (fun j46 g => [.bool j46]) (fun j46 g => m) (.r []) ?_ ?_⟩ <;> clear h
 rintro j46 _ n49 hnn49 _ _ h
 refine wpc_snd (.c (.q (.r []) .z) (.q (.r []) (.c (.q (.r []) .z) (.q (.r []) (.c (.q (.r []) .z) .z))))) ?_
 replace h := ite_a h
 rcases h with h | h
 obtain ⟨H, h⟩ := h
 cases h
 simp (disch := omega) only [vm, seval, H]
 refine ⟨(hR _ _ _ _ _ _ (by simp (disch := omega) only [vm, seval, H]; rfl) (List.Sublist.refl _) ?_ (by omega) ?_).1⟩ <;> first | (simp (disch := omega) only [vm, seval, H]; done) | rfl
 replace h := ite_a h
 rcases h with h | h
 replace h := grd_a h
 obtain ⟨c, h⟩ := h
 try simp only [liE, seval] at c
 replace h := and_in c h
 replace h := grd_a h
 obtain ⟨c, h⟩ := h
 try simp only [liE, seval] at c
 replace h := and_in c h
 replace h := bind_a h
 obtain ⟨y50, h⟩ := h
 simp (disch := omega) only [vm, seval, h.1]
 refine ⟨ref04_Format_w h.1.1 (by first | (simp (disch := omega) only [vm, seval, h.1]; done) | rfl) fun n51 hn51 => ?_⟩
 replace h := grd_a h
 obtain ⟨c, h⟩ := h
 try simp only [liE, seval] at c
 replace h := and_in c h
 obtain ⟨H, h⟩ := h
 cases h
 simp (disch := omega) only [vm, seval, H]
 refine ⟨(hR _ _ _ _ _ _ (by simp (disch := omega) only [vm, seval, H]; rfl) (List.Sublist.refl _) ?_ (by omega) ?_).1⟩ <;> first | (simp (disch := omega) only [vm, seval, H]; done) | rfl
 replace h := ite_a h
 rcases h with h | h
 replace h := grd_a h
 obtain ⟨c, h⟩ := h
 try simp only [liE, seval] at c
 replace h := and_in c h
 replace h := grd_a h
 obtain ⟨c, h⟩ := h
 try simp only [liE, seval] at c
 replace h := and_in c h
 replace h := bind_a h
 obtain ⟨y52, h⟩ := h
 simp (disch := omega) only [vm, seval, h.1]
 refine ⟨ref04_Format_w h.1.1 (by first | (simp (disch := omega) only [vm, seval, h.1]; done) | rfl) fun n53 hn53 => ?_⟩
 replace h := grd_a h
 obtain ⟨c, h⟩ := h
 try simp only [liE, seval] at c
 replace h := and_in c h
 obtain ⟨H, h⟩ := h
 cases h
 simp (disch := omega) only [vm, seval, H]
 refine ⟨(hR _ _ _ _ _ _ (by simp (disch := omega) only [vm, seval, H]; rfl) (List.Sublist.refl _) ?_ (by omega) ?_).1⟩ <;> first | (simp (disch := omega) only [vm, seval, H]; done) | rfl
 replace h := grd_a h
 obtain ⟨c, h⟩ := h
 try simp only [liE, seval] at c
 replace h := and_in c h
 obtain ⟨H, h⟩ := h
 cases h
 simp (disch := omega) only [vm, seval, H]
 refine ⟨(hR _ _ _ _ _ _ (by simp (disch := omega) only [vm, seval, H]; rfl) (List.Sublist.refl _) ?_ (by omega) ?_).1⟩ <;> first | (simp (disch := omega) only [vm, seval, H]; done) | rfl
 intro k47 Jk47 hk47 h
 replace h := ite_a h
 rcases h with h | h
 simp (disch := omega) only [vm, seval, h.1]
 refine ⟨hk47 true () _ _ _ _ h.2 (List.Sublist.refl _) ?_ ?_ ?_ (by omega)⟩ <;> first | (simp (disch := omega) only [vm, seval, h.1]; done) | rfl
 replace h := ite_a h
 rcases h with h | h
 simp (disch := omega) only [vm, seval, h.1]
 refine ⟨hk47 true () _ _ _ _ h.2 (List.Sublist.refl _) ?_ ?_ ?_ (by omega)⟩ <;> first | (simp (disch := omega) only [vm, seval, h.1]; done) | rfl
 simp (disch := omega) only [vm, seval, h.1]
 refine ⟨hk47 (decide (j39.1 < (-400))) () _ _ _ _ h.2 (List.Sublist.refl _) ?_ ?_ ?_ (by omega)⟩ <;> first | (simp (disch := omega) only [vm, seval, h.1]; done) | rfl
 intro k40 Jk40 hk40 h
 simp (disch := omega) only [vm, seval, h.1]
 refine ⟨sloop (σ := Int × (List UInt8)) (γ := Unit) (fun k s => ref13_Number_L2 N k40 k s.1 s.2) (fun s g => [.int .i64 s.1, .str s.2]) (fun s g => m) [66, 67, 68, 69, 70, 71, 72, 73, 74, 75, 76, 77, 78] [6, 7] (j20.1, j28) () h (fun _ => rfl) (by first | (simp (disch := omega) only [vm, seval, h.1]; done) | rfl) (by first | (simp (disch := omega) only [vm, seval, h.1]; done) | rfl) ?_⟩
 clear h
 rintro k43 ⟨s6, s7⟩ _ nL1_1 hnL1_1 _ h Jk43 hk43
 change _ ∧ ref13_Number_L2 N k40 (k43 + 1) s6 s7 = _ at h
 rw [ref13_Number_L2] at h
 refine wpc_snd (.q (.q (.r []) (.c .z .z)) (.r [])) ?_
 replace h := bind_a h
 obtain ⟨x44, h⟩ := h
 replace h := ite_a h
 rcases h with h | h
 replace h := bind_a h
 obtain ⟨x45, h⟩ := h
 simp (disch := omega) only [vm, seval, h.1]
 refine ⟨hk43 ((wr .i64 (s6 + 1)), x45) () _ _ _ _ h.2 (List.Sublist.refl _) ?_ ?_ ?_ (by omega)⟩ <;> first | (simp (disch := omega) only [vm, seval, h.1]; done) | rfl
 simp (disch := omega) only [vm, seval, h.1]
 refine ⟨hk40 (s6, s7) () _ _ _ _ h.2 (List.Sublist.refl _) ?_ ?_ ?_ (by omega)⟩ <;> first | (simp (disch := omega) only [vm, seval, h.1]; done) | rfl
 intro k29 Jk29 hk29 h
 simp (disch := omega) only [vm, seval, h.1]
 refine ⟨sloop (σ := (List UInt8)) (γ := Unit) (fun k s => ref13_Number_L1 N k29 k s) (fun s g => [.str s]) (fun s g => m) [54, 55, 56, 57, 58, 59, 60, 61, 62, 63] [7] j20.2 () h (fun _ => rfl) (by first | (simp (disch := omega) only [vm, seval, h.1]; done) | rfl) (by first | (simp (disch := omega) only [vm, seval, h.1]; done) | rfl) ?_⟩
 clear h
 rintro k32 s7 _ nL0_1 hnL0_1 _ h Jk32 hk32
 change _ ∧ ref13_Number_L1 N k29 (k32 + 1) s7 = _ at h
 rw [ref13_Number_L1] at h
 refine wpc_snd (.q .z (.r [])) ?_
 simp (disch := omega) only [vm, seval, h.1]
 refine ⟨sjoin (γ := Unit) h [54, 55, 56, 57, 58, 59, 60] [61] (fun j33 g => [.bool j33]) (fun j33 g => m) (.r []) ?_ ?_⟩ <;> clear h
 rintro j33 _ n36 hnn36 _ _ h
 refine wpc_snd (.c .z .z) ?_
 replace h := ite_a h
 rcases h with h | h
 replace h := bind_a h
 obtain ⟨x38, h⟩ := h
 simp (disch := omega) only [vm, seval, h.1]
 refine ⟨hk32 x38 () _ _ _ _ h.2 (List.Sublist.refl _) ?_ ?_ ?_ (by omega)⟩ <;> first | (simp (disch := omega) only [vm, seval, h.1]; done) | rfl
 simp (disch := omega) only [vm, seval, h.1]
 refine ⟨hk29 s7 () _ _ _ _ h.2 (List.Sublist.refl _) ?_ ?_ ?_ (by omega)⟩ <;> first | (simp (disch := omega) only [vm, seval, h.1]; done) | rfl
 intro k34 Jk34 hk34 h
 replace h := ite_a h
 rcases h with h | h
 replace h := bind_a h
 obtain ⟨x37, h⟩ := h
 simp (disch := omega) only [vm, seval, h.1]
 refine ⟨hk34 ((bord x37) == 48) () _ _ _ _ h.2 (List.Sublist.refl _) ?_ ?_ ?_ (by omega)⟩ <;> first | (simp (disch := omega) only [vm, seval, h.1]; done) | rfl
 simp (disch := omega) only [vm, seval, h.1]
 refine ⟨hk34 false () _ _ _ _ h.2 (List.Sublist.refl _) ?_ ?_ ?_ (by omega)⟩ <;> first | (simp (disch := omega) only [vm, seval, h.1]; done) | rfl
 intro k21 Jk21 hk21 h
 replace h := bind_a h
 obtain ⟨y24, h⟩ := h
 simp (disch := omega) only [vm, seval, h.1]
 refine ⟨ref01_Index_w h.1.1 (by first | (simp (disch := omega) only [vm, seval, h.1]; done) | rfl) fun n25 hn25 => ?_⟩
 replace h := ite_a h
 rcases h with h | h
 replace h := bind_a h
 obtain ⟨x26, h⟩ := h
 replace h := bind_a h
 obtain ⟨x27, h⟩ := h
 replace h := grd_a h
 obtain ⟨c, h⟩ := h
 try simp only [liE, seval] at c
 replace h := and_in c h
 simp (disch := omega) only [vm, seval, h.1]
 refine ⟨awp_drw [] (.take 0 (.take 1 (.take 2 (.take 3 (.take 4 (.take 5 (.take 6 (.take 7 (.take 8 (.take 9 (.take 10 (.take 11 (.take 12 (.take 13 (.take 14 (.alt 15 [14, 13, 12, 11, 10, 9, 8, 7] (.alt 16 [] (.done) (.stop)) (.stop))))))))))))))))) vE_mixed (by kernel_rfl) ?_⟩
 simp (disch := omega) only [vm, seval, h.1]
 refine ⟨hk21 ((wr .i64 (y17 - (wr .i64 ((wr .i64 ((x19.length : Int) - y24)) - 1)))), (x26 ++ x27)) () _ _ _ _ h.2 (List.Sublist.refl _) ?_ ?_ ?_ (by omega)⟩ <;> first | (simp (disch := omega) only [vm, seval, h.1]; done) | rfl
 simp (disch := omega) only [vm, seval, h.1]
 refine ⟨hk21 (y17, x19) () _ _ _ _ h.2 (List.Sublist.refl _) ?_ ?_ ?_ (by omega)⟩ <;> first | (simp (disch := omega) only [vm, seval, h.1]; done) | rfl
 intro k8 Jk8 hk8 h
 replace h := bind_a h
 obtain ⟨x11, h⟩ := h
 replace h := ite_a h
 rcases h with h | h
 replace h := bind_a h
 obtain ⟨x12, h⟩ := h
 simp (disch := omega) only [vm, seval, h.1]
 refine ⟨awp_drw [] (.take 0 (.take 1 (.alt 2 [1, 0] (.alt 3 [] (.done) (.stop)) (.stop)))) vE_mixed (by kernel_rfl) ?_⟩
 simp (disch := omega) only [vm, seval, h.1]
 refine ⟨hk8 (x12, ([45] : List UInt8)) () _ _ _ _ h.2 (List.Sublist.refl _) ?_ ?_ ?_ (by omega)⟩ <;> first | (simp (disch := omega) only [vm, seval, h.1]; done) | rfl
 simp (disch := omega) only [vm, seval, h.1]
 refine ⟨hk8 (a0, []) () _ _ _ _ h.2 (List.Sublist.refl _) ?_ ?_ ?_ (by omega)⟩ <;> first | (simp (disch := omega) only [vm, seval, h.1]; done) | rfl
 intro k2 Jk2 hk2 h
 replace h := ite_a h
 rcases h with h | h
 simp (disch := omega) only [vm, seval, h.1]
 refine ⟨hk2 true () _ _ _ _ h.2 (List.Sublist.refl _) ?_ ?_ ?_ (by omega)⟩ <;> first | (simp (disch := omega) only [vm, seval, h.1]; done) | rfl
 replace h := bind_a h
 obtain ⟨y5, h⟩ := h
 simp (disch := omega) only [vm, seval, h.1]
 refine ⟨ref13_numeral_w h.1.1 (by first | (simp (disch := omega) only [vm, seval, h.1]; done) | rfl) fun n6 hn6 => ?_⟩
 simp (disch := omega) only [vm, seval, h.1]
 refine ⟨hk2 (y5 != (a0.length : Int)) () _ _ _ _ h.2 (List.Sublist.refl _) ?_ ?_ ?_ (by omega)⟩ <;> first | (simp (disch := omega) only [vm, seval, h.1]; done) | rfl
theorem ref04_Hex_w {a0 a1 r} (h : ref04_Hex N a0 a1 = some r) (ha : args = [.str a0, .int .u64 a1]) (hQ : ∀ n', n ≤ n' → Gl (Q (.tuple [.int .u64 r.1, .int .i64 r.2]) ⟨m, n'⟩)) : ACall vE 71 args ⟨m, n⟩ Q := by
 rw [ref04_Hex] at h
 subst ha
 refine ent hQ Try.func71 rfl Try.ntmps71 Try.results71 (.q (.r []) (.q (.r []) .z)) fun R hR => ?_
 replace h := And.intro trivial h
 replace h := bind_a h
 obtain ⟨y1, h⟩ := h
 simp (disch := omega) only [vm, seval, h.1]
 refine ⟨ref04_parse_w h.1.1 (by first | (simp (disch := omega) only [vm, seval, h.1]; done) | rfl) fun n2 hn2 => ?_⟩
 obtain ⟨H, h⟩ := h
 cases h
 simp (disch := omega) only [vm, seval, H]
 refine ⟨(hR _ _ _ _ _ _ (by simp (disch := omega) only [vm, seval, H]; rfl) (List.Sublist.refl _) ?_ (by omega) ?_).1⟩ <;> first | (simp (disch := omega) only [vm, seval, H]; done) | rfl
theorem jrd_decoder_link_w {a0 a1 r} {i0 : Nat} (h : jrd_decoder_link N a0 a1 = some r) (ha : args = [.ptr i0 0, encApiValue a1]) (hi0 : mget m i0 = some ([.int .i64 a0.e])) (hQ : ∀ n', n ≤ n' → Gl (Q (encApiLink r.1) ⟨mset m i0 ([.int .i64 r.2.e]), n'⟩)) : ACall vE 30 args ⟨m, n⟩ Q := by
 rw [jrd_decoder_link] at h
 subst ha
 refine ACall.front hi0 fun hin => ent (fun n' k => ⟨_, rfl, (hQ n' k).go⟩) Try.func30 rfl Try.ntmps30 Try.results30 (.q (.r []) (.q (.r []) .z)) fun R hR => ?_
 replace h := And.intro trivial h
 simp (disch := omega) only [vm, seval, h.1]
 refine ⟨sjoin (γ := Unit) h [6, 7, 8, 9, 10, 11, 12, 13, 14, 15, 16] [] (fun j1 g => []) (fun j1 g => ((n + 2), [.str [], .str [], .str [], .str [], .slice 3 (List.map encApiProperty []) true, .slice 3 (List.map encApiProperty []) true]) :: ((n + 1), [.str [], .str [], .str [], .str [], .slice 3 (List.map encApiProperty []) true, .slice 3 (List.map encApiProperty []) true]) :: (n, [.int .i64 a1.kind, .str a1.text, .slice 1 (List.map AVal.str a1.keys) false, .slice 4 (List.map encApiValue a1.items) false]) :: (i0, [.int .i64 j1.e]) :: mdel m i0) (.q (.r []) (.q (.r []) (.c (.r []) .z))) ?_ ?_⟩ <;> clear h
 rintro j1 _ n4 hnn4 _ _ h
 refine wpc_snd (.q (.r []) (.q (.r []) (.q (.r []) (.q (.r []) (.q (.r []) (.q (.r []) (.q (.r []) .z))))))) ?_
 replace h := bind_a h
 obtain ⟨y9, h⟩ := h
 simp (disch := omega) only [vm, seval, h.1]
 refine ⟨jrd_decoder_member_w h.1.1 (by first | (simp (disch := omega) only [vm, seval, h.1]; done) | rfl) (i0 := i0) (by simp (disch := omega) only [vm, seval, h.1]) fun n10 hn10 => ?_⟩
 replace h := bind_a h
 obtain ⟨y11, h⟩ := h
 simp (disch := omega) only [vm, seval, h.1]
 refine ⟨jrd_decoder_member_w h.1.1 (by first | (simp (disch := omega) only [vm, seval, h.1]; done) | rfl) (i0 := i0) (by simp (disch := omega) only [vm, seval, h.1]) fun n12 hn12 => ?_⟩
 replace h := bind_a h
 obtain ⟨y13, h⟩ := h
 simp (disch := omega) only [vm, seval, h.1]
 refine ⟨jrd_decoder_member_w h.1.1 (by first | (simp (disch := omega) only [vm, seval, h.1]; done) | rfl) (i0 := i0) (by simp (disch := omega) only [vm, seval, h.1]) fun n14 hn14 => ?_⟩
 replace h := bind_a h
 obtain ⟨y15, h⟩ := h
 simp (disch := omega) only [vm, seval, h.1]
 refine ⟨jrd_decoder_member_w h.1.1 (by first | (simp (disch := omega) only [vm, seval, h.1]; done) | rfl) (i0 := i0) (by simp (disch := omega) only [vm, seval, h.1]) fun n16 hn16 => ?_⟩
 replace h := bind_a h
 obtain ⟨y17, h⟩ := h
 simp (disch := omega) only [vm, seval, h.1]
 refine ⟨jrd_decoder_properties_w h.1.1 (by first | (simp (disch := omega) only [vm, seval, h.1]; done) | rfl) (i0 := i0) (by simp (disch := omega) only [vm, seval, h.1]) fun n18 hn18 => ?_⟩
 replace h := bind_a h
 obtain ⟨y19, h⟩ := h
 simp (disch := omega) only [vm, seval, h.1]
 refine ⟨jrd_decoder_properties_w h.1.1 (by first | (simp (disch := omega) only [vm, seval, h.1]; done) | rfl) (i0 := i0) (by simp (disch := omega) only [vm, seval, h.1]) fun n20 hn20 => ?_⟩
 obtain ⟨H, h⟩ := h
 cases h
 simp (disch := omega) only [vm, seval, H]
 refine ⟨(hR _ _ _ _ _ _ (by simp (disch := omega) only [vm, seval, H]; rfl) (.cons _ (.cons _ (.cons _ (List.Sublist.refl _)))) ?_ (by omega) ?_).1⟩ <;> first | (simp (disch := omega) only [vm, seval, H]; done) | rfl
 intro k2 Jk2 hk2 h
 replace h := bind_a h
 obtain ⟨y5, h⟩ := h
 simp (disch := omega) only [vm, seval, h.1]
 refine ⟨jsondoc_Get_w h.1.1 (by first | (simp (disch := omega) only [vm, seval, h.1]; done) | rfl) fun n6 hn6 => ?_⟩
 replace h := ite_a h
 rcases h with h | h
 simp (disch := omega) only [vm, seval, h.1]
 refine ⟨hk2 a0 () _ _ _ _ h.2 (.cons _ (List.Sublist.refl _)) ?_ ?_ ?_ (by omega)⟩ <;> first | (simp (disch := omega) only [vm, seval, h.1]; done) | rfl
 replace h := bind_a h
 obtain ⟨y7, h⟩ := h
 simp (disch := omega) only [vm, seval, h.1]
 refine ⟨jrd_decoder_fail_w h.1.1 (by first | (simp (disch := omega) only [vm, seval, h.1]; done) | rfl) (i0 := i0) (by simp (disch := omega) only [vm, seval, h.1]) fun n8 hn8 => ?_⟩
 simp (disch := omega) only [vm, seval, h.1]
 refine ⟨hk2 y7 () _ _ _ _ h.2 (.cons _ (List.Sublist.refl _)) ?_ ?_ ?_ (by omega)⟩ <;> first | (simp (disch := omega) only [vm, seval, h.1]; done) | rfl
end Go.Proofs.Ytdbeiialamganaa
