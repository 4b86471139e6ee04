/- That the code computes these functions; written by decomp.py. -/
import Derived.Test.YtdbeiialamganaaVmFacts
import Derived.Test.YtdbeiialamganaaDefs
import Derived.Test.YtdbeiialamganaaVM2
set_option linter.unusedVariables false
set_option linter.unusedSimpArgs false
set_option maxHeartbeats 4000000
set_option maxRecDepth 100000
set_option linter.defProp false
namespace Go.Proofs.Ytdbeiialamganaa
open Go.VM
variable {N n : Nat} {m : MS} {Q : PQ} {args : List AVal}
theorem ref14_parser_stop_w {a0 a1 a2 r} {i0 : Nat} (h : ref14_parser_stop N a0 a1 a2 = some r) (ha : args = [.ptr i0 0, .int .i64 a1, .int .i64 a2]) (hi0 : mget m i0 = some ([.str a0.s, .int .i64 a0.at_, .int .i64 a0.nodes, .int .i64 a0.fail, .int .i64 a0.where_])) (hQ : ∀ n', n ≤ n' → Gl (Q (.tuple []) ⟨mset m i0 ([.str r.s, .int .i64 r.at_, .int .i64 r.nodes, .int .i64 r.fail, .int .i64 r.where_]), n'⟩)) : ACall vE 25 args ⟨m, n⟩ Q := by
 rw [ref14_parser_stop] at h
 subst ha
 refine ACall.front hi0 fun hin => ent (fun n' k => ⟨_, rfl, (hQ n' k).go⟩) Try.func25 rfl Try.ntmps25 Try.results25 (.q (.r []) (.c (.r []) .z)) fun R hR => ?_
 replace h := And.intro trivial h
 replace h := ite_a h
 rcases h with h | h
 obtain ⟨H, h⟩ := h
 cases h
 simp (disch := omega) only [vm, seval, H]
 refine ⟨(hR _ _ _ _ _ _ (by simp (disch := omega) only [vm, seval, H]; rfl) (List.Sublist.refl _) ?_ (by omega) ?_).2⟩ <;> first | (simp (disch := omega) only [vm, seval, H]; done) | rfl
 obtain ⟨H, h⟩ := h
 cases h
 simp (disch := omega) only [vm, seval, H]
 refine ⟨(hR _ _ _ _ _ _ (by simp (disch := omega) only [vm, seval, H]; rfl) (List.Sublist.refl _) ?_ (by omega) ?_).2⟩ <;> first | (simp (disch := omega) only [vm, seval, H]; done) | rfl
theorem ref14_is_w {a0 a1 r} (h : ref14_is N a0 a1 = some r) (ha : args = [encApiToken a0, .str a1]) (hQ : ∀ n', n ≤ n' → Gl (Q (.bool r) ⟨m, n'⟩)) : ACall vE 45 args ⟨m, n⟩ Q := by
 rw [ref14_is] at h
 subst ha
 refine ent hQ Try.func45 rfl Try.ntmps45 Try.results45 (.q (.r []) (.q (.r []) .z)) fun R hR => ?_
 replace h := And.intro trivial h
 replace h := ite_a h
 rcases h with h | h
 obtain ⟨H, h⟩ := h
 cases h
 simp (disch := omega) only [vm, seval, H]
 refine ⟨(hR _ _ _ _ _ _ (by simp (disch := omega) only [vm, seval, H]; rfl) (.cons _ (List.Sublist.refl _)) ?_ (by omega) ?_).1⟩ <;> first | (simp (disch := omega) only [vm, seval, H]; done) | rfl
 obtain ⟨H, h⟩ := h
 cases h
 simp (disch := omega) only [vm, seval, H]
 refine ⟨(hR _ _ _ _ _ _ (by simp (disch := omega) only [vm, seval, H]; rfl) (.cons _ (List.Sublist.refl _)) ?_ (by omega) ?_).1⟩ <;> first | (simp (disch := omega) only [vm, seval, H]; done) | rfl
theorem ref13_tail_w {a0 a1 r} (h : ref13_tail N a0 a1 = some r) (ha : args = [.str a0, .int .i64 a1]) (hQ : ∀ n', n ≤ n' → Gl (Q (.str r) ⟨m, n'⟩)) : ACall vE 58 args ⟨m, n⟩ Q := by
 rw [ref13_tail] at h
 subst ha
 refine ent hQ Try.func58 rfl Try.ntmps58 Try.results58 (.q (.r []) (.q (.q (.r []) (.c (.q (.r []) .z) .z)) (.q (.r []) .z))) fun R hR => ?_
 replace h := And.intro trivial h
 replace h := ite_a h
 rcases h with h | h
 obtain ⟨H, h⟩ := h
 cases h
 simp (disch := omega) only [vm, seval, H]
 refine ⟨(hR _ _ _ _ _ _ (by simp (disch := omega) only [vm, seval, H]; rfl) (List.Sublist.refl _) ?_ (by omega) ?_).1⟩ <;> first | (simp (disch := omega) only [vm, seval, H]; done) | rfl
 replace h := bind_a h
 obtain ⟨x1, h⟩ := h
 obtain ⟨H, h⟩ := h
 cases h
 simp (disch := omega) only [vm, seval, H]
 refine ⟨(hR _ _ _ _ _ _ (by simp (disch := omega) only [vm, seval, H]; rfl) (List.Sublist.refl _) ?_ (by omega) ?_).1⟩ <;> first | (simp (disch := omega) only [vm, seval, H]; done) | rfl
theorem ref01_In_w {a0 a1 r} (h : ref01_In N a0 a1 = some r) (ha : args = [.int .u8 a0, .str a1]) (hQ : ∀ n', n ≤ n' → Gl (Q (.bool r) ⟨m, n'⟩)) : ACall vE 61 args ⟨m, n⟩ Q := by
 rw [ref01_In] at h
 subst ha
 refine ent hQ Try.func61 rfl Try.ntmps61 Try.results61 (.q (.r []) .z) fun R hR => ?_
 replace h := And.intro trivial h
 simp (disch := omega) only [vm, seval, h.1]
 refine ⟨sjoin (γ := Unit) h [4, 5, 6, 7, 8, 9, 10, 11, 12, 13, 14, 15, 16] [] (fun j1 g => []) (fun j1 g => m) (.q (.r []) .z) ?_ ?_⟩ <;> clear h
 rintro j1 _ n4 hnn4 _ _ h
 refine wpc_snd (.q (.r []) .z) ?_
 obtain ⟨H, h⟩ := h
 cases h
 simp (disch := omega) only [vm, seval, H]
 refine ⟨(hR _ _ _ _ _ _ (by simp (disch := omega) only [vm, seval, H]; rfl) (List.Sublist.refl _) ?_ (by omega) ?_).1⟩ <;> first | (simp (disch := omega) only [vm, seval, H]; done) | rfl
 intro k2 Jk2 hk2 h
 replace h := grd_a h
 obtain ⟨hfk5, h⟩ := h
 simp (disch := omega) only [vm, seval, h.1]
 refine ⟨sloopr (σ := Unit) (γ := Unit) a1 hfk5 (fun xs i s => ref01_In_L1 N a0 k2 xs) (fun i s g => [.int .i64 i]) (fun i s g => m) [4, 6, 7, 8, 9, 10, 11, 12, 13, 14, 15, 16] [5] () () h (by first | (simp (disch := omega) only [vm, seval, h.1]; done) | rfl) (by first | (simp (disch := omega) only [vm, seval, h.1]; done) | rfl) ?_ ?_⟩ <;> clear h
 rintro s5 _ _ nL0_1 hnL0_1 _ h
 change _ ∧ ref01_In_L1 N a0 k2 [] = _ at h
 rw [ref01_In_L1] at h
 refine wpc_snd (.q (.q (.r []) (.c .z .z)) (.q (.q (.r []) (.c (.q (.r []) .z) .z)) (.r []))) ?_
 simp (disch := omega) only [vm, seval, h.1]
 refine ⟨hk2 () () _ _ _ _ h.2 (List.Sublist.refl _) ?_ ?_ ?_ (by omega)⟩ <;> first | (simp (disch := omega) only [vm, seval, h.1]; done) | rfl
 rintro xk5 xsk5 s5 _ _ nL0_1 hnL0_1 _ h Jk5 hk5
 change _ ∧ ref01_In_L1 N a0 k2 (xk5 :: xsk5) = _ at h
 rw [ref01_In_L1] at h
 refine wpc_snd (.q (.q (.r []) (.c .z .z)) (.q (.q (.r []) (.c (.q (.r []) .z) .z)) (.r []))) ?_
 replace h := ite_a h
 rcases h with h | h
 obtain ⟨H, h⟩ := h
 cases h
 simp (disch := omega) only [vm, seval, H]
 refine ⟨(hR _ _ _ _ _ _ (by simp (disch := omega) only [vm, seval, H]; rfl) (List.Sublist.refl _) ?_ (by omega) ?_).1⟩ <;> first | (simp (disch := omega) only [vm, seval, H]; done) | rfl
 simp (disch := omega) only [vm, seval, h.1]
 refine ⟨hk5 () () _ _ _ _ h.2 (List.Sublist.refl _) ?_ ?_ ?_ (by omega)⟩ <;> first | (simp (disch := omega) only [vm, seval, h.1]; done) | rfl
theorem ref01_IsDigit_w {a0 r} (h : ref01_IsDigit N a0 = some r) (ha : args = [.int .u8 a0]) (hQ : ∀ n', n ≤ n' → Gl (Q (.bool r) ⟨m, n'⟩)) : ACall vE 63 args ⟨m, n⟩ Q := by
 rw [ref01_IsDigit] at h
 subst ha
 refine ent hQ Try.func63 rfl Try.ntmps63 Try.results63 (.q (.r []) (.q (.r []) .z)) fun R hR => ?_
 replace h := And.intro trivial h
 replace h := ite_a h
 rcases h with h | h
 obtain ⟨H, h⟩ := h
 cases h
 simp (disch := omega) only [vm, seval, H]
 refine ⟨(hR _ _ _ _ _ _ (by simp (disch := omega) only [vm, seval, H]; rfl) (List.Sublist.refl _) ?_ (by omega) ?_).1⟩ <;> first | (simp (disch := omega) only [vm, seval, H]; done) | rfl
 obtain ⟨H, h⟩ := h
 cases h
 simp (disch := omega) only [vm, seval, H]
 refine ⟨(hR _ _ _ _ _ _ (by simp (disch := omega) only [vm, seval, H]; rfl) (List.Sublist.refl _) ?_ (by omega) ?_).1⟩ <;> first | (simp (disch := omega) only [vm, seval, H]; done) | rfl
theorem ref04_Format_w {a0 r} (h : ref04_Format N a0 = some r) (ha : args = [.int .u64 a0]) (hQ : ∀ n', n ≤ n' → Gl (Q (.str r) ⟨m, n'⟩)) : ACall vE 59 args ⟨m, n⟩ Q := by
 rw [ref04_Format] at h
 subst ha
 refine ent hQ Try.func59 rfl Try.ntmps59 Try.results59 (.q (.r []) (.q (.r []) .z)) fun R hR => ?_
 replace h := And.intro trivial h
 simp (disch := omega) only [vm, seval, h.1]
 refine ⟨sloop (σ := Int × (List UInt8)) (γ := Unit) (fun k s => ref04_Format_L1 N k s.1 s.2) (fun s g => [.int .u64 s.1, .str s.2]) (fun s g => m) [2, 4, 5, 6, 7, 8, 9, 10, 11, 12, 13, 14, 15, 16] [0, 3] (a0, []) () h (fun _ => rfl) (by first | (simp (disch := omega) only [vm, seval, h.1]; done) | rfl) (by first | (simp (disch := omega) only [vm, seval, h.1]; done) | rfl) ?_⟩
 clear h
 rintro k1 ⟨s0, s3⟩ _ nL0_1 hnL0_1 _ h Jk1 hk1
 change _ ∧ ref04_Format_L1 N (k1 + 1) s0 s3 = _ at h
 rw [ref04_Format_L1] at h
 refine wpc_snd (.q (.r []) (.q (.r []) (.q (.r []) (.c (.q (.r []) .z) .z)))) ?_
 replace h := grd_a h
 obtain ⟨c, h⟩ := h
 try simp only [liE, seval] at c
 replace h := and_in c h
 replace h := ite_a h
 rcases h with h | h
 obtain ⟨H, h⟩ := h
 cases h
 simp (disch := omega) only [vm, seval, H]
 refine ⟨(hR _ _ _ _ _ _ (by simp (disch := omega) only [vm, seval, H]; rfl) (List.Sublist.refl _) ?_ (by omega) ?_).1⟩ <;> first | (simp (disch := omega) only [vm, seval, H]; done) | rfl
 simp (disch := omega) only [vm, seval, h.1]
 refine ⟨hk1 ((wr .u64 (s0.tdiv 10)), ((List.map bchr [(wr .u8 (wr .u64 (48 + (s0.tmod 10))))]) ++ s3)) () _ _ _ _ h.2 (List.Sublist.refl _) ?_ ?_ ?_ (by omega)⟩ <;> first | (simp (disch := omega) only [vm, seval, h.1]; done) | rfl
theorem ref14_word_w {a0 r} (h : ref14_word N a0 = some r) (ha : args = [.str a0]) (hQ : ∀ n', n ≤ n' → Gl (Q (.int .i64 r) ⟨m, n'⟩)) : ACall vE 47 args ⟨m, n⟩ Q := by
 rw [ref14_word] at h
 subst ha
 refine ent hQ Try.func47 rfl Try.ntmps47 Try.results47 (.q (.r []) (.q (.q (.r []) (.q (.r []) (.c (.q (.r []) .z) (.q (.r []) (.c (.q (.r []) .z) .z))))) (.q (.r []) .z))) fun R hR => ?_
 replace h := And.intro trivial h
 replace h := ite_a h
 rcases h with h | h
 obtain ⟨H, h⟩ := h
 cases h
 simp (disch := omega) only [vm, seval, H]
 refine ⟨(hR _ _ _ _ _ _ (by simp (disch := omega) only [vm, seval, H]; rfl) (List.Sublist.refl _) ?_ (by omega) ?_).1⟩ <;> first | (simp (disch := omega) only [vm, seval, H]; done) | rfl
 replace h := ite_a h
 rcases h with h | h
 obtain ⟨H, h⟩ := h
 cases h
 simp (disch := omega) only [vm, seval, H]
 refine ⟨(hR _ _ _ _ _ _ (by simp (disch := omega) only [vm, seval, H]; rfl) (List.Sublist.refl _) ?_ (by omega) ?_).1⟩ <;> first | (simp (disch := omega) only [vm, seval, H]; done) | rfl
 obtain ⟨H, h⟩ := h
 cases h
 simp (disch := omega) only [vm, seval, H]
 refine ⟨(hR _ _ _ _ _ _ (by simp (disch := omega) only [vm, seval, H]; rfl) (List.Sublist.refl _) ?_ (by omega) ?_).1⟩ <;> first | (simp (disch := omega) only [vm, seval, H]; done) | rfl
theorem ref02_point_w {a0 r} (h : ref02_point N a0 = some r) (ha : args = [.int .i64 a0]) (hQ : ∀ n', n ≤ n' → Gl (Q (.bool r) ⟨m, n'⟩)) : ACall vE 72 args ⟨m, n⟩ Q := by
 rw [ref02_point] at h
 subst ha
 refine ent hQ Try.func72 rfl Try.ntmps72 Try.results72 (.q (.r []) (.q (.r []) .z)) fun R hR => ?_
 replace h := And.intro trivial h
 replace h := ite_a h
 rcases h with h | h
 replace h := ite_a h
 rcases h with h | h
 replace h := ite_a h
 rcases h with h | h
 obtain ⟨H, h⟩ := h
 cases h
 simp (disch := omega) only [vm, seval, H]
 refine ⟨(hR _ _ _ _ _ _ (by simp (disch := omega) only [vm, seval, H]; rfl) (List.Sublist.refl _) ?_ (by omega) ?_).1⟩ <;> first | (simp (disch := omega) only [vm, seval, H]; done) | rfl
 obtain ⟨H, h⟩ := h
 cases h
 simp (disch := omega) only [vm, seval, H]
 refine ⟨(hR _ _ _ _ _ _ (by simp (disch := omega) only [vm, seval, H]; rfl) (List.Sublist.refl _) ?_ (by omega) ?_).1⟩ <;> first | (simp (disch := omega) only [vm, seval, H]; done) | rfl
 obtain ⟨H, h⟩ := h
 cases h
 simp (disch := omega) only [vm, seval, H]
 refine ⟨(hR _ _ _ _ _ _ (by simp (disch := omega) only [vm, seval, H]; rfl) (List.Sublist.refl _) ?_ (by omega) ?_).1⟩ <;> first | (simp (disch := omega) only [vm, seval, H]; done) | rfl
 obtain ⟨H, h⟩ := h
 cases h
 simp (disch := omega) only [vm, seval, H]
 refine ⟨(hR _ _ _ _ _ _ (by simp (disch := omega) only [vm, seval, H]; rfl) (List.Sublist.refl _) ?_ (by omega) ?_).1⟩ <;> first | (simp (disch := omega) only [vm, seval, H]; done) | rfl
theorem ref02_value_w {a0 r} (h : ref02_value N a0 = some r) (ha : args = [.str a0]) (hQ : ∀ n', n ≤ n' → Gl (Q (.int .i64 r) ⟨m, n'⟩)) : ACall vE 70 args ⟨m, n⟩ Q := by
 rw [ref02_value] at h
 subst ha
 refine ent hQ Try.func70 rfl Try.ntmps70 Try.results70 (.q (.r []) (.q (.q (.r []) (.c (.q (.r []) .z) .z)) (.q .z .z))) fun R hR => ?_
 replace h := And.intro trivial h
 replace h := ite_a h
 rcases h with h | h
 replace h := bind_a h
 obtain ⟨x1, h⟩ := h
 obtain ⟨H, h⟩ := h
 cases h
 simp (disch := omega) only [vm, seval, H]
 refine ⟨(hR _ _ _ _ _ _ (by simp (disch := omega) only [vm, seval, H]; rfl) (List.Sublist.refl _) ?_ (by omega) ?_).1⟩ <;> first | (simp (disch := omega) only [vm, seval, H]; done) | rfl
 replace h := bind_a h
 obtain ⟨x2, h⟩ := h
 replace h := grd_a h
 obtain ⟨c, h⟩ := h
 try simp only [liE, seval] at c
 replace h := and_in c h
 simp (disch := omega) only [vm, seval, h.1]
 refine ⟨awp_drw [] (.take 0 (.take 1 (.take 2 (.take 3 (.take 4 (.take 5 (.take 6 (.take 7 (.take 8 (.alt 9 [] (.done) (.stop))))))))))) vE_mixed (by kernel_rfl) ?_⟩
 simp (disch := omega) only [vm, seval, h.1]
 refine ⟨sjoin (γ := Unit) h [4, 20, 21, 22, 23, 24, 25, 26, 27, 28, 29, 30, 31, 32, 33] [3] (fun j3 g => [.int .i64 j3]) (fun j3 g => m) (.q (.r []) .z) ?_ ?_⟩ <;> clear h
 rintro j3 _ n6 hnn6 _ _ h
 refine wpc_snd (.q (.r []) .z) ?_
 obtain ⟨H, h⟩ := h
 cases h
 simp (disch := omega) only [vm, seval, H]
 refine ⟨(hR _ _ _ _ _ _ (by simp (disch := omega) only [vm, seval, H]; rfl) (List.Sublist.refl _) ?_ (by omega) ?_).1⟩ <;> first | (simp (disch := omega) only [vm, seval, H]; done) | rfl
 intro k4 Jk4 hk4 h
 replace h := grd_a h
 obtain ⟨hfk7, h⟩ := h
 simp (disch := omega) only [vm, seval, h.1]
 refine ⟨sloopc (σ := Int) (γ := Unit) 1 (a0.length : Int) hfk7 (fun xs i s => ref02_value_L1 N a0 k4 xs i s) (fun i s g => [.int .i64 s, .int .i64 i]) (fun i s g => m) [20, 21, 22, 23, 24, 25, 26, 27, 28, 29, 30, 31, 32, 33] [3, 4] (bandI .i64 (wr .i64 (bord x2)) (wr .i64 ((shlI .i64 1 (wr .i64 (7 - (a0.length : Int)))) - 1))) () h (by first | (simp (disch := omega) only [vm, seval, h.1]; done) | rfl) (by first | (simp (disch := omega) only [vm, seval, h.1]; done) | rfl) ?_ ?_⟩ <;> clear h
 rintro s4 s3 _ nL0_1 hnL0_1 _ h
 change _ ∧ ref02_value_L1 N a0 k4 0 s4 s3 = _ at h
 rw [ref02_value_L1] at h
 refine wpc_snd (.q (.q (.r []) (.c .z .z)) (.q (.r []) (.r []))) ?_
 simp (disch := omega) only [vm, seval, h.1]
 refine ⟨hk4 s3 () _ _ _ _ h.2 (List.Sublist.refl _) ?_ ?_ ?_ (by omega)⟩ <;> first | (simp (disch := omega) only [vm, seval, h.1]; done) | rfl
 rintro xsk7 s4 s3 _ nL0_1 hnL0_1 _ h Jk7 hk7
 change _ ∧ ref02_value_L1 N a0 k4 (xsk7 + 1) s4 s3 = _ at h
 rw [ref02_value_L1] at h
 refine wpc_snd (.q (.q (.r []) (.c .z .z)) (.q (.r []) (.r []))) ?_
 replace h := bind_a h
 obtain ⟨x8, h⟩ := h
 simp (disch := omega) only [vm, seval, h.1]
 refine ⟨hk7 (borI .i64 (shlI .i64 s3 6) (bandI .i64 (wr .i64 (bord x8)) 63)) () _ _ _ _ h.2 (List.Sublist.refl _) ?_ ?_ ?_ (by omega)⟩ <;> first | (simp (disch := omega) only [vm, seval, h.1]; done) | rfl
theorem ref01_IsAlpha_w {a0 r} (h : ref01_IsAlpha N a0 = some r) (ha : args = [.int .u8 a0]) (hQ : ∀ n', n ≤ n' → Gl (Q (.bool r) ⟨m, n'⟩)) : ACall vE 64 args ⟨m, n⟩ Q := by
 rw [ref01_IsAlpha] at h
 subst ha
 refine ent hQ Try.func64 rfl Try.ntmps64 Try.results64 (.q (.r []) (.q (.r []) .z)) fun R hR => ?_
 replace h := And.intro trivial h
 replace h := ite_a h
 rcases h with h | h
 replace h := ite_a h
 rcases h with h | h
 obtain ⟨H, h⟩ := h
 cases h
 simp (disch := omega) only [vm, seval, H]
 refine ⟨(hR _ _ _ _ _ _ (by simp (disch := omega) only [vm, seval, H]; rfl) (List.Sublist.refl _) ?_ (by omega) ?_).1⟩ <;> first | (simp (disch := omega) only [vm, seval, H]; done) | rfl
 replace h := ite_a h
 rcases h with h | h
 obtain ⟨H, h⟩ := h
 cases h
 simp (disch := omega) only [vm, seval, H]
 refine ⟨(hR _ _ _ _ _ _ (by simp (disch := omega) only [vm, seval, H]; rfl) (List.Sublist.refl _) ?_ (by omega) ?_).1⟩ <;> first | (simp (disch := omega) only [vm, seval, H]; done) | rfl
 obtain ⟨H, h⟩ := h
 cases h
 simp (disch := omega) only [vm, seval, H]
 refine ⟨(hR _ _ _ _ _ _ (by simp (disch := omega) only [vm, seval, H]; rfl) (List.Sublist.refl _) ?_ (by omega) ?_).1⟩ <;> first | (simp (disch := omega) only [vm, seval, H]; done) | rfl
 replace h := ite_a h
 rcases h with h | h
 obtain ⟨H, h⟩ := h
 cases h
 simp (disch := omega) only [vm, seval, H]
 refine ⟨(hR _ _ _ _ _ _ (by simp (disch := omega) only [vm, seval, H]; rfl) (List.Sublist.refl _) ?_ (by omega) ?_).1⟩ <;> first | (simp (disch := omega) only [vm, seval, H]; done) | rfl
 obtain ⟨H, h⟩ := h
 cases h
 simp (disch := omega) only [vm, seval, H]
 refine ⟨(hR _ _ _ _ _ _ (by simp (disch := omega) only [vm, seval, H]; rfl) (List.Sublist.refl _) ?_ (by omega) ?_).1⟩ <;> first | (simp (disch := omega) only [vm, seval, H]; done) | rfl
theorem ref14_Get_w {a0 a1 r} (h : ref14_Get N a0 a1 = some r) (ha : args = [encApiValue a0, .str a1]) (hQ : ∀ n', n ≤ n' → Gl (Q (.tuple [encApiValue r.1, .bool r.2]) ⟨m, n'⟩)) : ACall vE 54 args ⟨m, n⟩ Q := by
 rw [ref14_Get] at h
 subst ha
 refine ent_s hQ Try.func54 rfl Try.ntmps54 Try.results54 (.q (.r []) (.q (.q (.r []) (.c (.q (.r []) .z) .z)) .z)) fun R hR => ?_
 replace h := And.intro trivial h
 replace h := ite_a h
 rcases h with h | h
 obtain ⟨H, h⟩ := h
 cases h
 simp (disch := omega) only [vm, seval, H]
 refine ⟨(hR _ _ _ _ _ _ (by simp (disch := omega) only [vm, seval, H]; rfl) (.cons _ (.cons _ (List.Sublist.refl _))) ?_ (by omega) ?_).1⟩ <;> first | (simp (disch := omega) only [vm, seval, H]; done) | rfl
 simp (disch := omega) only [vm, seval, h.1]
 refine ⟨sjoin (γ := Unit) h [5, 6, 11, 12, 13, 14, 15, 16, 17, 18, 19, 20, 21, 22, 23, 24, 25, 26, 27, 28, 29, 30, 31, 32, 33, 34, 35, 36] [] (fun j1 g => []) (fun j1 g => ((n + 1), [.int .i64 0, .str [], .slice 1 (List.map AVal.str []) true, .slice 4 (List.map encApiValue []) true]) :: (n, [.int .i64 a0.kind, .str a0.text, .slice 1 (List.map AVal.str a0.keys) false, .slice 4 (List.map encApiValue a0.items) false]) :: m) (.q (.r []) .z) ?_ ?_⟩ <;> clear h
 rintro j1 _ n4 hnn4 _ _ h
 refine wpc_snd (.q (.r []) .z) ?_
 obtain ⟨H, h⟩ := h
 cases h
 simp (disch := omega) only [vm, seval, H]
 refine ⟨(hR _ _ _ _ _ _ (by simp (disch := omega) only [vm, seval, H]; rfl) (.cons _ (.cons _ (List.Sublist.refl _))) ?_ (by omega) ?_).1⟩ <;> first | (simp (disch := omega) only [vm, seval, H]; done) | rfl
 intro k2 Jk2 hk2 h
 replace h := grd_a h
 obtain ⟨hfk5, h⟩ := h
 simp (disch := omega) only [vm, seval, h.1]
 refine ⟨sloopr (σ := Unit) (γ := Unit) a0.keys hfk5 (fun xs i s => ref14_Get_L1 N a0 a1 k2 xs i) (fun i s g => [.int .i64 i]) (fun i s g => ((n + 1), [.int .i64 0, .str [], .slice 1 (List.map AVal.str []) true, .slice 4 (List.map encApiValue []) true]) :: (n, [.int .i64 a0.kind, .str a0.text, .slice 1 (List.map AVal.str a0.keys) false, .slice 4 (List.map encApiValue a0.items) false]) :: m) [5, 6, 15, 16, 17, 18, 19, 20, 21, 22, 23, 24, 25, 26, 27, 28, 29, 30, 31, 32, 33, 34, 35, 36] [14] () () h (by first | (simp (disch := omega) only [vm, seval, h.1]; done) | rfl) (by first | (simp (disch := omega) only [vm, seval, h.1]; done) | rfl) ?_ ?_⟩ <;> clear h
 rintro s14 _ _ nL0_1 hnL0_1 _ h
 change _ ∧ ref14_Get_L1 N a0 a1 k2 [] s14 = _ at h
 rw [ref14_Get_L1] at h
 refine wpc_snd (.q (.r []) (.q (.c .z .z) (.q (.q (.r []) .z) (.r [])))) ?_
 simp (disch := omega) only [vm, seval, h.1]
 refine ⟨hk2 () () _ _ _ _ h.2 (List.Sublist.refl _) ?_ ?_ ?_ (by omega)⟩ <;> first | (simp (disch := omega) only [vm, seval, h.1]; done) | rfl
 rintro xk5 xsk5 s14 _ _ nL0_1 hnL0_1 _ h Jk5 hk5
 change _ ∧ ref14_Get_L1 N a0 a1 k2 (xk5 :: xsk5) s14 = _ at h
 rw [ref14_Get_L1] at h
 refine wpc_snd (.q (.r []) (.q (.c .z .z) (.q (.q (.r []) .z) (.r [])))) ?_
 simp (disch := omega) only [vm, seval, h.1]
 refine ⟨sjoin (γ := Unit) h [17, 18, 19, 20, 21, 22, 23, 24, 25, 26, 27, 28, 29] [30] (fun j6 g => [.bool j6]) (fun j6 g => ((n + 1), [.int .i64 0, .str [], .slice 1 (List.map AVal.str []) true, .slice 4 (List.map encApiValue []) true]) :: (n, [.int .i64 a0.kind, .str a0.text, .slice 1 (List.map AVal.str a0.keys) false, .slice 4 (List.map encApiValue a0.items) false]) :: m) (.r []) ?_ ?_⟩ <;> clear h
 rintro j6 _ n9 hnn9 _ _ h
 refine wpc_snd (.c (.q (.r []) .z) .z) ?_
 replace h := ite_a h
 rcases h with h | h
 replace h := bind_a h
 obtain ⟨x10, h⟩ := h
 obtain ⟨H, h⟩ := h
 cases h
 simp (disch := omega) only [vm, seval, H]
 refine ⟨(hR _ _ _ _ _ _ (by simp (disch := omega) only [vm, seval, H]; rfl) (.cons _ (.cons _ (List.Sublist.refl _))) ?_ (by omega) ?_).1⟩ <;> first | (simp (disch := omega) only [vm, seval, H]; done) | rfl
 simp (disch := omega) only [vm, seval, h.1]
 refine ⟨hk5 () () _ _ _ _ h.2 (List.Sublist.refl _) ?_ ?_ ?_ (by omega)⟩ <;> first | (simp (disch := omega) only [vm, seval, h.1]; done) | rfl
 intro k7 Jk7 hk7 h
 replace h := ite_a h
 rcases h with h | h
 simp (disch := omega) only [vm, seval, h.1]
 refine ⟨hk7 (decide (s14 < (a0.items.length : Int))) () _ _ _ _ h.2 (List.Sublist.refl _) ?_ ?_ ?_ (by omega)⟩ <;> first | (simp (disch := omega) only [vm, seval, h.1]; done) | rfl
 simp (disch := omega) only [vm, seval, h.1]
 refine ⟨hk7 false () _ _ _ _ h.2 (List.Sublist.refl _) ?_ ?_ ?_ (by omega)⟩ <;> first | (simp (disch := omega) only [vm, seval, h.1]; done) | rfl
theorem jrd_decoder_fail_w {a0 a1 r} {i0 : Nat} (h : jrd_decoder_fail N a0 a1 = some r) (ha : args = [.ptr i0 0, .int .i64 a1]) (hi0 : mget m i0 = some ([.int .i64 a0.e])) (hQ : ∀ n', n ≤ n' → Gl (Q (.tuple []) ⟨mset m i0 ([.int .i64 r.e]), n'⟩)) : ACall vE 52 args ⟨m, n⟩ Q := by
 rw [jrd_decoder_fail] at h
 subst ha
 refine ACall.front hi0 fun hin => ent (fun n' k => ⟨_, rfl, (hQ n' k).go⟩) Try.func52 rfl Try.ntmps52 Try.results52 (.q (.r []) (.c (.r []) .z)) fun R hR => ?_
 replace h := And.intro trivial h
 replace h := ite_a h
 rcases h with h | h
 obtain ⟨H, h⟩ := h
 cases h
 simp (disch := omega) only [vm, seval, H]
 refine ⟨(hR _ _ _ _ _ _ (by simp (disch := omega) only [vm, seval, H]; rfl) (List.Sublist.refl _) ?_ (by omega) ?_).2⟩ <;> first | (simp (disch := omega) only [vm, seval, H]; done) | rfl
 obtain ⟨H, h⟩ := h
 cases h
 simp (disch := omega) only [vm, seval, H]
 refine ⟨(hR _ _ _ _ _ _ (by simp (disch := omega) only [vm, seval, H]; rfl) (List.Sublist.refl _) ?_ (by omega) ?_).2⟩ <;> first | (simp (disch := omega) only [vm, seval, H]; done) | rfl
theorem jsondoc_Get_w {a0 a1 r} (h : jsondoc_Get N a0 a1 = some r) (ha : args = [encApiValue a0, .str a1]) (hQ : ∀ n', n ≤ n' → Gl (Q (.tuple [encApiValue r.1, .bool r.2]) ⟨m, n'⟩)) : ACall vE 51 args ⟨m, n⟩ Q := by
 rw [jsondoc_Get] at h
 subst ha
 refine ent_s hQ Try.func51 rfl Try.ntmps51 Try.results51 (.q (.r []) .z) fun R hR => ?_
 replace h := And.intro trivial h
 simp (disch := omega) only [vm, seval, h.1]
 refine ⟨sjoin (γ := Unit) h [5, 6, 7, 8, 9, 10, 11, 12, 13, 14, 15, 16, 17, 18, 19, 20, 21, 22, 23, 24, 25, 26, 27, 28, 29, 30, 31, 32, 33, 34, 35, 36] [] (fun j1 g => []) (fun j1 g => ((n + 1), [.int .i64 0, .str [], .slice 1 (List.map AVal.str []) true, .slice 4 (List.map encApiValue []) true]) :: (n, [.int .i64 a0.kind, .str a0.text, .slice 1 (List.map AVal.str a0.keys) false, .slice 4 (List.map encApiValue a0.items) false]) :: m) (.q (.r []) .z) ?_ ?_⟩ <;> clear h
 rintro j1 _ n4 hnn4 _ _ h
 refine wpc_snd (.q (.r []) .z) ?_
 obtain ⟨H, h⟩ := h
 cases h
 simp (disch := omega) only [vm, seval, H]
 refine ⟨(hR _ _ _ _ _ _ (by simp (disch := omega) only [vm, seval, H]; rfl) (.cons _ (.cons _ (List.Sublist.refl _))) ?_ (by omega) ?_).1⟩ <;> first | (simp (disch := omega) only [vm, seval, H]; done) | rfl
 intro k2 Jk2 hk2 h
 replace h := grd_a h
 obtain ⟨hfk5, h⟩ := h
 simp (disch := omega) only [vm, seval, h.1]
 refine ⟨sloopr (σ := Unit) (γ := Unit) a0.keys hfk5 (fun xs i s => jsondoc_Get_L1 N a0 a1 k2 xs i) (fun i s g => [.int .i64 i]) (fun i s g => ((n + 1), [.int .i64 0, .str [], .slice 1 (List.map AVal.str []) true, .slice 4 (List.map encApiValue []) true]) :: (n, [.int .i64 a0.kind, .str a0.text, .slice 1 (List.map AVal.str a0.keys) false, .slice 4 (List.map encApiValue a0.items) false]) :: m) [5, 6, 7, 12, 13, 14, 15, 16, 17, 18, 19, 20, 21, 22, 23, 24, 25, 26, 27, 28, 29, 30, 31, 32, 33, 34, 35, 36] [11] () () h (by first | (simp (disch := omega) only [vm, seval, h.1]; done) | rfl) (by first | (simp (disch := omega) only [vm, seval, h.1]; done) | rfl) ?_ ?_⟩ <;> clear h
 rintro s11 _ _ nL0_1 hnL0_1 _ h
 change _ ∧ jsondoc_Get_L1 N a0 a1 k2 [] s11 = _ at h
 rw [jsondoc_Get_L1] at h
 refine wpc_snd (.q (.r []) (.q (.c .z .z) (.q (.q (.r []) .z) (.r [])))) ?_
 simp (disch := omega) only [vm, seval, h.1]
 refine ⟨hk2 () () _ _ _ _ h.2 (List.Sublist.refl _) ?_ ?_ ?_ (by omega)⟩ <;> first | (simp (disch := omega) only [vm, seval, h.1]; done) | rfl
 rintro xk5 xsk5 s11 _ _ nL0_1 hnL0_1 _ h Jk5 hk5
 change _ ∧ jsondoc_Get_L1 N a0 a1 k2 (xk5 :: xsk5) s11 = _ at h
 rw [jsondoc_Get_L1] at h
 refine wpc_snd (.q (.r []) (.q (.c .z .z) (.q (.q (.r []) .z) (.r [])))) ?_
 simp (disch := omega) only [vm, seval, h.1]
 refine ⟨sjoin (γ := Unit) h [16, 17, 18, 19, 20, 21, 22, 23, 24, 25, 26, 27, 28, 29] [30] (fun j6 g => [.bool j6]) (fun j6 g => ((n + 1), [.int .i64 0, .str [], .slice 1 (List.map AVal.str []) true, .slice 4 (List.map encApiValue []) true]) :: (n, [.int .i64 a0.kind, .str a0.text, .slice 1 (List.map AVal.str a0.keys) false, .slice 4 (List.map encApiValue a0.items) false]) :: m) (.r []) ?_ ?_⟩ <;> clear h
 rintro j6 _ n9 hnn9 _ _ h
 refine wpc_snd (.c (.q (.r []) .z) .z) ?_
 replace h := ite_a h
 rcases h with h | h
 replace h := bind_a h
 obtain ⟨x10, h⟩ := h
 obtain ⟨H, h⟩ := h
 cases h
 simp (disch := omega) only [vm, seval, H]
 refine ⟨(hR _ _ _ _ _ _ (by simp (disch := omega) only [vm, seval, H]; rfl) (.cons _ (.cons _ (List.Sublist.refl _))) ?_ (by omega) ?_).1⟩ <;> first | (simp (disch := omega) only [vm, seval, H]; done) | rfl
 simp (disch := omega) only [vm, seval, h.1]
 refine ⟨hk5 () () _ _ _ _ h.2 (List.Sublist.refl _) ?_ ?_ ?_ (by omega)⟩ <;> first | (simp (disch := omega) only [vm, seval, h.1]; done) | rfl
 intro k7 Jk7 hk7 h
 replace h := ite_a h
 rcases h with h | h
 replace h := ite_a h
 rcases h with h | h
 simp (disch := omega) only [vm, seval, h.1]
 refine ⟨hk7 (xk5 == a1) () _ _ _ _ h.2 (List.Sublist.refl _) ?_ ?_ ?_ (by omega)⟩ <;> first | (simp (disch := omega) only [vm, seval, h.1]; done) | rfl
 simp (disch := omega) only [vm, seval, h.1]
 refine ⟨hk7 false () _ _ _ _ h.2 (List.Sublist.refl _) ?_ ?_ ?_ (by omega)⟩ <;> first | (simp (disch := omega) only [vm, seval, h.1]; done) | rfl
 simp (disch := omega) only [vm, seval, h.1]
 refine ⟨hk7 false () _ _ _ _ h.2 (List.Sublist.refl _) ?_ ?_ ?_ (by omega)⟩ <;> first | (simp (disch := omega) only [vm, seval, h.1]; done) | rfl
theorem jrd_count_w {a0 r} (h : jrd_count N a0 = some r) (ha : args = [encApiValue a0]) (hQ : ∀ n', n ≤ n' → Gl (Q (.int .i64 r) ⟨m, n'⟩)) : ACall vE 53 args ⟨m, n⟩ Q := by
 rw [jrd_count] at h
 subst ha
 refine ent hQ Try.func53 rfl Try.ntmps53 Try.results53 (.q (.r []) (.q (.q (.r []) (.c (.q (.r []) .z) .z)) (.q (.r []) .z))) fun R hR => ?_
 replace h := And.intro trivial h
 replace h := ite_a h
 rcases h with h | h
 obtain ⟨H, h⟩ := h
 cases h
 simp (disch := omega) only [vm, seval, H]
 refine ⟨(hR _ _ _ _ _ _ (by simp (disch := omega) only [vm, seval, H]; rfl) (.cons _ (List.Sublist.refl _)) ?_ (by omega) ?_).1⟩ <;> first | (simp (disch := omega) only [vm, seval, H]; done) | rfl
 obtain ⟨H, h⟩ := h
 cases h
 simp (disch := omega) only [vm, seval, H]
 refine ⟨(hR _ _ _ _ _ _ (by simp (disch := omega) only [vm, seval, H]; rfl) (.cons _ (List.Sublist.refl _)) ?_ (by omega) ?_).1⟩ <;> first | (simp (disch := omega) only [vm, seval, H]; done) | rfl
theorem jrd_Find_w {a0 a1 r} (h : jrd_Find N a0 a1 = some r) (ha : args = [encApiJRD a0, .str a1]) (hQ : ∀ n', n ≤ n' → Gl (Q (.slice 6 (List.map encApiLink r) false) ⟨m, n'⟩)) : ACall vE 17 args ⟨m, n⟩ Q := by
 rw [jrd_Find] at h
 subst ha
 refine ent hQ Try.func17 rfl Try.ntmps17 Try.results17 (.q (.r []) (.q (.r []) .z)) fun R hR => ?_
 replace h := And.intro trivial h
 simp (disch := omega) only [vm, seval, h.1]
 refine ⟨sjoin (γ := Unit) h [7, 8, 9, 10, 11, 12, 13, 14, 15, 16, 17, 18, 19, 20, 21, 22, 23, 24, 25, 26, 27, 28, 29, 30, 31] [5] (fun j1 g => [.slice 6 (List.map encApiLink j1) true]) (fun j1 g => (n, [.str a0.subject, .slice 1 (List.map AVal.str a0.aliases) false, .slice 3 (List.map encApiProperty a0.properties) false, .slice 6 (List.map encApiLink a0.links) false]) :: m) (.q (.r []) .z) ?_ ?_⟩ <;> clear h
 rintro j1 _ n4 hnn4 _ _ h
 refine wpc_snd (.q (.r []) .z) ?_
 obtain ⟨H, h⟩ := h
 cases h
 simp (disch := omega) only [vm, seval, H]
 refine ⟨(hR _ _ _ _ _ _ (by simp (disch := omega) only [vm, seval, H]; rfl) (.cons _ (List.Sublist.refl _)) ?_ (by omega) ?_).1⟩ <;> first | (simp (disch := omega) only [vm, seval, H]; done) | rfl
 intro k2 Jk2 hk2 h
 replace h := grd_a h
 obtain ⟨hfk5, h⟩ := h
 simp (disch := omega) only [vm, seval, h.1]
 refine ⟨sloopr (σ := (List ApiLink)) (γ := Unit) a0.links hfk5 (fun xs i s => jrd_Find_L1 N a1 k2 xs s) (fun i s g => [.slice 6 (List.map encApiLink s) true, .int .i64 i]) (fun i s g => (n, [.str a0.subject, .slice 1 (List.map AVal.str a0.aliases) false, .slice 3 (List.map encApiProperty a0.properties) false, .slice 6 (List.map encApiLink a0.links) false]) :: m) [7, 12, 13, 14, 15, 16, 17, 18, 19, 20, 21, 22, 23, 24, 25, 26, 27, 28, 29, 30, 31] [5, 11] [] () h (by first | (simp (disch := omega) only [vm, seval, h.1]; done) | rfl) (by first | (simp (disch := omega) only [vm, seval, h.1]; done) | rfl) ?_ ?_⟩ <;> clear h
 rintro s11 s5 _ nL0_1 hnL0_1 _ h
 change _ ∧ jrd_Find_L1 N a1 k2 [] s5 = _ at h
 rw [jrd_Find_L1] at h
 refine wpc_snd (.q (.r []) (.q (.c .z .z) .z)) ?_
 simp (disch := omega) only [vm, seval, h.1]
 refine ⟨hk2 s5 () _ _ _ _ h.2 (List.Sublist.refl _) ?_ ?_ ?_ (by omega)⟩ <;> first | (simp (disch := omega) only [vm, seval, h.1]; done) | rfl
 rintro xk5 xsk5 s11 s5 _ nL0_1 hnL0_1 _ h Jk5 hk5
 change _ ∧ jrd_Find_L1 N a1 k2 (xk5 :: xsk5) s5 = _ at h
 rw [jrd_Find_L1] at h
 refine wpc_snd (.q (.r []) (.q (.c .z .z) .z)) ?_
 simp (disch := omega) only [vm, seval, h.1]
 refine ⟨sjoin (γ := Unit) h [7, 13, 14, 15, 16, 17, 18, 19, 20, 21, 22, 23, 24, 25, 26, 27, 28, 29, 30] [5] (fun j6 g => [.slice 6 (List.map encApiLink j6) true]) (fun j6 g => (n, [.str a0.subject, .slice 1 (List.map AVal.str a0.aliases) false, .slice 3 (List.map encApiProperty a0.properties) false, .slice 6 (List.map encApiLink a0.links) false]) :: m) (.q (.r []) (.q (.r []) (.c (.q (.r []) (.q (.r []) (.r [27]))) .z))) ?_ ?_⟩ <;> clear h
 rintro j6 _ n9 hnn9 _ _ h
 refine wpc_snd (.r []) ?_
 simp (disch := omega) only [vm, seval, h.1]
 refine ⟨hk5 j6 () _ _ _ _ h.2 (List.Sublist.refl _) ?_ ?_ ?_ (by omega)⟩ <;> first | (simp (disch := omega) only [vm, seval, h.1]; done) | rfl
 intro k7 Jk7 hk7 h
 replace h := ite_a h
 rcases h with h | h
 replace h := grd_a h
 obtain ⟨c, h⟩ := h
 try simp only [liE, seval] at c
 replace h := and_in c h
 replace h := grd_a h
 obtain ⟨c, h⟩ := h
 try simp only [liE, seval] at c
 replace h := and_in c h
 replace h := grd_a h
 obtain ⟨c, h⟩ := h
 try simp only [liE, seval] at c
 replace h := and_in c h
 simp (disch := omega) only [vm, seval, h.1]
 refine ⟨hk7 (s5 ++ [xk5]) () _ _ _ _ h.2 (.cons _ (List.Sublist.refl _)) ?_ ?_ ?_ (by omega)⟩ <;> first | (simp (disch := omega) only [vm, seval, h.1]; done) | rfl
 simp (disch := omega) only [vm, seval, h.1]
 refine ⟨hk7 s5 () _ _ _ _ h.2 (.cons _ (List.Sublist.refl _)) ?_ ?_ ?_ (by omega)⟩ <;> first | (simp (disch := omega) only [vm, seval, h.1]; done) | rfl
theorem ref16_Text_w {a0 r} (h : ref16_Text N a0 = some r) (ha : args = [.str a0]) (hQ : ∀ n', n ≤ n' → Gl (Q (.agg [.int .i64 r.kind, .str r.text, .slice 1 (List.map AVal.str r.keys) true, .slice 4 (List.map encApiValue r.items) true]) ⟨m, n'⟩)) : ACall vE 16 args ⟨m, n⟩ Q := by
 rw [ref16_Text] at h
 subst ha
 refine ent hQ Try.func16 rfl Try.ntmps16 Try.results16 (.q (.r []) (.q (.r []) .z)) fun R hR => ?_
 replace h := And.intro trivial h
 obtain ⟨H, h⟩ := h
 cases h
 simp (disch := omega) only [vm, seval, H]
 refine ⟨(hR _ _ _ _ _ _ (by simp (disch := omega) only [vm, seval, H]; rfl) (.cons _ (List.Sublist.refl _)) ?_ (by omega) ?_).1⟩ <;> first | (simp (disch := omega) only [vm, seval, H]; done) | rfl
end Go.Proofs.Ytdbeiialamganaa
