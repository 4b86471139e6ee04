/- That the code computes these functions; written by decomp.py. -/
import Derived.Test.YtbmilkoebhmnnaaGreatDoorVmFacts
import Derived.Test.YtbmilkoebhmnnaaGreatDoorDefs
import Derived.Test.YtbmilkoebhmnnaaGreatDoorVM2
import Derived.Test.YtbmilkoebhmnnaaGreatDoorW0
import Derived.Test.YtbmilkoebhmnnaaGreatDoorW1
set_option linter.unusedVariables false
set_option linter.unusedSimpArgs false
set_option maxHeartbeats 4000000
set_option maxRecDepth 100000
set_option linter.defProp false
namespace Go.Proofs.YtbmilkoebhmnnaaGreatDoor
open Go.VM
variable {N n : Nat} {m : MS} {Q : PQ} {args : List AVal}
theorem ref13_exponent_w {a0 r} (h : ref13_exponent N a0 = some r) (ha : args = [.str a0]) (hQ : ∀ n', n ≤ n' → Gl (Q (.int .i64 r) ⟨m, n'⟩)) : ACall vE 58 args ⟨m, n⟩ Q := by
 rw [ref13_exponent] at h
 subst ha
 refine ent hQ Tryz.func58 rfl Tryz.ntmps58 Tryz.results58 (.q (.r []) .z) fun R hR => ?_
 replace h := And.intro trivial h
 simp (disch := omega) only [vm, seval, h.1]
 refine ⟨sjoin (γ := Unit) h [6, 7, 8, 9, 10, 11, 12] [3] (fun j1 g => [.bool j1]) (fun j1 g => m) (.r []) ?_ ?_⟩ <;> clear h
 rintro j1 _ n4 hnn4 _ _ h
 refine wpc_snd .z ?_
 simp (disch := omega) only [vm, seval, h.1]
 refine ⟨sjoin (γ := Unit) h [13, 14, 15, 16, 17, 18, 19, 20, 21] [0] (fun j6 g => [.str j6]) (fun j6 g => m) .z ?_ ?_⟩ <;> clear h
 rintro j6 _ n9 hnn9 _ _ h
 refine wpc_snd (.q (.r []) .z) ?_
 simp (disch := omega) only [vm, seval, h.1]
 refine ⟨sjoin (γ := Unit) h [5, 22, 23, 24, 25, 26, 27, 28, 29, 30, 31, 32, 33, 34, 35, 36] [4] (fun j18 g => [.int .i64 j18]) (fun j18 g => m) (.q (.r []) .z) ?_ ?_⟩ <;> clear h
 rintro j18 _ n21 hnn21 _ _ h
 refine wpc_snd (.q (.q (.r []) (.c (.q (.r []) .z) .z)) (.q (.r []) .z)) ?_
 replace h := ite_a h
 rcases h with h | h
 obtain ⟨H, h⟩ := h
 cases h
 simp (disch := omega) only [vm, seval, H]
 refine ⟨(hR _ _ _ _ _ _ (by simp (disch := omega) only [vm, seval, H]; rfl) (List.Sublist.refl _) ?_ (by omega) ?_).1⟩ <;> first | (simp (disch := omega) only [vm, seval, H]; done) | rfl
 obtain ⟨H, h⟩ := h
 cases h
 simp (disch := omega) only [vm, seval, H]
 refine ⟨(hR _ _ _ _ _ _ (by simp (disch := omega) only [vm, seval, H]; rfl) (List.Sublist.refl _) ?_ (by omega) ?_).1⟩ <;> first | (simp (disch := omega) only [vm, seval, H]; done) | rfl
 intro k19 Jk19 hk19 h
 replace h := grd_a h
 obtain ⟨hfk22, h⟩ := h
 simp (disch := omega) only [vm, seval, h.1]
 refine ⟨sloopr (σ := Int) (γ := Unit) j6 hfk22 (fun xs i s => ref13_exponent_L1 N k19 xs s) (fun i s g => [.int .i64 s, .int .i64 i]) (fun i s g => m) [22, 23, 24, 25, 26, 27, 28, 29, 30, 31, 32, 33, 34, 35, 36] [4, 5] 0 () h (by first | (simp (disch := omega) only [vm, seval, h.1]; done) | rfl) (by first | (simp (disch := omega) only [vm, seval, h.1]; done) | rfl) ?_ ?_⟩ <;> clear h
 rintro s5 s4 _ nL0_1 hnL0_1 _ h
 change _ ∧ ref13_exponent_L1 N k19 [] s4 = _ at h
 rw [ref13_exponent_L1] at h
 refine wpc_snd (.q (.q (.r []) (.c .z .z)) (.q (.r []) (.r []))) ?_
 simp (disch := omega) only [vm, seval, h.1]
 refine ⟨hk19 s4 () _ _ _ _ h.2 (List.Sublist.refl _) ?_ ?_ ?_ (by omega)⟩ <;> first | (simp (disch := omega) only [vm, seval, h.1]; done) | rfl
 rintro xk22 xsk22 s5 s4 _ nL0_1 hnL0_1 _ h Jk22 hk22
 change _ ∧ ref13_exponent_L1 N k19 (xk22 :: xsk22) s4 = _ at h
 rw [ref13_exponent_L1] at h
 refine wpc_snd (.q (.q (.r []) (.c .z .z)) (.q (.r []) (.r []))) ?_
 simp (disch := omega) only [vm, seval, h.1]
 refine ⟨hk22 (if 1073741824 < (wr .i64 ((wr .i64 (s4 * 10)) + (wr .i64 (wr .u8 ((bord xk22) - 48))))) then 1073741824 else (wr .i64 ((wr .i64 (s4 * 10)) + (wr .i64 (wr .u8 ((bord xk22) - 48)))))) () _ _ _ _ h.2 (List.Sublist.refl _) ?_ ?_ ?_ (by omega)⟩ <;> first | (simp (disch := omega) only [vm, seval, h.1]; done) | rfl
 intro k7 Jk7 hk7 h
 simp (disch := omega) only [vm, seval, h.1]
 refine ⟨sjoin (γ := Unit) h [13, 14, 15, 16, 17, 18] [19] (fun j10 g => [.bool j10]) (fun j10 g => m) (.r []) ?_ ?_⟩ <;> clear h
 rintro j10 _ n13 hnn13 _ _ h
 refine wpc_snd (.c (.r []) .z) ?_
 replace h := ite_a h
 rcases h with h | h
 replace h := bind_a h
 obtain ⟨x17, h⟩ := h
 simp (disch := omega) only [vm, seval, h.1]
 refine ⟨hk7 x17 () _ _ _ _ h.2 (List.Sublist.refl _) ?_ ?_ ?_ (by omega)⟩ <;> first | (simp (disch := omega) only [vm, seval, h.1]; done) | rfl
 simp (disch := omega) only [vm, seval, h.1]
 refine ⟨hk7 a0 () _ _ _ _ h.2 (List.Sublist.refl _) ?_ ?_ ?_ (by omega)⟩ <;> first | (simp (disch := omega) only [vm, seval, h.1]; done) | rfl
 intro k11 Jk11 hk11 h
 replace h := ite_a h
 rcases h with h | h
 simp (disch := omega) only [vm, seval, h.1]
 refine ⟨hk11 false () _ _ _ _ h.2 (List.Sublist.refl _) ?_ ?_ ?_ (by omega)⟩ <;> first | (simp (disch := omega) only [vm, seval, h.1]; done) | rfl
 replace h := bind_a h
 obtain ⟨x14, h⟩ := h
 replace h := bind_a h
 obtain ⟨y15, h⟩ := h
 simp (disch := omega) only [vm, seval, h.1]
 refine ⟨ref01_In_w h.1.1 (by first | (simp (disch := omega) only [vm, seval, h.1]; done) | rfl) fun n16 hn16 => ?_⟩
 simp (disch := omega) only [vm, seval, h.1]
 refine ⟨hk11 y15 () _ _ _ _ h.2 (List.Sublist.refl _) ?_ ?_ ?_ (by omega)⟩ <;> first | (simp (disch := omega) only [vm, seval, h.1]; done) | rfl
 intro k2 Jk2 hk2 h
 replace h := ite_a h
 rcases h with h | h
 simp (disch := omega) only [vm, seval, h.1]
 refine ⟨hk2 false () _ _ _ _ h.2 (List.Sublist.refl _) ?_ ?_ ?_ (by omega)⟩ <;> first | (simp (disch := omega) only [vm, seval, h.1]; done) | rfl
 replace h := bind_a h
 obtain ⟨x5, h⟩ := h
 simp (disch := omega) only [vm, seval, h.1]
 refine ⟨hk2 ((bord x5) == 45) () _ _ _ _ h.2 (List.Sublist.refl _) ?_ ?_ ?_ (by omega)⟩ <;> first | (simp (disch := omega) only [vm, seval, h.1]; done) | rfl
theorem ref02_Encode_w {a0 r} (h : ref02_Encode N a0 = some r) (ha : args = [.int .i64 a0]) (hQ : ∀ n', n ≤ n' → Gl (Q (.tuple [.str r.1, .int .i64 r.2]) ⟨m, n'⟩)) : ACall vE 104 args ⟨m, n⟩ Q := by
 rw [ref02_Encode] at h
 subst ha
 refine ent hQ Tryz.func104 rfl Tryz.ntmps104 Tryz.results104 (.q (.r []) (.q (.q (.r []) (.c (.q (.r []) .z) (.q (.r []) (.c (.q (.r []) .z) (.q (.r []) (.c (.q (.r []) .z) (.q (.r []) (.c (.q (.r []) .z) .z)))))))) (.q (.r []) .z))) fun R hR => ?_
 replace h := And.intro trivial h
 replace h := bind_a h
 obtain ⟨y1, h⟩ := h
 simp (disch := omega) only [vm, seval, h.1]
 refine ⟨ref02_point_w h.1.1 (by first | (simp (disch := omega) only [vm, seval, h.1]; done) | rfl) fun n2 hn2 => ?_⟩
 replace h := ite_a h
 rcases h with h | h
 replace h := ite_a h
 rcases h with h | h
 obtain ⟨H, h⟩ := h
 cases h
 simp (disch := omega) only [vm, seval, H]
 refine ⟨(hR _ _ _ _ _ _ (by simp (disch := omega) only [vm, seval, H]; rfl) (List.Sublist.refl _) ?_ (by omega) ?_).1⟩ <;> first | (simp (disch := omega) only [vm, seval, H]; done) | rfl
 replace h := ite_a h
 rcases h with h | h
 refine letL_a h ?_
 clear h
 intro l3 c h
 replace c := congrArg (List.map (AVal.int .u8)) c
 simp only [List.map_cons, List.map_nil, eE] at c
 replace h := and_in c h
 obtain ⟨H, h⟩ := h
 cases h
 simp (disch := omega) only [vm, seval, H]
 refine ⟨(hR _ _ _ _ _ _ (by simp (disch := omega) only [vm, seval, H]; rfl) (List.Sublist.refl _) ?_ (by omega) ?_).1⟩ <;> first | (simp (disch := omega) only [vm, seval, H]; done) | rfl
 replace h := ite_a h
 rcases h with h | h
 refine letL_a h ?_
 clear h
 intro l4 c h
 replace c := congrArg (List.map (AVal.int .u8)) c
 simp only [List.map_cons, List.map_nil, eE] at c
 replace h := and_in c h
 obtain ⟨H, h⟩ := h
 cases h
 simp (disch := omega) only [vm, seval, H]
 refine ⟨(hR _ _ _ _ _ _ (by simp (disch := omega) only [vm, seval, H]; rfl) (List.Sublist.refl _) ?_ (by omega) ?_).1⟩ <;> first | (simp (disch := omega) only [vm, seval, H]; done) | rfl
 refine letL_a h ?_
 clear h
 intro l5 c h
 replace c := congrArg (List.map (AVal.int .u8)) c
 simp only [List.map_cons, List.map_nil, eE] at c
 replace h := and_in c h
 obtain ⟨H, h⟩ := h
 cases h
 simp (disch := omega) only [vm, seval, H]
 refine ⟨(hR _ _ _ _ _ _ (by simp (disch := omega) only [vm, seval, H]; rfl) (List.Sublist.refl _) ?_ (by omega) ?_).1⟩ <;> first | (simp (disch := omega) only [vm, seval, H]; done) | rfl
 obtain ⟨H, h⟩ := h
 cases h
 simp (disch := omega) only [vm, seval, H]
 refine ⟨(hR _ _ _ _ _ _ (by simp (disch := omega) only [vm, seval, H]; rfl) (List.Sublist.refl _) ?_ (by omega) ?_).1⟩ <;> first | (simp (disch := omega) only [vm, seval, H]; done) | rfl
theorem keep_Value_w {a0 a1 r} (h : keep_Value N a0 a1 = some r) (ha : args = [encApiValue a0, .int .i64 a1]) (hQ : ∀ n', n ≤ n' → Gl (Q (.bool r) ⟨m, n'⟩)) : ACall vE 11 args ⟨m, n⟩ Q := by
 rw [keep_Value] at h
 subst ha
 refine ent hQ Tryz.func11 rfl Tryz.ntmps11 Tryz.results11 (.q (.r []) (.q (.r []) .z)) fun R hR => ?_
 replace h := And.intro trivial h
 replace h := bind_a h
 obtain ⟨y1, h⟩ := h
 simp (disch := omega) only [vm, seval, h.1]
 refine ⟨keep_size_w h.1.1 (by first | (simp (disch := omega) only [vm, seval, h.1]; done) | rfl) fun n2 hn2 => ?_⟩
 obtain ⟨H, h⟩ := h
 cases h
 simp (disch := omega) only [vm, seval, H]
 refine ⟨(hR _ _ _ _ _ _ (by simp (disch := omega) only [vm, seval, H]; rfl) (.cons _ (List.Sublist.refl _)) ?_ (by omega) ?_).1⟩ <;> first | (simp (disch := omega) only [vm, seval, H]; done) | rfl
theorem ref14_Equal_rec (N : Nat) : ∀ D : Nat, (∀ {a0 : ApiValue} {a1 : ApiValue} {r : Bool} (h : ref14_Equal N D a0 a1 = some r) {args : List AVal} {n : Nat} {m : MS} (ha : args = [encApiValue a0, encApiValue a1]) {Q : PQ} (hQ : ∀ n', n ≤ n' → Gl (Q (.bool r) ⟨m, n'⟩)), ACall vE 18 args ⟨m, n⟩ Q) := by
 intro D
 induction D with
 | zero =>
  intro a0 a1 r h
  simp only [ref14_Equal, reduceCtorEq] at h
 | succ D ih_ref14_Equal =>
  intro a0 a1 r h args n m ha Q hQ
  rw [ref14_Equal] at h
  subst ha
  refine ent_s hQ Tryz.func18 rfl Tryz.ntmps18 Tryz.results18 (.q (.r []) (.q .z (.q (.q (.r []) .z) (.q (.r []) .z)))) fun R hR => ?_
  replace h := And.intro trivial h
  simp (disch := omega) only [vm, seval, h.1]
  refine ⟨sjoin (γ := Unit) h [12, 13, 14, 15, 16, 17, 18, 19, 20, 21, 22, 23, 24, 25, 26, 27, 28, 29, 30, 31, 32, 33] [34] (fun j1 g => [.bool j1]) (fun j1 g => ((n + 1), [.int .i64 a1.kind, .str a1.text, .slice 1 (List.map AVal.str a1.keys) false, .slice 4 (List.map encApiValue a1.items) false]) :: (n, [.int .i64 a0.kind, .str a0.text, .slice 1 (List.map AVal.str a0.keys) false, .slice 4 (List.map encApiValue a0.items) false]) :: m) (.r []) ?_ ?_⟩ <;> clear h
  rintro j1 _ n4 hnn4 _ _ h
  refine wpc_snd (.c (.q (.r []) .z) .z) ?_
  replace h := ite_a h
  rcases h with h | h
  obtain ⟨H, h⟩ := h
  cases h
  simp (disch := omega) only [vm, seval, H]
  refine ⟨(hR _ _ _ _ _ _ (by simp (disch := omega) only [vm, seval, H]; rfl) (.cons _ (.cons _ (List.Sublist.refl _))) ?_ (by omega) ?_).1⟩ <;> first | (simp (disch := omega) only [vm, seval, H]; done) | rfl
  simp (disch := omega) only [vm, seval, h.1]
  refine ⟨sjoin (γ := Unit) h [38, 39, 40] [37] (fun j5 g => [.bool j5]) (fun j5 g => ((n + 1), [.int .i64 a1.kind, .str a1.text, .slice 1 (List.map AVal.str a1.keys) false, .slice 4 (List.map encApiValue a1.items) false]) :: (n, [.int .i64 a0.kind, .str a0.text, .slice 1 (List.map AVal.str a0.keys) false, .slice 4 (List.map encApiValue a0.items) false]) :: m) (.q (.r []) (.c .z (.q (.r []) (.c .z (.r []))))) ?_ ?_⟩ <;> clear h
  rintro j5 _ n8 hnn8 _ _ h
  refine wpc_snd (.c (.q (.r []) .z) .z) ?_
  replace h := ite_a h
  rcases h with h | h
  obtain ⟨H, h⟩ := h
  cases h
  simp (disch := omega) only [vm, seval, H]
  refine ⟨(hR _ _ _ _ _ _ (by simp (disch := omega) only [vm, seval, H]; rfl) (.cons _ (.cons _ (List.Sublist.refl _))) ?_ (by omega) ?_).1⟩ <;> first | (simp (disch := omega) only [vm, seval, H]; done) | rfl
  simp (disch := omega) only [vm, seval, h.1]
  refine ⟨sjoin (γ := Unit) h [42, 43] [41] (fun j9 g => [.bool j9]) (fun j9 g => ((n + 1), [.int .i64 a1.kind, .str a1.text, .slice 1 (List.map AVal.str a1.keys) false, .slice 4 (List.map encApiValue a1.items) false]) :: (n, [.int .i64 a0.kind, .str a0.text, .slice 1 (List.map AVal.str a0.keys) false, .slice 4 (List.map encApiValue a0.items) false]) :: m) (.q (.r []) (.c .z (.r []))) ?_ ?_⟩ <;> clear h
  rintro j9 _ n12 hnn12 _ _ h
  refine wpc_snd (.c (.q (.r []) .z) (.q (.r []) (.c .z (.q (.r []) (.c .z .z))))) ?_
  replace h := ite_a h
  rcases h with h | h
  obtain ⟨H, h⟩ := h
  cases h
  simp (disch := omega) only [vm, seval, H]
  refine ⟨(hR _ _ _ _ _ _ (by simp (disch := omega) only [vm, seval, H]; rfl) (.cons _ (.cons _ (List.Sublist.refl _))) ?_ (by omega) ?_).1⟩ <;> first | (simp (disch := omega) only [vm, seval, H]; done) | rfl
  replace h := ite_a h
  rcases h with h | h
  simp (disch := omega) only [vm, seval, h.1]
  refine ⟨sjoin (γ := Unit) h [4, 5, 51, 52, 53, 54, 55, 56, 57, 58, 59, 60, 61, 62, 63, 64, 65, 66, 67, 68, 69] [] (fun j13 g => []) (fun j13 g => ((n + 1), [.int .i64 a1.kind, .str a1.text, .slice 1 (List.map AVal.str a1.keys) false, .slice 4 (List.map encApiValue a1.items) false]) :: (n, [.int .i64 a0.kind, .str a0.text, .slice 1 (List.map AVal.str a0.keys) false, .slice 4 (List.map encApiValue a0.items) false]) :: m) (.q (.r []) .z) ?_ ?_⟩ <;> clear h
  rintro j13 _ n16 hnn16 _ _ h
  refine wpc_snd (.q (.r []) .z) ?_
  obtain ⟨H, h⟩ := h
  cases h
  simp (disch := omega) only [vm, seval, H]
  refine ⟨(hR _ _ _ _ _ _ (by simp (disch := omega) only [vm, seval, H]; rfl) (.cons _ (.cons _ (List.Sublist.refl _))) ?_ (by omega) ?_).1⟩ <;> first | (simp (disch := omega) only [vm, seval, H]; done) | rfl
  intro k14 Jk14 hk14 h
  replace h := grd_a h
  obtain ⟨hfk17, h⟩ := h
  simp (disch := omega) only [vm, seval, h.1]
  refine ⟨sloopr (σ := Unit) (γ := Unit) a0.items hfk17 (fun xs i s => ref14_Equal_L1 N a1 (ref14_Equal N D) k14 xs i) (fun i s g => [.int .i64 i]) (fun i s g => ((n + 1), [.int .i64 a1.kind, .str a1.text, .slice 1 (List.map AVal.str a1.keys) false, .slice 4 (List.map encApiValue a1.items) false]) :: (n, [.int .i64 a0.kind, .str a0.text, .slice 1 (List.map AVal.str a0.keys) false, .slice 4 (List.map encApiValue a0.items) false]) :: m) [4, 5, 55, 56, 57, 58, 59, 60, 61, 62, 63, 64, 65, 66, 67, 68, 69] [54] () () h (by first | (simp (disch := omega) only [vm, seval, h.1]; done) | rfl) (by first | (simp (disch := omega) only [vm, seval, h.1]; done) | rfl) ?_ ?_⟩ <;> clear h
  rintro s54 _ _ nL0_1 hnL0_1 _ h
  change _ ∧ ref14_Equal_L1 N a1 (ref14_Equal N D) k14 [] s54 = _ at h
  rw [ref14_Equal_L1] at h
  refine wpc_snd (.q (.r []) (.q (.c .z .z) (.q (.q (.r []) (.q .z (.c (.q (.r []) .z) .z))) (.r [])))) ?_
  simp (disch := omega) only [vm, seval, h.1]
  refine ⟨hk14 () () _ _ _ _ h.2 (List.Sublist.refl _) ?_ ?_ ?_ (by omega)⟩ <;> first | (simp (disch := omega) only [vm, seval, h.1]; done) | rfl
  rintro xk17 xsk17 s54 _ _ nL0_1 hnL0_1 _ h Jk17 hk17
  change _ ∧ ref14_Equal_L1 N a1 (ref14_Equal N D) k14 (xk17 :: xsk17) s54 = _ at h
  rw [ref14_Equal_L1] at h
  refine wpc_snd (.q (.r []) (.q (.c .z .z) (.q (.q (.r []) (.q .z (.c (.q (.r []) .z) .z))) (.r [])))) ?_
  replace h := bind_a h
  obtain ⟨x18, h⟩ := h
  replace h := bind_a h
  obtain ⟨y19, h⟩ := h
  have cy19 := h.1.1
  simp (disch := omega) only [vm, seval, h.1]
  refine ⟨awp_drw [] (.take 0 (.take 1 (.take 2 (.take 3 (.take 4 (.take 5 (.take 6 (.take 7 (.take 8 (.take 9 (.alt 10 [8, 7, 6, 5, 3, 2, 1, 0] (.take 11 (.done)) (.stop)))))))))))) vE_mixed (by kernel_rfl) ?_⟩
  simp (disch := omega) only [vm, seval, h.1]
  refine ⟨ih_ref14_Equal cy19 (by first | (simp (disch := omega) only [vm, seval, h.1]; done) | rfl) fun n20 hn20 => ?_⟩
  replace h := ite_a h
  rcases h with h | h
  simp (disch := omega) only [vm, seval, h.1]
  refine ⟨hk17 () () _ _ _ _ h.2 (List.Sublist.refl _) ?_ ?_ ?_ (by omega)⟩ <;> first | (simp (disch := omega) only [vm, seval, h.1]; done) | rfl
  obtain ⟨H, h⟩ := h
  cases h
  simp (disch := omega) only [vm, seval, H]
  refine ⟨(hR _ _ _ _ _ _ (by simp (disch := omega) only [vm, seval, H]; rfl) (.cons _ (.cons _ (List.Sublist.refl _))) ?_ (by omega) ?_).1⟩ <;> first | (simp (disch := omega) only [vm, seval, H]; done) | rfl
  replace h := ite_a h
  rcases h with h | h
  simp (disch := omega) only [vm, seval, h.1]
  refine ⟨sjoin (γ := Unit) h [4, 7, 8, 9, 10, 11, 72, 73, 74, 75, 76, 77, 78, 79, 80, 81, 82, 83, 84, 85, 86, 87, 88, 89, 90, 91, 92, 93, 94, 95, 96, 97, 98, 99, 100, 101, 102, 103] [] (fun j21 g => []) (fun j21 g => ((n + 1), [.int .i64 a1.kind, .str a1.text, .slice 1 (List.map AVal.str a1.keys) false, .slice 4 (List.map encApiValue a1.items) false]) :: (n, [.int .i64 a0.kind, .str a0.text, .slice 1 (List.map AVal.str a0.keys) false, .slice 4 (List.map encApiValue a0.items) false]) :: m) (.q (.r []) .z) ?_ ?_⟩ <;> clear h
  rintro j21 _ n24 hnn24 _ _ h
  refine wpc_snd (.q (.r []) .z) ?_
  obtain ⟨H, h⟩ := h
  cases h
  simp (disch := omega) only [vm, seval, H]
  refine ⟨(hR _ _ _ _ _ _ (by simp (disch := omega) only [vm, seval, H]; rfl) (.cons _ (.cons _ (List.Sublist.refl _))) ?_ (by omega) ?_).1⟩ <;> first | (simp (disch := omega) only [vm, seval, H]; done) | rfl
  intro k22 Jk22 hk22 h
  replace h := grd_a h
  obtain ⟨hfk25, h⟩ := h
  simp (disch := omega) only [vm, seval, h.1]
  refine ⟨sloopr (σ := Unit) (γ := Unit) a0.keys hfk25 (fun xs i s => ref14_Equal_L2 N a0 a1 (ref14_Equal N D) k22 xs) (fun i s g => [.int .i64 i]) (fun i s g => ((n + 1), [.int .i64 a1.kind, .str a1.text, .slice 1 (List.map AVal.str a1.keys) false, .slice 4 (List.map encApiValue a1.items) false]) :: (n, [.int .i64 a0.kind, .str a0.text, .slice 1 (List.map AVal.str a0.keys) false, .slice 4 (List.map encApiValue a0.items) false]) :: m) [4, 7, 8, 9, 10, 11, 76, 77, 78, 79, 80, 81, 82, 83, 84, 85, 86, 87, 88, 89, 90, 91, 92, 93, 94, 95, 96, 97, 98, 99, 100, 101, 102, 103] [75] () () h (by first | (simp (disch := omega) only [vm, seval, h.1]; done) | rfl) (by first | (simp (disch := omega) only [vm, seval, h.1]; done) | rfl) ?_ ?_⟩ <;> clear h
  rintro s75 _ _ nL1_1 hnL1_1 _ h
  change _ ∧ ref14_Equal_L2 N a0 a1 (ref14_Equal N D) k22 [] = _ at h
  rw [ref14_Equal_L2] at h
  refine wpc_snd (.q (.r []) (.q (.c .z .z) (.q (.q (.r []) (.q (.r []) (.q (.r []) .z))) (.r [])))) ?_
  simp (disch := omega) only [vm, seval, h.1]
  refine ⟨hk22 () () _ _ _ _ h.2 (List.Sublist.refl _) ?_ ?_ ?_ (by omega)⟩ <;> first | (simp (disch := omega) only [vm, seval, h.1]; done) | rfl
  rintro xk25 xsk25 s75 _ _ nL1_1 hnL1_1 _ h Jk25 hk25
  change _ ∧ ref14_Equal_L2 N a0 a1 (ref14_Equal N D) k22 (xk25 :: xsk25) = _ at h
  rw [ref14_Equal_L2] at h
  refine wpc_snd (.q (.r []) (.q (.c .z .z) (.q (.q (.r []) (.q (.r []) (.q (.r []) .z))) (.r [])))) ?_
  replace h := bind_a h
  obtain ⟨y26, h⟩ := h
  simp (disch := omega) only [vm, seval, h.1]
  refine ⟨ref14_Get_w h.1.1 (by first | (simp (disch := omega) only [vm, seval, h.1]; done) | rfl) fun n27 hn27 => ?_⟩
  replace h := bind_a h
  obtain ⟨y28, h⟩ := h
  simp (disch := omega) only [vm, seval, h.1]
  refine ⟨ref14_Get_w h.1.1 (by first | (simp (disch := omega) only [vm, seval, h.1]; done) | rfl) fun n29 hn29 => ?_⟩
  simp (disch := omega) only [vm, seval, h.1]
  refine ⟨sjoin (γ := Unit) h [91, 92, 93, 94, 95, 96, 97, 98, 99, 100, 101] [102] (fun j30 g => [.bool j30]) (fun j30 g => (n29, [.int .i64 y28.1.kind, .str y28.1.text, .slice 1 (List.map AVal.str y28.1.keys) false, .slice 4 (List.map encApiValue y28.1.items) false]) :: (n27, [.int .i64 y26.1.kind, .str y26.1.text, .slice 1 (List.map AVal.str y26.1.keys) false, .slice 4 (List.map encApiValue y26.1.items) false]) :: ((n + 1), [.int .i64 a1.kind, .str a1.text, .slice 1 (List.map AVal.str a1.keys) false, .slice 4 (List.map encApiValue a1.items) false]) :: (n, [.int .i64 a0.kind, .str a0.text, .slice 1 (List.map AVal.str a0.keys) false, .slice 4 (List.map encApiValue a0.items) false]) :: m) (.r []) ?_ ?_⟩ <;> clear h
  rintro j30 _ n33 hnn33 _ _ h
  refine wpc_snd (.c (.q (.r []) .z) .z) ?_
  replace h := ite_a h
  rcases h with h | h
  obtain ⟨H, h⟩ := h
  cases h
  simp (disch := omega) only [vm, seval, H]
  refine ⟨(hR _ _ _ _ _ _ (by simp (disch := omega) only [vm, seval, H]; rfl) (.cons _ (.cons _ (.cons _ (.cons _ (List.Sublist.refl _))))) ?_ (by omega) ?_).1⟩ <;> first | (simp (disch := omega) only [vm, seval, H]; done) | rfl
  simp (disch := omega) only [vm, seval, h.1]
  refine ⟨hk25 () () _ _ _ _ h.2 (.cons _ (.cons _ (List.Sublist.refl _))) ?_ ?_ ?_ (by omega)⟩ <;> first | (simp (disch := omega) only [vm, seval, h.1]; done) | rfl
  intro k31 Jk31 hk31 h
  replace h := ite_a h
  rcases h with h | h
  replace h := ite_a h
  rcases h with h | h
  replace h := bind_a h
  obtain ⟨y34, h⟩ := h
  simp (disch := omega) only [vm, seval, h.1]
  refine ⟨ih_ref14_Equal h.1.1 (by first | (simp (disch := omega) only [vm, seval, h.1]; done) | rfl) fun n35 hn35 => ?_⟩
  simp (disch := omega) only [vm, seval, h.1]
  refine ⟨hk31 (!y34) () _ _ _ _ h.2 (List.Sublist.refl _) ?_ ?_ ?_ (by omega)⟩ <;> first | (simp (disch := omega) only [vm, seval, h.1]; done) | rfl
  simp (disch := omega) only [vm, seval, h.1]
  refine ⟨hk31 true () _ _ _ _ h.2 (List.Sublist.refl _) ?_ ?_ ?_ (by omega)⟩ <;> first | (simp (disch := omega) only [vm, seval, h.1]; done) | rfl
  simp (disch := omega) only [vm, seval, h.1]
  refine ⟨hk31 true () _ _ _ _ h.2 (List.Sublist.refl _) ?_ ?_ ?_ (by omega)⟩ <;> first | (simp (disch := omega) only [vm, seval, h.1]; done) | rfl
  obtain ⟨H, h⟩ := h
  cases h
  simp (disch := omega) only [vm, seval, H]
  refine ⟨(hR _ _ _ _ _ _ (by simp (disch := omega) only [vm, seval, H]; rfl) (.cons _ (.cons _ (List.Sublist.refl _))) ?_ (by omega) ?_).1⟩ <;> first | (simp (disch := omega) only [vm, seval, H]; done) | rfl
  intro k10 Jk10 hk10 h
  replace h := ite_a h
  rcases h with h | h
  simp (disch := omega) only [vm, seval, h.1]
  refine ⟨hk10 (a0.kind == 4) () _ _ _ _ h.2 (List.Sublist.refl _) ?_ ?_ ?_ (by omega)⟩ <;> first | (simp (disch := omega) only [vm, seval, h.1]; done) | rfl
  simp (disch := omega) only [vm, seval, h.1]
  refine ⟨hk10 (a0.kind == 5) () _ _ _ _ h.2 (List.Sublist.refl _) ?_ ?_ ?_ (by omega)⟩ <;> first | (simp (disch := omega) only [vm, seval, h.1]; done) | rfl
  intro k6 Jk6 hk6 h
  replace h := ite_a h
  rcases h with h | h
  simp (disch := omega) only [vm, seval, h.1]
  refine ⟨hk6 (a0.kind == 1) () _ _ _ _ h.2 (List.Sublist.refl _) ?_ ?_ ?_ (by omega)⟩ <;> first | (simp (disch := omega) only [vm, seval, h.1]; done) | rfl
  replace h := ite_a h
  rcases h with h | h
  simp (disch := omega) only [vm, seval, h.1]
  refine ⟨hk6 (a0.kind == 3) () _ _ _ _ h.2 (List.Sublist.refl _) ?_ ?_ ?_ (by omega)⟩ <;> first | (simp (disch := omega) only [vm, seval, h.1]; done) | rfl
  simp (disch := omega) only [vm, seval, h.1]
  refine ⟨hk6 (a0.kind == 2) () _ _ _ _ h.2 (List.Sublist.refl _) ?_ ?_ ?_ (by omega)⟩ <;> first | (simp (disch := omega) only [vm, seval, h.1]; done) | rfl
  intro k2 Jk2 hk2 h
  replace h := ite_a h
  rcases h with h | h
  simp (disch := omega) only [vm, seval, h.1]
  refine ⟨hk2 true () _ _ _ _ h.2 (List.Sublist.refl _) ?_ ?_ ?_ (by omega)⟩ <;> first | (simp (disch := omega) only [vm, seval, h.1]; done) | rfl
  replace h := ite_a h
  rcases h with h | h
  simp (disch := omega) only [vm, seval, h.1]
  refine ⟨hk2 true () _ _ _ _ h.2 (List.Sublist.refl _) ?_ ?_ ?_ (by omega)⟩ <;> first | (simp (disch := omega) only [vm, seval, h.1]; done) | rfl
  simp (disch := omega) only [vm, seval, h.1]
  refine ⟨hk2 ((a0.keys.length : Int) != (a1.keys.length : Int)) () _ _ _ _ h.2 (List.Sublist.refl _) ?_ ?_ ?_ (by omega)⟩ <;> first | (simp (disch := omega) only [vm, seval, h.1]; done) | rfl
theorem ref14_Equal_w {a0 a1 r} (h : ref14_Equal N N a0 a1 = some r) (ha : args = [encApiValue a0, encApiValue a1]) (hQ : ∀ n', n ≤ n' → Gl (Q (.bool r) ⟨m, n'⟩)) : ACall vE 18 args ⟨m, n⟩ Q :=
 (ref14_Equal_rec N N h ha hQ)
end Go.Proofs.YtbmilkoebhmnnaaGreatDoor
