/- That the code computes these functions; written by decomp.py. -/
import Derived.Test.YtbmilkoebhmnnaaGreatDoorVmFacts
import Derived.Test.YtbmilkoebhmnnaaGreatDoorDefs
import Derived.Test.YtbmilkoebhmnnaaGreatDoorVM2
set_option linter.unusedVariables false
set_option linter.unusedSimpArgs false
set_option maxHeartbeats 4000000
set_option maxRecDepth 100000
set_option linter.defProp false
namespace Go.Proofs.YtbmilkoebhmnnaaGreatDoor
open Go.VM
variable {N n : Nat} {m : MS} {Q : PQ} {args : List AVal}
theorem ref14_Get_w {a0 a1 r} (h : ref14_Get N a0 a1 = some r) (ha : args = [encApiValue a0, .str a1]) (hQ : ∀ n', n ≤ n' → Gl (Q (.tuple [encApiValue r.1, .bool r.2]) ⟨m, n'⟩)) : ACall vE 17 args ⟨m, n⟩ Q := by
 rw [ref14_Get] at h
 subst ha
 refine ent_s hQ Tryz.func17 rfl Tryz.ntmps17 Tryz.results17 (.q (.r []) (.q (.q (.r []) (.c (.q (.r []) .z) .z)) .z)) fun R hR => ?_
 replace h := And.intro trivial h
 replace h := ite_a h
 rcases h with h | h
 obtain ⟨H, h⟩ := h
 cases h
 simp (disch := omega) only [vm, seval, H]
 refine ⟨(hR _ _ _ _ _ _ (by simp (disch := omega) only [vm, seval, H]; rfl) (.cons _ (.cons _ (List.Sublist.refl _))) ?_ (by omega) ?_).1⟩ <;> first | (simp (disch := omega) only [vm, seval, H]; done) | rfl
 simp (disch := omega) only [vm, seval, h.1]
 refine ⟨sjoin (γ := Unit) h [5, 6, 11, 12, 13, 14, 15, 16, 17, 18, 19, 20, 21, 22, 23, 24, 25, 26, 27, 28, 29, 30, 31, 32, 33, 34, 35, 36] [] (fun j1 g => []) (fun j1 g => ((n + 1), [.int .i64 0, .str [], .slice 1 (List.map AVal.str []) true, .slice 4 (List.map encApiValue []) true]) :: (n, [.int .i64 a0.kind, .str a0.text, .slice 1 (List.map AVal.str a0.keys) false, .slice 4 (List.map encApiValue a0.items) false]) :: m) (.q (.r []) .z) ?_ ?_⟩ <;> clear h
 rintro j1 _ n4 hnn4 _ _ h
 refine wpc_snd (.q (.r []) .z) ?_
 obtain ⟨H, h⟩ := h
 cases h
 simp (disch := omega) only [vm, seval, H]
 refine ⟨(hR _ _ _ _ _ _ (by simp (disch := omega) only [vm, seval, H]; rfl) (.cons _ (.cons _ (List.Sublist.refl _))) ?_ (by omega) ?_).1⟩ <;> first | (simp (disch := omega) only [vm, seval, H]; done) | rfl
 intro k2 Jk2 hk2 h
 replace h := grd_a h
 obtain ⟨hfk5, h⟩ := h
 simp (disch := omega) only [vm, seval, h.1]
 refine ⟨sloopr (σ := Unit) (γ := Unit) a0.keys hfk5 (fun xs i s => ref14_Get_L1 N a0 a1 k2 xs i) (fun i s g => [.int .i64 i]) (fun i s g => ((n + 1), [.int .i64 0, .str [], .slice 1 (List.map AVal.str []) true, .slice 4 (List.map encApiValue []) true]) :: (n, [.int .i64 a0.kind, .str a0.text, .slice 1 (List.map AVal.str a0.keys) false, .slice 4 (List.map encApiValue a0.items) false]) :: m) [5, 6, 15, 16, 17, 18, 19, 20, 21, 22, 23, 24, 25, 26, 27, 28, 29, 30, 31, 32, 33, 34, 35, 36] [14] () () h (by first | (simp (disch := omega) only [vm, seval, h.1]; done) | rfl) (by first | (simp (disch := omega) only [vm, seval, h.1]; done) | rfl) ?_ ?_⟩ <;> clear h
 rintro s14 _ _ nL0_1 hnL0_1 _ h
 change _ ∧ ref14_Get_L1 N a0 a1 k2 [] s14 = _ at h
 rw [ref14_Get_L1] at h
 refine wpc_snd (.q (.r []) (.q (.c .z .z) (.q (.q (.r []) .z) (.r [])))) ?_
 simp (disch := omega) only [vm, seval, h.1]
 refine ⟨hk2 () () _ _ _ _ h.2 (List.Sublist.refl _) ?_ ?_ ?_ (by omega)⟩ <;> first | (simp (disch := omega) only [vm, seval, h.1]; done) | rfl
 rintro xk5 xsk5 s14 _ _ nL0_1 hnL0_1 _ h Jk5 hk5
 change _ ∧ ref14_Get_L1 N a0 a1 k2 (xk5 :: xsk5) s14 = _ at h
 rw [ref14_Get_L1] at h
 refine wpc_snd (.q (.r []) (.q (.c .z .z) (.q (.q (.r []) .z) (.r [])))) ?_
 simp (disch := omega) only [vm, seval, h.1]
 refine ⟨sjoin (γ := Unit) h [17, 18, 19, 20, 21, 22, 23, 24, 25, 26, 27, 28, 29] [30] (fun j6 g => [.bool j6]) (fun j6 g => ((n + 1), [.int .i64 0, .str [], .slice 1 (List.map AVal.str []) true, .slice 4 (List.map encApiValue []) true]) :: (n, [.int .i64 a0.kind, .str a0.text, .slice 1 (List.map AVal.str a0.keys) false, .slice 4 (List.map encApiValue a0.items) false]) :: m) (.r []) ?_ ?_⟩ <;> clear h
 rintro j6 _ n9 hnn9 _ _ h
 refine wpc_snd (.c (.q (.r []) .z) .z) ?_
 replace h := ite_a h
 rcases h with h | h
 replace h := bind_a h
 obtain ⟨x10, h⟩ := h
 obtain ⟨H, h⟩ := h
 cases h
 simp (disch := omega) only [vm, seval, H]
 refine ⟨(hR _ _ _ _ _ _ (by simp (disch := omega) only [vm, seval, H]; rfl) (.cons _ (.cons _ (List.Sublist.refl _))) ?_ (by omega) ?_).1⟩ <;> first | (simp (disch := omega) only [vm, seval, H]; done) | rfl
 simp (disch := omega) only [vm, seval, h.1]
 refine ⟨hk5 () () _ _ _ _ h.2 (List.Sublist.refl _) ?_ ?_ ?_ (by omega)⟩ <;> first | (simp (disch := omega) only [vm, seval, h.1]; done) | rfl
 intro k7 Jk7 hk7 h
 replace h := ite_a h
 rcases h with h | h
 simp (disch := omega) only [vm, seval, h.1]
 refine ⟨hk7 (decide (s14 < (a0.items.length : Int))) () _ _ _ _ h.2 (List.Sublist.refl _) ?_ ?_ ?_ (by omega)⟩ <;> first | (simp (disch := omega) only [vm, seval, h.1]; done) | rfl
 simp (disch := omega) only [vm, seval, h.1]
 refine ⟨hk7 false () _ _ _ _ h.2 (List.Sublist.refl _) ?_ ?_ ?_ (by omega)⟩ <;> first | (simp (disch := omega) only [vm, seval, h.1]; done) | rfl
theorem ref14_Same_rec (N : Nat) : ∀ D : Nat, (∀ {a0 : ApiValue} {a1 : ApiValue} {r : Bool} (h : ref14_Same N D a0 a1 = some r) {args : List AVal} {n : Nat} {m : MS} (ha : args = [encApiValue a0, encApiValue a1]) {Q : PQ} (hQ : ∀ n', n ≤ n' → Gl (Q (.bool r) ⟨m, n'⟩)), ACall vE 10 args ⟨m, n⟩ Q) := by
 intro D
 induction D with
 | zero =>
  intro a0 a1 r h
  simp only [ref14_Same, reduceCtorEq] at h
 | succ D ih_ref14_Same =>
  intro a0 a1 r h args n m ha Q hQ
  rw [ref14_Same] at h
  subst ha
  refine ent_s hQ Tryz.func10 rfl Tryz.ntmps10 Tryz.results10 (.q (.r []) (.q .z .z)) fun R hR => ?_
  replace h := And.intro trivial h
  simp (disch := omega) only [vm, seval, h.1]
  refine ⟨sjoin (γ := Unit) h [7, 8, 9, 10, 11, 12, 13, 14, 15, 16, 17, 18, 19, 20, 21, 22, 23, 24, 25, 26, 27, 28, 29, 30, 31, 32, 33, 34, 35] [36] (fun j1 g => [.bool j1]) (fun j1 g => ((n + 1), [.int .i64 a1.kind, .str a1.text, .slice 1 (List.map AVal.str a1.keys) false, .slice 4 (List.map encApiValue a1.items) false]) :: (n, [.int .i64 a0.kind, .str a0.text, .slice 1 (List.map AVal.str a0.keys) false, .slice 4 (List.map encApiValue a0.items) false]) :: m) (.r []) ?_ ?_⟩ <;> clear h
  rintro j1 _ n4 hnn4 _ _ h
  refine wpc_snd (.c (.q (.r []) .z) .z) ?_
  replace h := ite_a h
  rcases h with h | h
  obtain ⟨H, h⟩ := h
  cases h
  simp (disch := omega) only [vm, seval, H]
  refine ⟨(hR _ _ _ _ _ _ (by simp (disch := omega) only [vm, seval, H]; rfl) (.cons _ (.cons _ (List.Sublist.refl _))) ?_ (by omega) ?_).1⟩ <;> first | (simp (disch := omega) only [vm, seval, H]; done) | rfl
  simp (disch := omega) only [vm, seval, h.1]
  refine ⟨sjoin (γ := Unit) h [4, 5, 37, 38, 39, 40, 41, 42, 43, 44, 45, 46, 47, 48, 49, 50, 51, 52, 53, 54, 55] [] (fun j5 g => []) (fun j5 g => ((n + 1), [.int .i64 a1.kind, .str a1.text, .slice 1 (List.map AVal.str a1.keys) false, .slice 4 (List.map encApiValue a1.items) false]) :: (n, [.int .i64 a0.kind, .str a0.text, .slice 1 (List.map AVal.str a0.keys) false, .slice 4 (List.map encApiValue a0.items) false]) :: m) (.q (.r []) .z) ?_ ?_⟩ <;> clear h
  rintro j5 _ n8 hnn8 _ _ h
  refine wpc_snd .z ?_
  simp (disch := omega) only [vm, seval, h.1]
  refine ⟨sjoin (γ := Unit) h [4, 6, 56, 57, 58, 59, 60, 61, 62, 63, 64, 65, 66, 67, 68, 69, 70, 71, 72, 73] [] (fun j13 g => []) (fun j13 g => ((n + 1), [.int .i64 a1.kind, .str a1.text, .slice 1 (List.map AVal.str a1.keys) false, .slice 4 (List.map encApiValue a1.items) false]) :: (n, [.int .i64 a0.kind, .str a0.text, .slice 1 (List.map AVal.str a0.keys) false, .slice 4 (List.map encApiValue a0.items) false]) :: m) (.q (.r []) .z) ?_ ?_⟩ <;> clear h
  rintro j13 _ n16 hnn16 _ _ h
  refine wpc_snd (.q (.r []) .z) ?_
  obtain ⟨H, h⟩ := h
  cases h
  simp (disch := omega) only [vm, seval, H]
  refine ⟨(hR _ _ _ _ _ _ (by simp (disch := omega) only [vm, seval, H]; rfl) (.cons _ (.cons _ (List.Sublist.refl _))) ?_ (by omega) ?_).1⟩ <;> first | (simp (disch := omega) only [vm, seval, H]; done) | rfl
  intro k14 Jk14 hk14 h
  replace h := grd_a h
  obtain ⟨hfk17, h⟩ := h
  simp (disch := omega) only [vm, seval, h.1]
  refine ⟨sloopr (σ := Unit) (γ := Unit) a0.keys hfk17 (fun xs i s => ref14_Same_L2 N a1 k14 xs i) (fun i s g => [.int .i64 i]) (fun i s g => ((n + 1), [.int .i64 a1.kind, .str a1.text, .slice 1 (List.map AVal.str a1.keys) false, .slice 4 (List.map encApiValue a1.items) false]) :: (n, [.int .i64 a0.kind, .str a0.text, .slice 1 (List.map AVal.str a0.keys) false, .slice 4 (List.map encApiValue a0.items) false]) :: m) [4, 6, 60, 61, 62, 63, 64, 65, 66, 67, 68, 69, 70, 71, 72, 73] [59] () () h (by first | (simp (disch := omega) only [vm, seval, h.1]; done) | rfl) (by first | (simp (disch := omega) only [vm, seval, h.1]; done) | rfl) ?_ ?_⟩ <;> clear h
  rintro s59 _ _ nL1_1 hnL1_1 _ h
  change _ ∧ ref14_Same_L2 N a1 k14 [] s59 = _ at h
  rw [ref14_Same_L2] at h
  refine wpc_snd (.q (.r []) (.q (.c .z .z) (.q (.q (.r []) (.q .z (.c (.q (.r []) .z) .z))) (.r [])))) ?_
  simp (disch := omega) only [vm, seval, h.1]
  refine ⟨hk14 () () _ _ _ _ h.2 (List.Sublist.refl _) ?_ ?_ ?_ (by omega)⟩ <;> first | (simp (disch := omega) only [vm, seval, h.1]; done) | rfl
  rintro xk17 xsk17 s59 _ _ nL1_1 hnL1_1 _ h Jk17 hk17
  change _ ∧ ref14_Same_L2 N a1 k14 (xk17 :: xsk17) s59 = _ at h
  rw [ref14_Same_L2] at h
  refine wpc_snd (.q (.r []) (.q (.c .z .z) (.q (.q (.r []) (.q .z (.c (.q (.r []) .z) .z))) (.r [])))) ?_
  replace h := bind_a h
  obtain ⟨x18, h⟩ := h
  simp (disch := omega) only [vm, seval, h.1]
  refine ⟨awp_drw [] (.take 0 (.take 1 (.take 2 (.take 3 (.take 4 (.take 5 (.take 6 (.take 7 (.take 8 (.take 9 (.take 10 (.done)))))))))))) vE_mixed (by kernel_rfl) ?_⟩
  replace h := ite_a h
  rcases h with h | h
  simp (disch := omega) only [vm, seval, h.1]
  refine ⟨hk17 () () _ _ _ _ h.2 (List.Sublist.refl _) ?_ ?_ ?_ (by omega)⟩ <;> first | (simp (disch := omega) only [vm, seval, h.1]; done) | rfl
  obtain ⟨H, h⟩ := h
  cases h
  simp (disch := omega) only [vm, seval, H]
  refine ⟨(hR _ _ _ _ _ _ (by simp (disch := omega) only [vm, seval, H]; rfl) (.cons _ (.cons _ (List.Sublist.refl _))) ?_ (by omega) ?_).1⟩ <;> first | (simp (disch := omega) only [vm, seval, H]; done) | rfl
  intro k6 Jk6 hk6 h
  replace h := grd_a h
  obtain ⟨hfk9, h⟩ := h
  simp (disch := omega) only [vm, seval, h.1]
  refine ⟨sloopr (σ := Unit) (γ := Unit) a0.items hfk9 (fun xs i s => ref14_Same_L1 N a1 (ref14_Same N D) k6 xs i) (fun i s g => [.int .i64 i]) (fun i s g => ((n + 1), [.int .i64 a1.kind, .str a1.text, .slice 1 (List.map AVal.str a1.keys) false, .slice 4 (List.map encApiValue a1.items) false]) :: (n, [.int .i64 a0.kind, .str a0.text, .slice 1 (List.map AVal.str a0.keys) false, .slice 4 (List.map encApiValue a0.items) false]) :: m) [4, 5, 41, 42, 43, 44, 45, 46, 47, 48, 49, 50, 51, 52, 53, 54, 55] [40] () () h (by first | (simp (disch := omega) only [vm, seval, h.1]; done) | rfl) (by first | (simp (disch := omega) only [vm, seval, h.1]; done) | rfl) ?_ ?_⟩ <;> clear h
  rintro s40 _ _ nL0_1 hnL0_1 _ h
  change _ ∧ ref14_Same_L1 N a1 (ref14_Same N D) k6 [] s40 = _ at h
  rw [ref14_Same_L1] at h
  refine wpc_snd (.q (.r []) (.q (.c .z .z) (.q (.q (.r []) (.q .z (.c (.q (.r []) .z) .z))) (.r [])))) ?_
  simp (disch := omega) only [vm, seval, h.1]
  refine ⟨hk6 () () _ _ _ _ h.2 (List.Sublist.refl _) ?_ ?_ ?_ (by omega)⟩ <;> first | (simp (disch := omega) only [vm, seval, h.1]; done) | rfl
  rintro xk9 xsk9 s40 _ _ nL0_1 hnL0_1 _ h Jk9 hk9
  change _ ∧ ref14_Same_L1 N a1 (ref14_Same N D) k6 (xk9 :: xsk9) s40 = _ at h
  rw [ref14_Same_L1] at h
  refine wpc_snd (.q (.r []) (.q (.c .z .z) (.q (.q (.r []) (.q .z (.c (.q (.r []) .z) .z))) (.r [])))) ?_
  replace h := bind_a h
  obtain ⟨x10, h⟩ := h
  replace h := bind_a h
  obtain ⟨y11, h⟩ := h
  have cy11 := h.1.1
  simp (disch := omega) only [vm, seval, h.1]
  refine ⟨awp_drw [] (.take 0 (.take 1 (.take 2 (.take 3 (.take 4 (.take 5 (.take 6 (.take 7 (.take 8 (.take 9 (.alt 10 [8, 7, 6, 5, 3, 2, 1, 0] (.take 11 (.done)) (.stop)))))))))))) vE_mixed (by kernel_rfl) ?_⟩
  simp (disch := omega) only [vm, seval, h.1]
  refine ⟨ih_ref14_Same cy11 (by first | (simp (disch := omega) only [vm, seval, h.1]; done) | rfl) fun n12 hn12 => ?_⟩
  replace h := ite_a h
  rcases h with h | h
  simp (disch := omega) only [vm, seval, h.1]
  refine ⟨hk9 () () _ _ _ _ h.2 (List.Sublist.refl _) ?_ ?_ ?_ (by omega)⟩ <;> first | (simp (disch := omega) only [vm, seval, h.1]; done) | rfl
  obtain ⟨H, h⟩ := h
  cases h
  simp (disch := omega) only [vm, seval, H]
  refine ⟨(hR _ _ _ _ _ _ (by simp (disch := omega) only [vm, seval, H]; rfl) (.cons _ (.cons _ (List.Sublist.refl _))) ?_ (by omega) ?_).1⟩ <;> first | (simp (disch := omega) only [vm, seval, H]; done) | rfl
  intro k2 Jk2 hk2 h
  replace h := ite_a h
  rcases h with h | h
  simp (disch := omega) only [vm, seval, h.1]
  refine ⟨hk2 true () _ _ _ _ h.2 (List.Sublist.refl _) ?_ ?_ ?_ (by omega)⟩ <;> first | (simp (disch := omega) only [vm, seval, h.1]; done) | rfl
  replace h := ite_a h
  rcases h with h | h
  replace h := ite_a h
  rcases h with h | h
  simp (disch := omega) only [vm, seval, h.1]
  refine ⟨hk2 true () _ _ _ _ h.2 (List.Sublist.refl _) ?_ ?_ ?_ (by omega)⟩ <;> first | (simp (disch := omega) only [vm, seval, h.1]; done) | rfl
  simp (disch := omega) only [vm, seval, h.1]
  refine ⟨hk2 ((a0.keys.length : Int) != (a1.keys.length : Int)) () _ _ _ _ h.2 (List.Sublist.refl _) ?_ ?_ ?_ (by omega)⟩ <;> first | (simp (disch := omega) only [vm, seval, h.1]; done) | rfl
  simp (disch := omega) only [vm, seval, h.1]
  refine ⟨hk2 true () _ _ _ _ h.2 (List.Sublist.refl _) ?_ ?_ ?_ (by omega)⟩ <;> first | (simp (disch := omega) only [vm, seval, h.1]; done) | rfl
theorem ref14_Same_w {a0 a1 r} (h : ref14_Same N N a0 a1 = some r) (ha : args = [encApiValue a0, encApiValue a1]) (hQ : ∀ n', n ≤ n' → Gl (Q (.bool r) ⟨m, n'⟩)) : ACall vE 10 args ⟨m, n⟩ Q :=
 (ref14_Same_rec N N h ha hQ)
end Go.Proofs.YtbmilkoebhmnnaaGreatDoor
