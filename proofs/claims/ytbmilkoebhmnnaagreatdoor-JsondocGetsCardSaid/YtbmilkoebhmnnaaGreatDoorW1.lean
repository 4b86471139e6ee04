/- That the code computes these functions; written by decomp.py. -/
import Derived.Test.YtbmilkoebhmnnaaGreatDoorVmFacts
import Derived.Test.YtbmilkoebhmnnaaGreatDoorDefs
import Derived.Test.YtbmilkoebhmnnaaGreatDoorVM2
set_option linter.unusedVariables false
set_option linter.unusedSimpArgs false
set_option maxHeartbeats 4000000
set_option maxRecDepth 100000
set_option linter.defProp false
namespace Go.Proofs.YtbmilkoebhmnnaaGreatDoor
open Go.VM
variable {N n : Nat} {m : MS} {Q : PQ} {args : List AVal}
theorem ref14_Get_w {a0 a1 r} (h : ref14_Get N a0 a1 = some r) (ha : args = [encApiValue a0, .str a1]) (hQ : ∀ n', n ≤ n' → Gl (Q (.tuple [encApiValue r.1, .bool r.2]) ⟨m, n'⟩)) : ACall vE 17 args ⟨m, n⟩ Q := by
 rw [ref14_Get] at h
 subst ha
 refine ent_s hQ Tryz.func17 rfl Tryz.ntmps17 Tryz.results17 (.q (.r []) (.q (.q (.r []) (.c (.q (.r []) .z) .z)) .z)) fun R hR => ?_
 replace h := And.intro trivial h
 replace h := ite_a h
 rcases h with h | h
 obtain ⟨H, h⟩ := h
 cases h
 simp (disch := omega) only [vm, seval, H]
 refine ⟨(hR _ _ _ _ _ _ (by simp (disch := omega) only [vm, seval, H]; rfl) (.cons _ (.cons _ (List.Sublist.refl _))) ?_ (by omega) ?_).1⟩ <;> first | (simp (disch := omega) only [vm, seval, H]; done) | rfl
 simp (disch := omega) only [vm, seval, h.1]
 refine ⟨sjoin (γ := Unit) h [5, 6, 11, 12, 13, 14, 15, 16, 17, 18, 19, 20, 21, 22, 23, 24, 25, 26, 27, 28, 29, 30, 31, 32, 33, 34, 35, 36] [] (fun j1 g => []) (fun j1 g => ((n + 1), [.int .i64 0, .str [], .slice 1 (List.map AVal.str []) true, .slice 4 (List.map encApiValue []) true]) :: (n, [.int .i64 a0.kind, .str a0.text, .slice 1 (List.map AVal.str a0.keys) false, .slice 4 (List.map encApiValue a0.items) false]) :: m) (.q (.r []) .z) ?_ ?_⟩ <;> clear h
 rintro j1 _ n4 hnn4 _ _ h
 refine wpc_snd (.q (.r []) .z) ?_
 obtain ⟨H, h⟩ := h
 cases h
 simp (disch := omega) only [vm, seval, H]
 refine ⟨(hR _ _ _ _ _ _ (by simp (disch := omega) only [vm, seval, H]; rfl) (.cons _ (.cons _ (List.Sublist.refl _))) ?_ (by omega) ?_).1⟩ <;> first | (simp (disch := omega) only [vm, seval, H]; done) | rfl
 intro k2 Jk2 hk2 h
 replace h := grd_a h
 obtain ⟨hfk5, h⟩ := h
 simp (disch := omega) only [vm, seval, h.1]
 refine ⟨sloopr (σ := Unit) (γ := Unit) a0.keys hfk5 (fun xs i s => ref14_Get_L1 N a0 a1 k2 xs i) (fun i s g => [.int .i64 i]) (fun i s g => ((n + 1), [.int .i64 0, .str [], .slice 1 (List.map AVal.str []) true, .slice 4 (List.map encApiValue []) true]) :: (n, [.int .i64 a0.kind, .str a0.text, .slice 1 (List.map AVal.str a0.keys) false, .slice 4 (List.map encApiValue a0.items) false]) :: m) [5, 6, 15, 16, 17, 18, 19, 20, 21, 22, 23, 24, 25, 26, 27, 28, 29, 30, 31, 32, 33, 34, 35, 36] [14] () () h (by first | (simp (disch := omega) only [vm, seval, h.1]; done) | rfl) (by first | (simp (disch := omega) only [vm, seval, h.1]; done) | rfl) ?_ ?_⟩ <;> clear h
 rintro s14 _ _ nL0_1 hnL0_1 _ h
 change _ ∧ ref14_Get_L1 N a0 a1 k2 [] s14 = _ at h
 rw [ref14_Get_L1] at h
 refine wpc_snd (.q (.r []) (.q (.c .z .z) (.q (.q (.r []) .z) (.r [])))) ?_
 simp (disch := omega) only [vm, seval, h.1]
 refine ⟨hk2 () () _ _ _ _ h.2 (List.Sublist.refl _) ?_ ?_ ?_ (by omega)⟩ <;> first | (simp (disch := omega) only [vm, seval, h.1]; done) | rfl
 rintro xk5 xsk5 s14 _ _ nL0_1 hnL0_1 _ h Jk5 hk5
 change _ ∧ ref14_Get_L1 N a0 a1 k2 (xk5 :: xsk5) s14 = _ at h
 rw [ref14_Get_L1] at h
 refine wpc_snd (.q (.r []) (.q (.c .z .z) (.q (.q (.r []) .z) (.r [])))) ?_
 simp (disch := omega) only [vm, seval, h.1]
 refine ⟨sjoin (γ := Unit) h [17, 18, 19, 20, 21, 22, 23, 24, 25, 26, 27, 28, 29] [30] (fun j6 g => [.bool j6]) (fun j6 g => ((n + 1), [.int .i64 0, .str [], .slice 1 (List.map AVal.str []) true, .slice 4 (List.map encApiValue []) true]) :: (n, [.int .i64 a0.kind, .str a0.text, .slice 1 (List.map AVal.str a0.keys) false, .slice 4 (List.map encApiValue a0.items) false]) :: m) (.r []) ?_ ?_⟩ <;> clear h
 rintro j6 _ n9 hnn9 _ _ h
 refine wpc_snd (.c (.q (.r []) .z) .z) ?_
 replace h := ite_a h
 rcases h with h | h
 replace h := bind_a h
 obtain ⟨x10, h⟩ := h
 obtain ⟨H, h⟩ := h
 cases h
 simp (disch := omega) only [vm, seval, H]
 refine ⟨(hR _ _ _ _ _ _ (by simp (disch := omega) only [vm, seval, H]; rfl) (.cons _ (.cons _ (List.Sublist.refl _))) ?_ (by omega) ?_).1⟩ <;> first | (simp (disch := omega) only [vm, seval, H]; done) | rfl
 simp (disch := omega) only [vm, seval, h.1]
 refine ⟨hk5 () () _ _ _ _ h.2 (List.Sublist.refl _) ?_ ?_ ?_ (by omega)⟩ <;> first | (simp (disch := omega) only [vm, seval, h.1]; done) | rfl
 intro k7 Jk7 hk7 h
 replace h := ite_a h
 rcases h with h | h
 simp (disch := omega) only [vm, seval, h.1]
 refine ⟨hk7 (decide (s14 < (a0.items.length : Int))) () _ _ _ _ h.2 (List.Sublist.refl _) ?_ ?_ ?_ (by omega)⟩ <;> first | (simp (disch := omega) only [vm, seval, h.1]; done) | rfl
 simp (disch := omega) only [vm, seval, h.1]
 refine ⟨hk7 false () _ _ _ _ h.2 (List.Sublist.refl _) ?_ ?_ ?_ (by omega)⟩ <;> first | (simp (disch := omega) only [vm, seval, h.1]; done) | rfl
theorem ref14_Same_rec (N : Nat) : ∀ D : Nat, (∀ {a0 : ApiValue} {a1 : ApiValue} {r : Bool} (h : ref14_Same N D a0 a1 = some r) {args : List AVal} {n : Nat} {m : MS} (ha : args = [encApiValue a0, encApiValue a1]) {Q : PQ} (hQ : ∀ n', n ≤ n' → Gl (Q (.bool r) ⟨m, n'⟩)), ACall vE 10 args ⟨m, n⟩ Q) := by
 intro D
 induction D with
 | zero =>
  intro a0 a1 r h
  simp only [ref14_Same, reduceCtorEq] at h
 | succ D ih_ref14_Same =>
  intro a0 a1 r h args n m ha Q hQ
  rw [ref14_Same] at h
  subst ha
  refine ent_s hQ Tryz.func10 rfl Tryz.ntmps10 Tryz.results10 (.q (.r []) (.q .z .z)) fun R hR => ?_
  replace h := And.intro trivial h
  simp (disch := omega) only [vm, seval, h.1]
  refine ⟨sjoin (γ := Unit) h [7, 8, 9, 10, 11, 12, 13, 14, 15, 16, 17, 18, 19, 20, 21, 22, 23, 24, 25, 26, 27, 28, 29, 30, 31, 32, 33, 34, 35] [36] (fun j1 g => [.bool j1]) (fun j1 g => ((n + 1), [.int .i64 a1.kind, .str a1.text, .slice 1 (List.map AVal.str a1.keys) false, .slice 4 (List.map encApiValue a1.items) false]) :: (n, [.int .i64 a0.kind, .str a0.text, .slice 1 (List.map AVal.str a0.keys) false, .slice 4 (List.map encApiValue a0.items) false]) :: m) (.r []) ?_ ?_⟩ <;> clear h
  rintro j1 _ n4 hnn4 _ _ h
  refine wpc_snd (.c (.q (.r []) .z) .z) ?_
  replace h := ite_a h
  rcases h with h | h
  obtain ⟨H, h⟩ := h
  cases h
  simp (disch := omega) only [vm, seval, H]
  refine ⟨(hR _ _ _ _ _ _ (by simp (disch := omega) only [vm, seval, H]; rfl) (.cons _ (.cons _ (List.Sublist.refl _))) ?_ (by omega) ?_).1⟩ <;> first | (simp (disch := omega) only [vm, seval, H]; done) | rfl
  simp (disch := omega) only [vm, seval, h.1]
  refine ⟨sjoin (γ := Unit) h [4, 5, 37, 38, 39, 40, 41, 42, 43, 44, 45, 46, 47, 48, 49, 50, 51, 52, 53, 54, 55] [] (fun j5 g => []) (fun j5 g => ((n + 1), [.int .i64 a1.kind, .str a1.text, .slice 1 (List.map AVal.str a1.keys) false, .slice 4 (List.map encApiValue a1.items) false]) :: (n, [.int .i64 a0.kind, .str a0.text, .slice 1 (List.map AVal.str a0.keys) false, .slice 4 (List.map encApiValue a0.items) false]) :: m) (.q (.r []) .z) ?_ ?_⟩ <;> clear h
  rintro j5 _ n8 hnn8 _ _ h
  refine wpc_snd .z ?_
  simp (disch := omega) only [vm, seval, h.1]
  refine ⟨sjoin (γ := Unit) h [4, 6, 56, 57, 58, 59, 60, 61, 62, 63, 64, 65, 66, 67, 68, 69, 70, 71, 72, 73] [] (fun j13 g => []) (fun j13 g => ((n + 1), [.int .i64 a1.kind, .str a1.text, .slice 1 (List.map AVal.str a1.keys) false, .slice 4 (List.map encApiValue a1.items) false]) :: (n, [.int .i64 a0.kind, .str a0.text, .slice 1 (List.map AVal.str a0.keys) false, .slice 4 (List.map encApiValue a0.items) false]) :: m) (.q (.r []) .z) ?_ ?_⟩ <;> clear h
  rintro j13 _ n16 hnn16 _ _ h
  refine wpc_snd (.q (.r []) .z) ?_
  obtain ⟨H, h⟩ := h
  cases h
  simp (disch := omega) only [vm, seval, H]
  refine ⟨(hR _ _ _ _ _ _ (by simp (disch := omega) only [vm, seval, H]; rfl) (.cons _ (.cons _ (List.Sublist.refl _))) ?_ (by omega) ?_).1⟩ <;> first | (simp (disch := omega) only [vm, seval, H]; done) | rfl
  intro k14 Jk14 hk14 h
  replace h := grd_a h
  obtain ⟨hfk17, h⟩ := h
  simp (disch := omega) only [vm, seval, h.1]
  refine ⟨sloopr (σ := Unit) (γ := Unit) a0.keys hfk17 (fun xs i s => ref14_Same_L2 N a1 k14 xs i) (fun i s g => [.int .i64 i]) (fun i s g => ((n + 1), [.int .i64 a1.kind, .str a1.text, .slice 1 (List.map AVal.str a1.keys) false, .slice 4 (List.map encApiValue a1.items) false]) :: (n, [.int .i64 a0.kind, .str a0.text, .slice 1 (List.map AVal.str a0.keys) false, .slice 4 (List.map encApiValue a0.items) false]) :: m) [4, 6, 60, 61, 62, 63, 64, 65, 66, 67, 68, 69, 70, 71, 72, 73] [59] () () h (by first | (simp (disch := omega) only [vm, seval, h.1]; done) | rfl) (by first | (simp (disch := omega) only [vm, seval, h.1]; done) | rfl) ?_ ?_⟩ <;> clear h
  rintro s59 _ _ nL1_1 hnL1_1 _ h
  change _ ∧ ref14_Same_L2 N a1 k14 [] s59 = _ at h
  rw [ref14_Same_L2] at h
  refine wpc_snd (.q (.r []) (.q (.c .z .z) (.q (.q (.r []) (.q .z (.c (.q (.r []) .z) .z))) (.r [])))) ?_
  simp (disch := omega) only [vm, seval, h.1]
  refine ⟨hk14 () () _ _ _ _ h.2 (List.Sublist.refl _) ?_ ?_ ?_ (by omega)⟩ <;> first | (simp (disch := omega) only [vm, seval, h.1]; done) | rfl
  rintro xk17 xsk17 s59 _ _ nL1_1 hnL1_1 _ h Jk17 hk17
  change _ ∧ ref14_Same_L2 N a1 k14 (xk17 :: xsk17) s59 = _ at h
  rw [ref14_Same_L2] at h
  refine wpc_snd (.q (.r []) (.q (.c .z .z) (.q (.q (.r []) (.q .z (.c (.q (.r []) .z) .z))) (.r [])))) ?_
  replace h := bind_a h
  obtain ⟨x18, h⟩ := h
  simp (disch := omega) only [vm, seval, h.1]
  refine ⟨awp_drw [] (.take 0 (.take 1 (.take 2 (.take 3 (.take 4 (.take 5 (.take 6 (.take 7 (.take 8 (.take 9 (.take 10 (.done)))))))))))) vE_mixed (by kernel_rfl) ?_⟩
  replace h := ite_a h
  rcases h with h | h
  simp (disch := omega) only [vm, seval, h.1]
  refine ⟨hk17 () () _ _ _ _ h.2 (List.Sublist.refl _) ?_ ?_ ?_ (by omega)⟩ <;> first | (simp (disch := omega) only [vm, seval, h.1]; done) | rfl
  obtain ⟨H, h⟩ := h
  cases h
  simp (disch := omega) only [vm, seval, H]
  refine ⟨(hR _ _ _ _ _ _ (by simp (disch := omega) only [vm, seval, H]; rfl) (.cons _ (.cons _ (List.Sublist.refl _))) ?_ (by omega) ?_).1⟩ <;> first | (simp (disch := omega) only [vm, seval, H]; done) | rfl
  intro k6 Jk6 hk6 h
  replace h := grd_a h
  obtain ⟨hfk9, h⟩ := h
  simp (disch := omega) only [vm, seval, h.1]
  refine ⟨sloopr (σ := Unit) (γ := Unit) a0.items hfk9 (fun xs i s => ref14_Same_L1 N a1 (ref14_Same N D) k6 xs i) (fun i s g => [.int .i64 i]) (fun i s g => ((n + 1), [.int .i64 a1.kind, .str a1.text, .slice 1 (List.map AVal.str a1.keys) false, .slice 4 (List.map encApiValue a1.items) false]) :: (n, [.int .i64 a0.kind, .str a0.text, .slice 1 (List.map AVal.str a0.keys) false, .slice 4 (List.map encApiValue a0.items) false]) :: m) [4, 5, 41, 42, 43, 44, 45, 46, 47, 48, 49, 50, 51, 52, 53, 54, 55] [40] () () h (by first | (simp (disch := omega) only [vm, seval, h.1]; done) | rfl) (by first | (simp (disch := omega) only [vm, seval, h.1]; done) | rfl) ?_ ?_⟩ <;> clear h
  rintro s40 _ _ nL0_1 hnL0_1 _ h
  change _ ∧ ref14_Same_L1 N a1 (ref14_Same N D) k6 [] s40 = _ at h
  rw [ref14_Same_L1] at h
  refine wpc_snd (.q (.r []) (.q (.c .z .z) (.q (.q (.r []) (.q .z (.c (.q (.r []) .z) .z))) (.r [])))) ?_
  simp (disch := omega) only [vm, seval, h.1]
  refine ⟨hk6 () () _ _ _ _ h.2 (List.Sublist.refl _) ?_ ?_ ?_ (by omega)⟩ <;> first | (simp (disch := omega) only [vm, seval, h.1]; done) | rfl
  rintro xk9 xsk9 s40 _ _ nL0_1 hnL0_1 _ h Jk9 hk9
  change _ ∧ ref14_Same_L1 N a1 (ref14_Same N D) k6 (xk9 :: xsk9) s40 = _ at h
  rw [ref14_Same_L1] at h
  refine wpc_snd (.q (.r []) (.q (.c .z .z) (.q (.q (.r []) (.q .z (.c (.q (.r []) .z) .z))) (.r [])))) ?_
  replace h := bind_a h
  obtain ⟨x10, h⟩ := h
  replace h := bind_a h
  obtain ⟨y11, h⟩ := h
  have cy11 := h.1.1
  simp (disch := omega) only [vm, seval, h.1]
  refine ⟨awp_drw [] (.take 0 (.take 1 (.take 2 (.take 3 (.take 4 (.take 5 (.take 6 (.take 7 (.take 8 (.take 9 (.alt 10 [8, 7, 6, 5, 3, 2, 1, 0] (.take 11 (.done)) (.stop)))))))))))) vE_mixed (by kernel_rfl) ?_⟩
  simp (disch := omega) only [vm, seval, h.1]
  refine ⟨ih_ref14_Same cy11 (by first | (simp (disch := omega) only [vm, seval, h.1]; done) | rfl) fun n12 hn12 => ?_⟩
  replace h := ite_a h
  rcases h with h | h
  simp (disch := omega) only [vm, seval, h.1]
  refine ⟨hk9 () () _ _ _ _ h.2 (List.Sublist.refl _) ?_ ?_ ?_ (by omega)⟩ <;> first | (simp (disch := omega) only [vm, seval, h.1]; done) | rfl
  obtain ⟨H, h⟩ := h
  cases h
  simp (disch := omega) only [vm, seval, H]
  refine ⟨(hR _ _ _ _ _ _ (by simp (disch := omega) only [vm, seval, H]; rfl) (.cons _ (.cons _ (List.Sublist.refl _))) ?_ (by omega) ?_).1⟩ <;> first | (simp (disch := omega) only [vm, seval, H]; done) | rfl
  intro k2 Jk2 hk2 h
  replace h := ite_a h
  rcases h with h | h
  simp (disch := omega) only [vm, seval, h.1]
  refine ⟨hk2 true () _ _ _ _ h.2 (List.Sublist.refl _) ?_ ?_ ?_ (by omega)⟩ <;> first | (simp (disch := omega) only [vm, seval, h.1]; done) | rfl
  replace h := ite_a h
  rcases h with h | h
  replace h := ite_a h
  rcases h with h | h
  simp (disch := omega) only [vm, seval, h.1]
  refine ⟨hk2 true () _ _ _ _ h.2 (List.Sublist.refl _) ?_ ?_ ?_ (by omega)⟩ <;> first | (simp (disch := omega) only [vm, seval, h.1]; done) | rfl
  simp (disch := omega) only [vm, seval, h.1]
  refine ⟨hk2 ((a0.keys.length : Int) != (a1.keys.length : Int)) () _ _ _ _ h.2 (List.Sublist.refl _) ?_ ?_ ?_ (by omega)⟩ <;> first | (simp (disch := omega) only [vm, seval, h.1]; done) | rfl
  simp (disch := omega) only [vm, seval, h.1]
  refine ⟨hk2 true () _ _ _ _ h.2 (List.Sublist.refl _) ?_ ?_ ?_ (by omega)⟩ <;> first | (simp (disch := omega) only [vm, seval, h.1]; done) | rfl
theorem ref14_Same_w {a0 a1 r} (h : ref14_Same N N a0 a1 = some r) (ha : args = [encApiValue a0, encApiValue a1]) (hQ : ∀ n', n ≤ n' → Gl (Q (.bool r) ⟨m, n'⟩)) : ACall vE 10 args ⟨m, n⟩ Q :=
 (ref14_Same_rec N N h ha hQ)
theorem keep_size_rec (N : Nat) : ∀ D : Nat, (∀ {a0 : ApiValue} {a1 : Int} {a2 : Int} {r : Int} (h : keep_size N D a0 a1 a2 = some r) {args : List AVal} {n : Nat} {m : MS} (ha : args = [encApiValue a0, .int .i64 a1, .int .i64 a2]) {Q : PQ} (hQ : ∀ n', n ≤ n' → Gl (Q (.int .i64 r) ⟨m, n'⟩)), ACall vE 24 args ⟨m, n⟩ Q) := by
 intro D
 induction D with
 | zero =>
  intro a0 a1 a2 r h
  simp only [keep_size, reduceCtorEq] at h
 | succ D ih_keep_size =>
  intro a0 a1 a2 r h args n m ha Q hQ
  rw [keep_size] at h
  subst ha
  refine ent_s hQ Tryz.func24 rfl Tryz.ntmps24 Tryz.results24 (.q (.r []) (.q .z (.q (.r []) .z))) fun R hR => ?_
  replace h := And.intro trivial h
  simp (disch := omega) only [vm, seval, h.1]
  refine ⟨sjoin (γ := Unit) h [11, 12, 13, 14, 15, 16, 17, 18, 19, 20, 21, 22, 23, 24, 25, 26, 27, 28, 29, 30, 31, 32, 33, 34, 35, 36, 37, 38] [39] (fun j1 g => [.bool j1]) (fun j1 g => (n, [.int .i64 a0.kind, .str a0.text, .slice 1 (List.map AVal.str a0.keys) false, .slice 4 (List.map encApiValue a0.items) false]) :: m) (.r []) ?_ ?_⟩ <;> clear h
  rintro j1 _ n4 hnn4 _ _ h
  refine wpc_snd (.c (.q (.r []) .z) .z) ?_
  replace h := ite_a h
  rcases h with h | h
  obtain ⟨H, h⟩ := h
  cases h
  simp (disch := omega) only [vm, seval, H]
  refine ⟨(hR _ _ _ _ _ _ (by simp (disch := omega) only [vm, seval, H]; rfl) (.cons _ (List.Sublist.refl _)) ?_ (by omega) ?_).1⟩ <;> first | (simp (disch := omega) only [vm, seval, H]; done) | rfl
  simp (disch := omega) only [vm, seval, h.1]
  refine ⟨sjoin (γ := Unit) h [6, 8, 42, 43, 44, 45, 46, 47, 48, 49, 50, 51, 52] [] (fun j5 g => []) (fun j5 g => (n, [.int .i64 a0.kind, .str a0.text, .slice 1 (List.map AVal.str a0.keys) false, .slice 4 (List.map encApiValue a0.items) false]) :: m) (.q (.r []) .z) ?_ ?_⟩ <;> clear h
  rintro j5 _ n8 hnn8 _ _ h
  refine wpc_snd .z ?_
  simp (disch := omega) only [vm, seval, h.1]
  refine ⟨sjoin (γ := Unit) h [6, 10, 53, 54, 55, 56, 57, 58, 59, 60, 61, 62, 63, 64, 65, 66, 67] [1] (fun j10 g => [.int .i64 j10]) (fun j10 g => (n, [.int .i64 a0.kind, .str a0.text, .slice 1 (List.map AVal.str a0.keys) false, .slice 4 (List.map encApiValue a0.items) false]) :: m) (.q (.r []) .z) ?_ ?_⟩ <;> clear h
  rintro j10 _ n13 hnn13 _ _ h
  refine wpc_snd (.q (.r []) .z) ?_
  obtain ⟨H, h⟩ := h
  cases h
  simp (disch := omega) only [vm, seval, H]
  refine ⟨(hR _ _ _ _ _ _ (by simp (disch := omega) only [vm, seval, H]; rfl) (.cons _ (List.Sublist.refl _)) ?_ (by omega) ?_).1⟩ <;> first | (simp (disch := omega) only [vm, seval, H]; done) | rfl
  intro k11 Jk11 hk11 h
  replace h := grd_a h
  obtain ⟨hfk14, h⟩ := h
  simp (disch := omega) only [vm, seval, h.1]
  refine ⟨sloopr (σ := Int) (γ := Unit) a0.items hfk14 (fun xs i s => keep_size_L2 N a2 (keep_size N D) k11 xs s) (fun i s g => [.int .i64 s, .int .i64 i]) (fun i s g => (n, [.int .i64 a0.kind, .str a0.text, .slice 1 (List.map AVal.str a0.keys) false, .slice 4 (List.map encApiValue a0.items) false]) :: m) [6, 10, 57, 58, 59, 60, 61, 62, 63, 64, 65, 66, 67] [1, 56] (wr .i64 (a1 - 1)) () h (by first | (simp (disch := omega) only [vm, seval, h.1]; done) | rfl) (by first | (simp (disch := omega) only [vm, seval, h.1]; done) | rfl) ?_ ?_⟩ <;> clear h
  rintro s56 s1 _ nL1_1 hnL1_1 _ h
  change _ ∧ keep_size_L2 N a2 (keep_size N D) k11 [] s1 = _ at h
  rw [keep_size_L2] at h
  refine wpc_snd (.q (.r []) (.q (.c .z .z) (.q (.q (.r []) (.q (.r []) (.q (.r []) (.c (.q (.r []) .z) .z)))) (.r [])))) ?_
  simp (disch := omega) only [vm, seval, h.1]
  refine ⟨hk11 s1 () _ _ _ _ h.2 (List.Sublist.refl _) ?_ ?_ ?_ (by omega)⟩ <;> first | (simp (disch := omega) only [vm, seval, h.1]; done) | rfl
  rintro xk14 xsk14 s56 s1 _ nL1_1 hnL1_1 _ h Jk14 hk14
  change _ ∧ keep_size_L2 N a2 (keep_size N D) k11 (xk14 :: xsk14) s1 = _ at h
  rw [keep_size_L2] at h
  refine wpc_snd (.q (.r []) (.q (.c .z .z) (.q (.q (.r []) (.q (.r []) (.q (.r []) (.c (.q (.r []) .z) .z)))) (.r [])))) ?_
  replace h := bind_a h
  obtain ⟨y15, h⟩ := h
  simp (disch := omega) only [vm, seval, h.1]
  refine ⟨ih_keep_size h.1.1 (by first | (simp (disch := omega) only [vm, seval, h.1]; done) | rfl) fun n16 hn16 => ?_⟩
  replace h := ite_a h
  rcases h with h | h
  obtain ⟨H, h⟩ := h
  cases h
  simp (disch := omega) only [vm, seval, H]
  refine ⟨(hR _ _ _ _ _ _ (by simp (disch := omega) only [vm, seval, H]; rfl) (.cons _ (.cons _ (List.Sublist.refl _))) ?_ (by omega) ?_).1⟩ <;> first | (simp (disch := omega) only [vm, seval, H]; done) | rfl
  simp (disch := omega) only [vm, seval, h.1]
  refine ⟨hk14 y15 () _ _ _ _ h.2 (.cons _ (List.Sublist.refl _)) ?_ ?_ ?_ (by omega)⟩ <;> first | (simp (disch := omega) only [vm, seval, h.1]; done) | rfl
  intro k6 Jk6 hk6 h
  replace h := grd_a h
  obtain ⟨hfk9, h⟩ := h
  simp (disch := omega) only [vm, seval, h.1]
  refine ⟨sloopr (σ := Unit) (γ := Unit) a0.keys hfk9 (fun xs i s => keep_size_L1 N k6 xs) (fun i s g => [.int .i64 i]) (fun i s g => (n, [.int .i64 a0.kind, .str a0.text, .slice 1 (List.map AVal.str a0.keys) false, .slice 4 (List.map encApiValue a0.items) false]) :: m) [6, 8, 46, 47, 48, 49, 50, 51, 52] [45] () () h (by first | (simp (disch := omega) only [vm, seval, h.1]; done) | rfl) (by first | (simp (disch := omega) only [vm, seval, h.1]; done) | rfl) ?_ ?_⟩ <;> clear h
  rintro s45 _ _ nL0_1 hnL0_1 _ h
  change _ ∧ keep_size_L1 N k6 [] = _ at h
  rw [keep_size_L1] at h
  refine wpc_snd (.q (.r []) (.q (.c .z .z) (.q (.q (.r []) (.q (.r []) (.c (.q (.r []) .z) .z))) (.r [])))) ?_
  simp (disch := omega) only [vm, seval, h.1]
  refine ⟨hk6 () () _ _ _ _ h.2 (List.Sublist.refl _) ?_ ?_ ?_ (by omega)⟩ <;> first | (simp (disch := omega) only [vm, seval, h.1]; done) | rfl
  rintro xk9 xsk9 s45 _ _ nL0_1 hnL0_1 _ h Jk9 hk9
  change _ ∧ keep_size_L1 N k6 (xk9 :: xsk9) = _ at h
  rw [keep_size_L1] at h
  refine wpc_snd (.q (.r []) (.q (.c .z .z) (.q (.q (.r []) (.q (.r []) (.c (.q (.r []) .z) .z))) (.r [])))) ?_
  replace h := ite_a h
  rcases h with h | h
  obtain ⟨H, h⟩ := h
  cases h
  simp (disch := omega) only [vm, seval, H]
  refine ⟨(hR _ _ _ _ _ _ (by simp (disch := omega) only [vm, seval, H]; rfl) (.cons _ (List.Sublist.refl _)) ?_ (by omega) ?_).1⟩ <;> first | (simp (disch := omega) only [vm, seval, H]; done) | rfl
  simp (disch := omega) only [vm, seval, h.1]
  refine ⟨hk9 () () _ _ _ _ h.2 (List.Sublist.refl _) ?_ ?_ ?_ (by omega)⟩ <;> first | (simp (disch := omega) only [vm, seval, h.1]; done) | rfl
  intro k2 Jk2 hk2 h
  replace h := ite_a h
  rcases h with h | h
  simp (disch := omega) only [vm, seval, h.1]
  refine ⟨hk2 true () _ _ _ _ h.2 (List.Sublist.refl _) ?_ ?_ ?_ (by omega)⟩ <;> first | (simp (disch := omega) only [vm, seval, h.1]; done) | rfl
  replace h := ite_a h
  rcases h with h | h
  simp (disch := omega) only [vm, seval, h.1]
  refine ⟨hk2 true () _ _ _ _ h.2 (List.Sublist.refl _) ?_ ?_ ?_ (by omega)⟩ <;> first | (simp (disch := omega) only [vm, seval, h.1]; done) | rfl
  replace h := ite_a h
  rcases h with h | h
  simp (disch := omega) only [vm, seval, h.1]
  refine ⟨hk2 true () _ _ _ _ h.2 (List.Sublist.refl _) ?_ ?_ ?_ (by omega)⟩ <;> first | (simp (disch := omega) only [vm, seval, h.1]; done) | rfl
  replace h := ite_a h
  rcases h with h | h
  simp (disch := omega) only [vm, seval, h.1]
  refine ⟨hk2 true () _ _ _ _ h.2 (List.Sublist.refl _) ?_ ?_ ?_ (by omega)⟩ <;> first | (simp (disch := omega) only [vm, seval, h.1]; done) | rfl
  simp (disch := omega) only [vm, seval, h.1]
  refine ⟨hk2 (decide ((a0.items.length : Int) > a1)) () _ _ _ _ h.2 (List.Sublist.refl _) ?_ ?_ ?_ (by omega)⟩ <;> first | (simp (disch := omega) only [vm, seval, h.1]; done) | rfl
theorem keep_size_w {a0 a1 a2 r} (h : keep_size N N a0 a1 a2 = some r) (ha : args = [encApiValue a0, .int .i64 a1, .int .i64 a2]) (hQ : ∀ n', n ≤ n' → Gl (Q (.int .i64 r) ⟨m, n'⟩)) : ACall vE 24 args ⟨m, n⟩ Q :=
 (keep_size_rec N N h ha hQ)
theorem ref15_count_rec (N : Nat) : ∀ D : Nat, (∀ {a0 : ApiValue} {a1 : Int} {r : Int} (h : ref15_count N D a0 a1 = some r) {args : List AVal} {n : Nat} {m : MS} (ha : args = [encApiValue a0, .int .i64 a1]) {Q : PQ} (hQ : ∀ n', n ≤ n' → Gl (Q (.int .i64 r) ⟨m, n'⟩)), ACall vE 44 args ⟨m, n⟩ Q) := by
 intro D
 induction D with
 | zero =>
  intro a0 a1 r h
  simp only [ref15_count, reduceCtorEq] at h
 | succ D ih_ref15_count =>
  intro a0 a1 r h args n m ha Q hQ
  rw [ref15_count] at h
  subst ha
  refine ent_s hQ Tryz.func44 rfl Tryz.ntmps44 Tryz.results44 (.q (.r []) (.q (.r []) .z)) fun R hR => ?_
  replace h := And.intro trivial h
  simp (disch := omega) only [vm, seval, h.1]
  refine ⟨sjoin (γ := Unit) h [11, 12, 13, 14, 15, 16, 17, 18, 19, 20] [5] (fun j1 g => [.int .i64 j1]) (fun j1 g => (n, [.int .i64 a0.kind, .str a0.text, .slice 1 (List.map AVal.str a0.keys) false, .slice 4 (List.map encApiValue a0.items) false]) :: m) .z ?_ ?_⟩ <;> clear h
  rintro j1 _ n4 hnn4 _ _ h
  refine wpc_snd (.q (.q (.r []) (.c (.q (.r []) .z) .z)) (.q (.r []) .z)) ?_
  replace h := ite_a h
  rcases h with h | h
  obtain ⟨H, h⟩ := h
  cases h
  simp (disch := omega) only [vm, seval, H]
  refine ⟨(hR _ _ _ _ _ _ (by simp (disch := omega) only [vm, seval, H]; rfl) (.cons _ (List.Sublist.refl _)) ?_ (by omega) ?_).1⟩ <;> first | (simp (disch := omega) only [vm, seval, H]; done) | rfl
  simp (disch := omega) only [vm, seval, h.1]
  refine ⟨sjoin (γ := Unit) h [4, 8, 9, 23, 24, 25, 26, 27, 28, 29, 30, 31, 32, 33, 34, 35, 36, 37, 38, 39, 40] [6] (fun j9 g => [.int .i64 j9]) (fun j9 g => (n, [.int .i64 a0.kind, .str a0.text, .slice 1 (List.map AVal.str a0.keys) false, .slice 4 (List.map encApiValue a0.items) false]) :: m) (.q (.r []) .z) ?_ ?_⟩ <;> clear h
  rintro j9 _ n12 hnn12 _ _ h
  refine wpc_snd (.q (.r []) .z) ?_
  obtain ⟨H, h⟩ := h
  cases h
  simp (disch := omega) only [vm, seval, H]
  refine ⟨(hR _ _ _ _ _ _ (by simp (disch := omega) only [vm, seval, H]; rfl) (.cons _ (List.Sublist.refl _)) ?_ (by omega) ?_).1⟩ <;> first | (simp (disch := omega) only [vm, seval, H]; done) | rfl
  intro k10 Jk10 hk10 h
  replace h := grd_a h
  obtain ⟨hfk13, h⟩ := h
  simp (disch := omega) only [vm, seval, h.1]
  refine ⟨sloopr (σ := Int) (γ := Unit) a0.items hfk13 (fun xs i s => ref15_count_L1 N (ref15_count N D) j1 k10 xs s) (fun i s g => [.int .i64 s, .int .i64 i]) (fun i s g => (n, [.int .i64 a0.kind, .str a0.text, .slice 1 (List.map AVal.str a0.keys) false, .slice 4 (List.map encApiValue a0.items) false]) :: m) [4, 8, 9, 27, 28, 29, 30, 31, 32, 33, 34, 35, 36, 37, 38, 39, 40] [6, 26] 1 () h (by first | (simp (disch := omega) only [vm, seval, h.1]; done) | rfl) (by first | (simp (disch := omega) only [vm, seval, h.1]; done) | rfl) ?_ ?_⟩ <;> clear h
  rintro s26 s6 _ nL0_1 hnL0_1 _ h
  change _ ∧ ref15_count_L1 N (ref15_count N D) j1 k10 [] s6 = _ at h
  rw [ref15_count_L1] at h
  refine wpc_snd (.q (.r []) (.q (.c .z .z) (.q (.q (.r []) (.q (.r []) (.q (.q (.r []) (.c (.q (.r []) .z) .z)) (.q (.r []) (.q (.r []) (.c (.q (.r []) .z) .z)))))) (.r [])))) ?_
  simp (disch := omega) only [vm, seval, h.1]
  refine ⟨hk10 s6 () _ _ _ _ h.2 (List.Sublist.refl _) ?_ ?_ ?_ (by omega)⟩ <;> first | (simp (disch := omega) only [vm, seval, h.1]; done) | rfl
  rintro xk13 xsk13 s26 s6 _ nL0_1 hnL0_1 _ h Jk13 hk13
  change _ ∧ ref15_count_L1 N (ref15_count N D) j1 k10 (xk13 :: xsk13) s6 = _ at h
  rw [ref15_count_L1] at h
  refine wpc_snd (.q (.r []) (.q (.c .z .z) (.q (.q (.r []) (.q (.r []) (.q (.q (.r []) (.c (.q (.r []) .z) .z)) (.q (.r []) (.q (.r []) (.c (.q (.r []) .z) .z)))))) (.r [])))) ?_
  replace h := bind_a h
  obtain ⟨y14, h⟩ := h
  simp (disch := omega) only [vm, seval, h.1]
  refine ⟨ih_ref15_count h.1.1 (by first | (simp (disch := omega) only [vm, seval, h.1]; done) | rfl) fun n15 hn15 => ?_⟩
  replace h := ite_a h
  rcases h with h | h
  obtain ⟨H, h⟩ := h
  cases h
  simp (disch := omega) only [vm, seval, H]
  refine ⟨(hR _ _ _ _ _ _ (by simp (disch := omega) only [vm, seval, H]; rfl) (.cons _ (.cons _ (List.Sublist.refl _))) ?_ (by omega) ?_).1⟩ <;> first | (simp (disch := omega) only [vm, seval, H]; done) | rfl
  replace h := ite_a h
  rcases h with h | h
  obtain ⟨H, h⟩ := h
  cases h
  simp (disch := omega) only [vm, seval, H]
  refine ⟨(hR _ _ _ _ _ _ (by simp (disch := omega) only [vm, seval, H]; rfl) (.cons _ (.cons _ (List.Sublist.refl _))) ?_ (by omega) ?_).1⟩ <;> first | (simp (disch := omega) only [vm, seval, H]; done) | rfl
  simp (disch := omega) only [vm, seval, h.1]
  refine ⟨hk13 (wr .i64 (s6 + y14)) () _ _ _ _ h.2 (.cons _ (List.Sublist.refl _)) ?_ ?_ ?_ (by omega)⟩ <;> first | (simp (disch := omega) only [vm, seval, h.1]; done) | rfl
  intro k2 Jk2 hk2 h
  simp (disch := omega) only [vm, seval, h.1]
  refine ⟨sjoin (γ := Unit) h [11, 12, 13, 14, 15, 16, 17] [18] (fun j5 g => [.bool j5]) (fun j5 g => (n, [.int .i64 a0.kind, .str a0.text, .slice 1 (List.map AVal.str a0.keys) false, .slice 4 (List.map encApiValue a0.items) false]) :: m) (.r []) ?_ ?_⟩ <;> clear h
  rintro j5 _ n8 hnn8 _ _ h
  refine wpc_snd (.c (.r []) .z) ?_
  replace h := ite_a h
  rcases h with h | h
  simp (disch := omega) only [vm, seval, h.1]
  refine ⟨hk2 (wr .i64 (a1 + 1)) () _ _ _ _ h.2 (List.Sublist.refl _) ?_ ?_ ?_ (by omega)⟩ <;> first | (simp (disch := omega) only [vm, seval, h.1]; done) | rfl
  simp (disch := omega) only [vm, seval, h.1]
  refine ⟨hk2 a1 () _ _ _ _ h.2 (List.Sublist.refl _) ?_ ?_ ?_ (by omega)⟩ <;> first | (simp (disch := omega) only [vm, seval, h.1]; done) | rfl
  intro k6 Jk6 hk6 h
  replace h := ite_a h
  rcases h with h | h
  simp (disch := omega) only [vm, seval, h.1]
  refine ⟨hk6 true () _ _ _ _ h.2 (List.Sublist.refl _) ?_ ?_ ?_ (by omega)⟩ <;> first | (simp (disch := omega) only [vm, seval, h.1]; done) | rfl
  simp (disch := omega) only [vm, seval, h.1]
  refine ⟨hk6 (a0.kind == 7) () _ _ _ _ h.2 (List.Sublist.refl _) ?_ ?_ ?_ (by omega)⟩ <;> first | (simp (disch := omega) only [vm, seval, h.1]; done) | rfl
theorem ref15_count_w {a0 a1 r} (h : ref15_count N N a0 a1 = some r) (ha : args = [encApiValue a0, .int .i64 a1]) (hQ : ∀ n', n ≤ n' → Gl (Q (.int .i64 r) ⟨m, n'⟩)) : ACall vE 44 args ⟨m, n⟩ Q :=
 (ref15_count_rec N N h ha hQ)
theorem ref15_sorted_rec (N : Nat) : ∀ D : Nat, (∀ {a0 : (List (List UInt8))} {r : (List (List UInt8))} (h : ref15_sorted N D a0 = some r) {args : List AVal} {n : Nat} {m : MS} (ha : args = [.slice 1 (List.map AVal.str a0) false]) {Q : PQ} (hQ : ∀ n', n ≤ n' → Gl (Q (.slice 1 (List.map AVal.str r) false) ⟨m, n'⟩)), ACall vE 67 args ⟨m, n⟩ Q) := by
 intro D
 induction D with
 | zero =>
  intro a0 r h
  simp only [ref15_sorted, reduceCtorEq] at h
 | succ D ih_ref15_sorted =>
  intro a0 r h args n m ha Q hQ
  rw [ref15_sorted] at h
  subst ha
  refine ent_s hQ Tryz.func67 rfl Tryz.ntmps67 Tryz.results67 (.q (.r []) (.q (.q (.r []) (.c (.q (.r []) .z) .z)) (.q .z (.q (.r []) .z)))) fun R hR => ?_
  replace h := And.intro trivial h
  replace h := ite_a h
  rcases h with h | h
  obtain ⟨H, h⟩ := h
  cases h
  simp (disch := omega) only [vm, seval, H]
  refine ⟨(hR _ _ _ _ _ _ (by simp (disch := omega) only [vm, seval, H]; rfl) (List.Sublist.refl _) ?_ (by omega) ?_).1⟩ <;> first | (simp (disch := omega) only [vm, seval, H]; done) | rfl
  replace h := bind_a h
  obtain ⟨x1, h⟩ := h
  replace h := bind_a h
  obtain ⟨y2, h⟩ := h
  have cy2 := h.1.1
  replace h := bind_a h
  obtain ⟨x4, h⟩ := h
  replace h := bind_a h
  obtain ⟨y5, h⟩ := h
  have cy5 := h.1.1
  simp (disch := omega) only [vm, seval, h.1]
  refine ⟨awp_drw [] (.take 0 (.take 1 (.take 2 (.take 3 (.take 4 (.take 6 (.take 7 (.take 8 (.take 9 (.take 10 (.alt 5 [10, 9, 8, 7, 6, 3, 2, 1, 0] (.alt 11 [9, 8, 7, 6, 4, 3, 2, 1, 0] (.alt 12 [10, 9, 8, 7, 6] (.alt 13 [] (.done) (.stop)) (.stop)) (.stop)) (.stop)))))))))))) vE_mixed (by kernel_rfl) ?_⟩
  simp (disch := omega) only [vm, seval, h.1]
  refine ⟨ih_ref15_sorted cy2 (by first | (simp (disch := omega) only [vm, seval, h.1]; done) | rfl) fun n3 hn3 => ?_⟩
  simp (disch := omega) only [vm, seval, h.1]
  refine ⟨ih_ref15_sorted cy5 (by first | (simp (disch := omega) only [vm, seval, h.1]; done) | rfl) fun n6 hn6 => ?_⟩
  simp (disch := omega) only [vm, seval, h.1]
  refine ⟨sjoin (γ := Unit) h [22, 23, 24, 25, 26, 27, 28, 29, 30, 31, 32, 33, 34, 35, 36, 37, 38, 39, 40, 41, 42, 43, 44, 45, 46, 47, 48, 49, 50, 51, 52] [3, 4, 5] (fun j7 g => [.slice 1 (List.map AVal.str j7.1) false, .slice 1 (List.map AVal.str j7.2.1) false, .slice 1 (List.map AVal.str j7.2.2) true]) (fun j7 g => m) .z ?_ ?_⟩ <;> clear h
  rintro j7 _ n10 hnn10 _ _ h
  refine wpc_snd (.q (.r [53]) .z) ?_
  replace h := grd_a h
  obtain ⟨c, h⟩ := h
  try simp only [liE, seval] at c
  replace h := and_in c h
  replace h := grd_a h
  obtain ⟨c, h⟩ := h
  try simp only [liE, seval] at c
  replace h := and_in c h
  obtain ⟨H, h⟩ := h
  cases h
  simp (disch := omega) only [vm, seval, H]
  refine ⟨(hR _ _ _ _ _ _ (by simp (disch := omega) only [vm, seval, H]; rfl) (List.Sublist.refl _) ?_ (by omega) ?_).1⟩ <;> first | (simp (disch := omega) only [vm, seval, H]; done) | rfl
  intro k8 Jk8 hk8 h
  simp (disch := omega) only [vm, seval, h.1]
  refine ⟨sloop (σ := (List (List UInt8)) × (List (List UInt8)) × (List (List UInt8))) (γ := Unit) (fun k s => ref15_sorted_L1 N k8 k s.1 s.2.1 s.2.2) (fun s g => [.slice 1 (List.map AVal.str s.1) false, .slice 1 (List.map AVal.str s.2.1) false, .slice 1 (List.map AVal.str s.2.2) true]) (fun s g => m) [22, 23, 24, 25, 26, 27, 28, 29, 30, 31, 32, 33, 34, 35, 36, 37, 38, 39, 40, 41, 42, 43, 44, 45, 46, 47, 48, 49, 50, 51, 52] [3, 4, 5] (y2, y5, []) () h (fun _ => rfl) (by first | (simp (disch := omega) only [vm, seval, h.1]; done) | rfl) (by first | (simp (disch := omega) only [vm, seval, h.1]; done) | rfl) ?_⟩
  clear h
  rintro k11 ⟨s3, s4, s5⟩ _ nL0_1 hnL0_1 _ h Jk11 hk11
  change _ ∧ ref15_sorted_L1 N k8 (k11 + 1) s3 s4 s5 = _ at h
  rw [ref15_sorted_L1] at h
  refine wpc_snd (.q .z (.q .z (.c .z .z))) ?_
  simp (disch := omega) only [vm, seval, h.1]
  refine ⟨sjoin (γ := Unit) h [22, 23, 24, 25, 26, 27, 28] [29] (fun j12 g => [.bool j12]) (fun j12 g => m) (.r []) ?_ ?_⟩ <;> clear h
  rintro j12 _ n15 hnn15 _ _ h
  refine wpc_snd (.c .z .z) ?_
  replace h := ite_a h
  rcases h with h | h
  replace h := bind_a h
  obtain ⟨x16, h⟩ := h
  replace h := bind_a h
  obtain ⟨x17, h⟩ := h
  simp (disch := omega) only [vm, seval, h.1]
  refine ⟨awp_drw [] (.take 0 (.take 1 (.take 2 (.take 3 (.take 4 (.take 5 (.take 6 (.done)))))))) vE_mixed (by kernel_rfl) ?_⟩
  replace h := ite_a h
  rcases h with h | h
  replace h := grd_a h
  obtain ⟨c, h⟩ := h
  try simp only [liE, seval] at c
  replace h := and_in c h
  replace h := bind_a h
  obtain ⟨x18, h⟩ := h
  simp (disch := omega) only [vm, seval, h.1]
  refine ⟨awp_drw [37] (.take 1 (.take 2 (.take 3 (.take 4 (.take 6 (.take 7 (.alt 0 [7, 6, 4, 3, 2, 1] (.alt 5 [7, 6, 3, 2, 1] (.alt 8 [7, 6] (.alt 9 [] (.done) (.stop)) (.stop)) (.stop)) (.stop)))))))) vE_mixed (by kernel_rfl) ?_⟩
  simp (disch := omega) only [vm, seval, h.1]
  refine ⟨hk11 (x18, s4, (s5 ++ [x16])) () _ _ _ _ h.2 (List.Sublist.refl _) ?_ ?_ ?_ (by omega)⟩ <;> first | (simp (disch := omega) only [vm, seval, h.1]; done) | rfl
  replace h := grd_a h
  obtain ⟨c, h⟩ := h
  try simp only [liE, seval] at c
  replace h := and_in c h
  replace h := bind_a h
  obtain ⟨x19, h⟩ := h
  simp (disch := omega) only [vm, seval, h.1]
  refine ⟨awp_drw [45] (.take 1 (.take 2 (.take 3 (.take 4 (.take 6 (.take 7 (.alt 0 [7, 6, 4, 3, 2, 1] (.alt 5 [7, 6, 3, 2, 1] (.alt 8 [7, 6] (.alt 9 [] (.done) (.stop)) (.stop)) (.stop)) (.stop)))))))) vE_mixed (by kernel_rfl) ?_⟩
  simp (disch := omega) only [vm, seval, h.1]
  refine ⟨hk11 (s3, x19, (s5 ++ [x17])) () _ _ _ _ h.2 (List.Sublist.refl _) ?_ ?_ ?_ (by omega)⟩ <;> first | (simp (disch := omega) only [vm, seval, h.1]; done) | rfl
  simp (disch := omega) only [vm, seval, h.1]
  refine ⟨hk8 (s3, s4, s5) () _ _ _ _ h.2 (List.Sublist.refl _) ?_ ?_ ?_ (by omega)⟩ <;> first | (simp (disch := omega) only [vm, seval, h.1]; done) | rfl
  intro k13 Jk13 hk13 h
  replace h := ite_a h
  rcases h with h | h
  simp (disch := omega) only [vm, seval, h.1]
  refine ⟨hk13 (decide ((s4.length : Int) > 0)) () _ _ _ _ h.2 (List.Sublist.refl _) ?_ ?_ ?_ (by omega)⟩ <;> first | (simp (disch := omega) only [vm, seval, h.1]; done) | rfl
  simp (disch := omega) only [vm, seval, h.1]
  refine ⟨hk13 false () _ _ _ _ h.2 (List.Sublist.refl _) ?_ ?_ ?_ (by omega)⟩ <;> first | (simp (disch := omega) only [vm, seval, h.1]; done) | rfl
theorem ref15_sorted_w {a0 r} (h : ref15_sorted N N a0 = some r) (ha : args = [.slice 1 (List.map AVal.str a0) false]) (hQ : ∀ n', n ≤ n' → Gl (Q (.slice 1 (List.map AVal.str r) false) ⟨m, n'⟩)) : ACall vE 67 args ⟨m, n⟩ Q :=
 (ref15_sorted_rec N N h ha hQ)
end Go.Proofs.YtbmilkoebhmnnaaGreatDoor
