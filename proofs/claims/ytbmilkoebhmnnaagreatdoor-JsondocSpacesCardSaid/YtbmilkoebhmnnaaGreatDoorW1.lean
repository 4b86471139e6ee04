import Derived.Test.YtbmilkoebhmnnaaGreatDoorVmFacts
import Derived.Test.YtbmilkoebhmnnaaGreatDoorDefs
import Derived.Test.YtbmilkoebhmnnaaGreatDoorVM2
set_option linter.unusedVariables false
set_option linter.unusedSimpArgs false
set_option maxHeartbeats 4000000
set_option maxRecDepth 100000
set_option linter.defProp false
namespace Go.Proofs.YtbmilkoebhmnnaaGreatDoor
open Go.VM
variable {N n : Nat} {m : MS} {Q : PQ} {args : List AVal}
theorem Vr {a0 a1 r} (h : Jj N a0 a1 = some r) (ha : args = [AA a0, .str a1]) (hQ : ∀ n', n ≤ n' → Gl (Q (.tuple [AA r.1, .bool r.2]) ⟨m, n'⟩)) : ACall vE 17 args ⟨m, n⟩ Q := by
 rw [Jj] at h
 subst ha
 refine Lp hQ Tryz.func17 rfl Tryz.ntmps17 Tryz.results17 (.q (.r []) (.q (.q (.r []) (.c (.q (.r []) .z) .z)) .z)) fun R hR => ?_
 replace h := And.intro trivial h
 replace h := AJ h
 rcases h with h | h
 obtain ⟨H, h⟩ := h
 cases h
 simp (disch := omega) only [vm, seval, H]
 refine ⟨(hR _ _ _ _ _ _ (by simp (disch := omega) only [vm, seval, H]; rfl) (.cons _ (.cons _ slr)) ?_ (by omega) ?_).1⟩ <;> first | (simp (disch := omega) only [vm, seval, H]; done) | rfl
 simp (disch := omega) only [vm, seval, h.1]
 refine ⟨AU (γ := Unit) h [5, 6, 11, 12, 13, 14, 15, 16, 17, 18, 19, 20, 21, 22, 23, 24, 25, 26, 27, 28, 29, 30, 31, 32, 33, 34, 35, 36] [] (fun j1 g => []) (fun j1 g => ((n + 1), [.int .i64 0, .str [], .slice 1 (List.map AVal.str []) true, .slice 4 (List.map AA []) true]) :: (n, [.int .i64 a0.kind, .str a0.text, .slice 1 (List.map AVal.str a0.keys) false, .slice 4 (List.map AA a0.items) false]) :: m) (.q (.r []) .z) ?_ ?_⟩ <;> clear h
 rintro j1 _ n4 hnn4 _ _ h
 refine AB (.q (.r []) .z) ?_
 obtain ⟨H, h⟩ := h
 cases h
 simp (disch := omega) only [vm, seval, H]
 refine ⟨(hR _ _ _ _ _ _ (by simp (disch := omega) only [vm, seval, H]; rfl) (.cons _ (.cons _ slr)) ?_ (by omega) ?_).1⟩ <;> first | (simp (disch := omega) only [vm, seval, H]; done) | rfl
 intro k2 Jk2 hk2 h
 replace h := Ac h
 obtain ⟨hfk5, h⟩ := h
 simp (disch := omega) only [vm, seval, h.1]
 refine ⟨Da (σ := Unit) (γ := Unit) a0.keys hfk5 (fun xs i s => CW N a0 a1 k2 xs i) (fun i s g => [.int .i64 i]) (fun i s g => ((n + 1), [.int .i64 0, .str [], .slice 1 (List.map AVal.str []) true, .slice 4 (List.map AA []) true]) :: (n, [.int .i64 a0.kind, .str a0.text, .slice 1 (List.map AVal.str a0.keys) false, .slice 4 (List.map AA a0.items) false]) :: m) [5, 6, 15, 16, 17, 18, 19, 20, 21, 22, 23, 24, 25, 26, 27, 28, 29, 30, 31, 32, 33, 34, 35, 36] [14] () () h (by first | (simp (disch := omega) only [vm, seval, h.1]; done) | rfl) (by first | (simp (disch := omega) only [vm, seval, h.1]; done) | rfl) ?_ ?_⟩ <;> clear h
 rintro s14 _ _ nL0_1 hnL0_1 _ h
 change _ ∧ CW N a0 a1 k2 [] s14 = _ at h
 rw [CW] at h
 refine AB (.q (.r []) (.q (.c .z .z) (.q (.q (.r []) .z) (.r [])))) ?_
 simp (disch := omega) only [vm, seval, h.1]
 refine ⟨hk2 () () _ _ _ _ h.2 slr ?_ ?_ ?_ (by omega)⟩ <;> first | (simp (disch := omega) only [vm, seval, h.1]; done) | rfl
 rintro xk5 xsk5 s14 _ _ nL0_1 hnL0_1 _ h Jk5 hk5
 change _ ∧ CW N a0 a1 k2 (xk5 :: xsk5) s14 = _ at h
 rw [CW] at h
 refine AB (.q (.r []) (.q (.c .z .z) (.q (.q (.r []) .z) (.r [])))) ?_
 simp (disch := omega) only [vm, seval, h.1]
 refine ⟨AU (γ := Unit) h [17, 18, 19, 20, 21, 22, 23, 24, 25, 26, 27, 28, 29] [30] (fun j6 g => [.bool j6]) (fun j6 g => ((n + 1), [.int .i64 0, .str [], .slice 1 (List.map AVal.str []) true, .slice 4 (List.map AA []) true]) :: (n, [.int .i64 a0.kind, .str a0.text, .slice 1 (List.map AVal.str a0.keys) false, .slice 4 (List.map AA a0.items) false]) :: m) (.r []) ?_ ?_⟩ <;> clear h
 rintro j6 _ n9 hnn9 _ _ h
 refine AB (.c (.q (.r []) .z) .z) ?_
 replace h := AJ h
 rcases h with h | h
 replace h := AC h
 obtain ⟨x10, h⟩ := h
 obtain ⟨H, h⟩ := h
 cases h
 simp (disch := omega) only [vm, seval, H]
 refine ⟨(hR _ _ _ _ _ _ (by simp (disch := omega) only [vm, seval, H]; rfl) (.cons _ (.cons _ slr)) ?_ (by omega) ?_).1⟩ <;> first | (simp (disch := omega) only [vm, seval, H]; done) | rfl
 simp (disch := omega) only [vm, seval, h.1]
 refine ⟨hk5 () () _ _ _ _ h.2 slr ?_ ?_ ?_ (by omega)⟩ <;> first | (simp (disch := omega) only [vm, seval, h.1]; done) | rfl
 intro k7 Jk7 hk7 h
 replace h := AJ h
 rcases h with h | h
 simp (disch := omega) only [vm, seval, h.1]
 refine ⟨hk7 (decide (s14 < (a0.items.length : Int))) () _ _ _ _ h.2 slr ?_ ?_ ?_ (by omega)⟩ <;> first | (simp (disch := omega) only [vm, seval, h.1]; done) | rfl
 simp (disch := omega) only [vm, seval, h.1]
 refine ⟨hk7 false () _ _ _ _ h.2 slr ?_ ?_ ?_ (by omega)⟩ <;> first | (simp (disch := omega) only [vm, seval, h.1]; done) | rfl
theorem QK (N : Nat) : ∀ D : Nat, (∀ {a0 : ApiValue} {a1 : ApiValue} {r : Bool} (h : EG N D a0 a1 = some r) {args : List AVal} {n : Nat} {m : MS} (ha : args = [AA a0, AA a1]) {Q : PQ} (hQ : ∀ n', n ≤ n' → Gl (Q (.bool r) ⟨m, n'⟩)), ACall vE 10 args ⟨m, n⟩ Q) := by
 intro D
 induction D with
 | zero =>
  intro a0 a1 r h
  simp only [EG, reduceCtorEq] at h
 | succ D ih_ref14_Same =>
  intro a0 a1 r h args n m ha Q hQ
  rw [EG] at h
  subst ha
  refine Lp hQ Tryz.func10 rfl Tryz.ntmps10 Tryz.results10 (.q (.r []) (.q .z .z)) fun R hR => ?_
  replace h := And.intro trivial h
  simp (disch := omega) only [vm, seval, h.1]
  refine ⟨AU (γ := Unit) h [7, 8, 9, 10, 11, 12, 13, 14, 15, 16, 17, 18, 19, 20, 21, 22, 23, 24, 25, 26, 27, 28, 29, 30, 31, 32, 33, 34, 35] [36] (fun j1 g => [.bool j1]) (fun j1 g => ((n + 1), [.int .i64 a1.kind, .str a1.text, .slice 1 (List.map AVal.str a1.keys) false, .slice 4 (List.map AA a1.items) false]) :: (n, [.int .i64 a0.kind, .str a0.text, .slice 1 (List.map AVal.str a0.keys) false, .slice 4 (List.map AA a0.items) false]) :: m) (.r []) ?_ ?_⟩ <;> clear h
  rintro j1 _ n4 hnn4 _ _ h
  refine AB (.c (.q (.r []) .z) .z) ?_
  replace h := AJ h
  rcases h with h | h
  obtain ⟨H, h⟩ := h
  cases h
  simp (disch := omega) only [vm, seval, H]
  refine ⟨(hR _ _ _ _ _ _ (by simp (disch := omega) only [vm, seval, H]; rfl) (.cons _ (.cons _ slr)) ?_ (by omega) ?_).1⟩ <;> first | (simp (disch := omega) only [vm, seval, H]; done) | rfl
  simp (disch := omega) only [vm, seval, h.1]
  refine ⟨AU (γ := Unit) h [4, 5, 37, 38, 39, 40, 41, 42, 43, 44, 45, 46, 47, 48, 49, 50, 51, 52, 53, 54, 55] [] (fun j5 g => []) (fun j5 g => ((n + 1), [.int .i64 a1.kind, .str a1.text, .slice 1 (List.map AVal.str a1.keys) false, .slice 4 (List.map AA a1.items) false]) :: (n, [.int .i64 a0.kind, .str a0.text, .slice 1 (List.map AVal.str a0.keys) false, .slice 4 (List.map AA a0.items) false]) :: m) (.q (.r []) .z) ?_ ?_⟩ <;> clear h
  rintro j5 _ n8 hnn8 _ _ h
  refine AB .z ?_
  simp (disch := omega) only [vm, seval, h.1]
  refine ⟨AU (γ := Unit) h [4, 6, 56, 57, 58, 59, 60, 61, 62, 63, 64, 65, 66, 67, 68, 69, 70, 71, 72, 73] [] (fun j13 g => []) (fun j13 g => ((n + 1), [.int .i64 a1.kind, .str a1.text, .slice 1 (List.map AVal.str a1.keys) false, .slice 4 (List.map AA a1.items) false]) :: (n, [.int .i64 a0.kind, .str a0.text, .slice 1 (List.map AVal.str a0.keys) false, .slice 4 (List.map AA a0.items) false]) :: m) (.q (.r []) .z) ?_ ?_⟩ <;> clear h
  rintro j13 _ n16 hnn16 _ _ h
  refine AB (.q (.r []) .z) ?_
  obtain ⟨H, h⟩ := h
  cases h
  simp (disch := omega) only [vm, seval, H]
  refine ⟨(hR _ _ _ _ _ _ (by simp (disch := omega) only [vm, seval, H]; rfl) (.cons _ (.cons _ slr)) ?_ (by omega) ?_).1⟩ <;> first | (simp (disch := omega) only [vm, seval, H]; done) | rfl
  intro k14 Jk14 hk14 h
  replace h := Ac h
  obtain ⟨hfk17, h⟩ := h
  simp (disch := omega) only [vm, seval, h.1]
  refine ⟨Da (σ := Unit) (γ := Unit) a0.keys hfk17 (fun xs i s => Cx N a1 k14 xs i) (fun i s g => [.int .i64 i]) (fun i s g => ((n + 1), [.int .i64 a1.kind, .str a1.text, .slice 1 (List.map AVal.str a1.keys) false, .slice 4 (List.map AA a1.items) false]) :: (n, [.int .i64 a0.kind, .str a0.text, .slice 1 (List.map AVal.str a0.keys) false, .slice 4 (List.map AA a0.items) false]) :: m) [4, 6, 60, 61, 62, 63, 64, 65, 66, 67, 68, 69, 70, 71, 72, 73] [59] () () h (by first | (simp (disch := omega) only [vm, seval, h.1]; done) | rfl) (by first | (simp (disch := omega) only [vm, seval, h.1]; done) | rfl) ?_ ?_⟩ <;> clear h
  rintro s59 _ _ nL1_1 hnL1_1 _ h
  change _ ∧ Cx N a1 k14 [] s59 = _ at h
  rw [Cx] at h
  refine AB (.q (.r []) (.q (.c .z .z) (.q (.q (.r []) (.q .z (.c (.q (.r []) .z) .z))) (.r [])))) ?_
  simp (disch := omega) only [vm, seval, h.1]
  refine ⟨hk14 () () _ _ _ _ h.2 slr ?_ ?_ ?_ (by omega)⟩ <;> first | (simp (disch := omega) only [vm, seval, h.1]; done) | rfl
  rintro xk17 xsk17 s59 _ _ nL1_1 hnL1_1 _ h Jk17 hk17
  change _ ∧ Cx N a1 k14 (xk17 :: xsk17) s59 = _ at h
  rw [Cx] at h
  refine AB (.q (.r []) (.q (.c .z .z) (.q (.q (.r []) (.q .z (.c (.q (.r []) .z) .z))) (.r [])))) ?_
  replace h := AC h
  obtain ⟨x18, h⟩ := h
  simp (disch := omega) only [vm, seval, h.1]
  refine ⟨Au [] (.take 0 (.take 1 (.take 2 (.take 3 (.take 4 (.take 5 (.take 6 (.take 7 (.take 8 (.take 9 (.take 10 (.done)))))))))))) Ah (by kernel_rfl) ?_⟩
  replace h := AJ h
  rcases h with h | h
  simp (disch := omega) only [vm, seval, h.1]
  refine ⟨hk17 () () _ _ _ _ h.2 slr ?_ ?_ ?_ (by omega)⟩ <;> first | (simp (disch := omega) only [vm, seval, h.1]; done) | rfl
  obtain ⟨H, h⟩ := h
  cases h
  simp (disch := omega) only [vm, seval, H]
  refine ⟨(hR _ _ _ _ _ _ (by simp (disch := omega) only [vm, seval, H]; rfl) (.cons _ (.cons _ slr)) ?_ (by omega) ?_).1⟩ <;> first | (simp (disch := omega) only [vm, seval, H]; done) | rfl
  intro k6 Jk6 hk6 h
  replace h := Ac h
  obtain ⟨hfk9, h⟩ := h
  simp (disch := omega) only [vm, seval, h.1]
  refine ⟨Da (σ := Unit) (γ := Unit) a0.items hfk9 (fun xs i s => Cw N a1 (EG N D) k6 xs i) (fun i s g => [.int .i64 i]) (fun i s g => ((n + 1), [.int .i64 a1.kind, .str a1.text, .slice 1 (List.map AVal.str a1.keys) false, .slice 4 (List.map AA a1.items) false]) :: (n, [.int .i64 a0.kind, .str a0.text, .slice 1 (List.map AVal.str a0.keys) false, .slice 4 (List.map AA a0.items) false]) :: m) [4, 5, 41, 42, 43, 44, 45, 46, 47, 48, 49, 50, 51, 52, 53, 54, 55] [40] () () h (by first | (simp (disch := omega) only [vm, seval, h.1]; done) | rfl) (by first | (simp (disch := omega) only [vm, seval, h.1]; done) | rfl) ?_ ?_⟩ <;> clear h
  rintro s40 _ _ nL0_1 hnL0_1 _ h
  change _ ∧ Cw N a1 (EG N D) k6 [] s40 = _ at h
  rw [Cw] at h
  refine AB (.q (.r []) (.q (.c .z .z) (.q (.q (.r []) (.q .z (.c (.q (.r []) .z) .z))) (.r [])))) ?_
  simp (disch := omega) only [vm, seval, h.1]
  refine ⟨hk6 () () _ _ _ _ h.2 slr ?_ ?_ ?_ (by omega)⟩ <;> first | (simp (disch := omega) only [vm, seval, h.1]; done) | rfl
  rintro xk9 xsk9 s40 _ _ nL0_1 hnL0_1 _ h Jk9 hk9
  change _ ∧ Cw N a1 (EG N D) k6 (xk9 :: xsk9) s40 = _ at h
  rw [Cw] at h
  refine AB (.q (.r []) (.q (.c .z .z) (.q (.q (.r []) (.q .z (.c (.q (.r []) .z) .z))) (.r [])))) ?_
  replace h := AC h
  obtain ⟨x10, h⟩ := h
  replace h := AC h
  obtain ⟨y11, h⟩ := h
  have cy11 := h.1.1
  simp (disch := omega) only [vm, seval, h.1]
  refine ⟨Au [] (.take 0 (.take 1 (.take 2 (.take 3 (.take 4 (.take 5 (.take 6 (.take 7 (.take 8 (.take 9 (.alt 10 [8, 7, 6, 5, 3, 2, 1, 0] (.take 11 (.done)) (.stop)))))))))))) Ah (by kernel_rfl) ?_⟩
  simp (disch := omega) only [vm, seval, h.1]
  refine ⟨ih_ref14_Same cy11 (by first | (simp (disch := omega) only [vm, seval, h.1]; done) | rfl) fun n12 hn12 => ?_⟩
  replace h := AJ h
  rcases h with h | h
  simp (disch := omega) only [vm, seval, h.1]
  refine ⟨hk9 () () _ _ _ _ h.2 slr ?_ ?_ ?_ (by omega)⟩ <;> first | (simp (disch := omega) only [vm, seval, h.1]; done) | rfl
  obtain ⟨H, h⟩ := h
  cases h
  simp (disch := omega) only [vm, seval, H]
  refine ⟨(hR _ _ _ _ _ _ (by simp (disch := omega) only [vm, seval, H]; rfl) (.cons _ (.cons _ slr)) ?_ (by omega) ?_).1⟩ <;> first | (simp (disch := omega) only [vm, seval, H]; done) | rfl
  intro k2 Jk2 hk2 h
  replace h := AJ h
  rcases h with h | h
  simp (disch := omega) only [vm, seval, h.1]
  refine ⟨hk2 true () _ _ _ _ h.2 slr ?_ ?_ ?_ (by omega)⟩ <;> first | (simp (disch := omega) only [vm, seval, h.1]; done) | rfl
  replace h := AJ h
  rcases h with h | h
  replace h := AJ h
  rcases h with h | h
  simp (disch := omega) only [vm, seval, h.1]
  refine ⟨hk2 true () _ _ _ _ h.2 slr ?_ ?_ ?_ (by omega)⟩ <;> first | (simp (disch := omega) only [vm, seval, h.1]; done) | rfl
  simp (disch := omega) only [vm, seval, h.1]
  refine ⟨hk2 ((a0.keys.length : Int) != (a1.keys.length : Int)) () _ _ _ _ h.2 slr ?_ ?_ ?_ (by omega)⟩ <;> first | (simp (disch := omega) only [vm, seval, h.1]; done) | rfl
  simp (disch := omega) only [vm, seval, h.1]
  refine ⟨hk2 true () _ _ _ _ h.2 slr ?_ ?_ ?_ (by omega)⟩ <;> first | (simp (disch := omega) only [vm, seval, h.1]; done) | rfl
theorem Ta {a0 a1 r} (h : EG N N a0 a1 = some r) (ha : args = [AA a0, AA a1]) (hQ : ∀ n', n ≤ n' → Gl (Q (.bool r) ⟨m, n'⟩)) : ACall vE 10 args ⟨m, n⟩ Q :=
 (QK N N h ha hQ)
theorem RY (N : Nat) : ∀ D : Nat, (∀ {a0 : ApiValue} {a1 : Int} {a2 : Int} {r : Int} (h : D8 N D a0 a1 a2 = some r) {args : List AVal} {n : Nat} {m : MS} (ha : args = [AA a0, .int .i64 a1, .int .i64 a2]) {Q : PQ} (hQ : ∀ n', n ≤ n' → Gl (Q (.int .i64 r) ⟨m, n'⟩)), ACall vE 24 args ⟨m, n⟩ Q) := by
 intro D
 induction D with
 | zero =>
  intro a0 a1 a2 r h
  simp only [D8, reduceCtorEq] at h
 | succ D ih_keep_size =>
  intro a0 a1 a2 r h args n m ha Q hQ
  rw [D8] at h
  subst ha
  refine Lp hQ Tryz.func24 rfl Tryz.ntmps24 Tryz.results24 (.q (.r []) (.q .z (.q (.r []) .z))) fun R hR => ?_
  replace h := And.intro trivial h
  simp (disch := omega) only [vm, seval, h.1]
  refine ⟨AU (γ := Unit) h [11, 12, 13, 14, 15, 16, 17, 18, 19, 20, 21, 22, 23, 24, 25, 26, 27, 28, 29, 30, 31, 32, 33, 34, 35, 36, 37, 38] [39] (fun j1 g => [.bool j1]) (fun j1 g => (n, [.int .i64 a0.kind, .str a0.text, .slice 1 (List.map AVal.str a0.keys) false, .slice 4 (List.map AA a0.items) false]) :: m) (.r []) ?_ ?_⟩ <;> clear h
  rintro j1 _ n4 hnn4 _ _ h
  refine AB (.c (.q (.r []) .z) .z) ?_
  replace h := AJ h
  rcases h with h | h
  obtain ⟨H, h⟩ := h
  cases h
  simp (disch := omega) only [vm, seval, H]
  refine ⟨(hR _ _ _ _ _ _ (by simp (disch := omega) only [vm, seval, H]; rfl) (.cons _ slr) ?_ (by omega) ?_).1⟩ <;> first | (simp (disch := omega) only [vm, seval, H]; done) | rfl
  simp (disch := omega) only [vm, seval, h.1]
  refine ⟨AU (γ := Unit) h [6, 8, 42, 43, 44, 45, 46, 47, 48, 49, 50, 51, 52] [] (fun j5 g => []) (fun j5 g => (n, [.int .i64 a0.kind, .str a0.text, .slice 1 (List.map AVal.str a0.keys) false, .slice 4 (List.map AA a0.items) false]) :: m) (.q (.r []) .z) ?_ ?_⟩ <;> clear h
  rintro j5 _ n8 hnn8 _ _ h
  refine AB .z ?_
  simp (disch := omega) only [vm, seval, h.1]
  refine ⟨AU (γ := Unit) h [6, 10, 53, 54, 55, 56, 57, 58, 59, 60, 61, 62, 63, 64, 65, 66, 67] [1] (fun j10 g => [.int .i64 j10]) (fun j10 g => (n, [.int .i64 a0.kind, .str a0.text, .slice 1 (List.map AVal.str a0.keys) false, .slice 4 (List.map AA a0.items) false]) :: m) (.q (.r []) .z) ?_ ?_⟩ <;> clear h
  rintro j10 _ n13 hnn13 _ _ h
  refine AB (.q (.r []) .z) ?_
  obtain ⟨H, h⟩ := h
  cases h
  simp (disch := omega) only [vm, seval, H]
  refine ⟨(hR _ _ _ _ _ _ (by simp (disch := omega) only [vm, seval, H]; rfl) (.cons _ slr) ?_ (by omega) ?_).1⟩ <;> first | (simp (disch := omega) only [vm, seval, H]; done) | rfl
  intro k11 Jk11 hk11 h
  replace h := Ac h
  obtain ⟨hfk14, h⟩ := h
  simp (disch := omega) only [vm, seval, h.1]
  refine ⟨Da (σ := Int) (γ := Unit) a0.items hfk14 (fun xs i s => C9 N a2 (D8 N D) k11 xs s) (fun i s g => [.int .i64 s, .int .i64 i]) (fun i s g => (n, [.int .i64 a0.kind, .str a0.text, .slice 1 (List.map AVal.str a0.keys) false, .slice 4 (List.map AA a0.items) false]) :: m) [6, 10, 57, 58, 59, 60, 61, 62, 63, 64, 65, 66, 67] [1, 56] (wr .i64 (a1 - 1)) () h (by first | (simp (disch := omega) only [vm, seval, h.1]; done) | rfl) (by first | (simp (disch := omega) only [vm, seval, h.1]; done) | rfl) ?_ ?_⟩ <;> clear h
  rintro s56 s1 _ nL1_1 hnL1_1 _ h
  change _ ∧ C9 N a2 (D8 N D) k11 [] s1 = _ at h
  rw [C9] at h
  refine AB (.q (.r []) (.q (.c .z .z) (.q (.q (.r []) (.q (.r []) (.q (.r []) (.c (.q (.r []) .z) .z)))) (.r [])))) ?_
  simp (disch := omega) only [vm, seval, h.1]
  refine ⟨hk11 s1 () _ _ _ _ h.2 slr ?_ ?_ ?_ (by omega)⟩ <;> first | (simp (disch := omega) only [vm, seval, h.1]; done) | rfl
  rintro xk14 xsk14 s56 s1 _ nL1_1 hnL1_1 _ h Jk14 hk14
  change _ ∧ C9 N a2 (D8 N D) k11 (xk14 :: xsk14) s1 = _ at h
  rw [C9] at h
  refine AB (.q (.r []) (.q (.c .z .z) (.q (.q (.r []) (.q (.r []) (.q (.r []) (.c (.q (.r []) .z) .z)))) (.r [])))) ?_
  replace h := AC h
  obtain ⟨y15, h⟩ := h
  simp (disch := omega) only [vm, seval, h.1]
  refine ⟨ih_keep_size h.1.1 (by first | (simp (disch := omega) only [vm, seval, h.1]; done) | rfl) fun n16 hn16 => ?_⟩
  replace h := AJ h
  rcases h with h | h
  obtain ⟨H, h⟩ := h
  cases h
  simp (disch := omega) only [vm, seval, H]
  refine ⟨(hR _ _ _ _ _ _ (by simp (disch := omega) only [vm, seval, H]; rfl) (.cons _ (.cons _ slr)) ?_ (by omega) ?_).1⟩ <;> first | (simp (disch := omega) only [vm, seval, H]; done) | rfl
  simp (disch := omega) only [vm, seval, h.1]
  refine ⟨hk14 y15 () _ _ _ _ h.2 (.cons _ slr) ?_ ?_ ?_ (by omega)⟩ <;> first | (simp (disch := omega) only [vm, seval, h.1]; done) | rfl
  intro k6 Jk6 hk6 h
  replace h := Ac h
  obtain ⟨hfk9, h⟩ := h
  simp (disch := omega) only [vm, seval, h.1]
  refine ⟨Da (σ := Unit) (γ := Unit) a0.keys hfk9 (fun xs i s => Cz N k6 xs) (fun i s g => [.int .i64 i]) (fun i s g => (n, [.int .i64 a0.kind, .str a0.text, .slice 1 (List.map AVal.str a0.keys) false, .slice 4 (List.map AA a0.items) false]) :: m) [6, 8, 46, 47, 48, 49, 50, 51, 52] [45] () () h (by first | (simp (disch := omega) only [vm, seval, h.1]; done) | rfl) (by first | (simp (disch := omega) only [vm, seval, h.1]; done) | rfl) ?_ ?_⟩ <;> clear h
  rintro s45 _ _ nL0_1 hnL0_1 _ h
  change _ ∧ Cz N k6 [] = _ at h
  rw [Cz] at h
  refine AB (.q (.r []) (.q (.c .z .z) (.q (.q (.r []) (.q (.r []) (.c (.q (.r []) .z) .z))) (.r [])))) ?_
  simp (disch := omega) only [vm, seval, h.1]
  refine ⟨hk6 () () _ _ _ _ h.2 slr ?_ ?_ ?_ (by omega)⟩ <;> first | (simp (disch := omega) only [vm, seval, h.1]; done) | rfl
  rintro xk9 xsk9 s45 _ _ nL0_1 hnL0_1 _ h Jk9 hk9
  change _ ∧ Cz N k6 (xk9 :: xsk9) = _ at h
  rw [Cz] at h
  refine AB (.q (.r []) (.q (.c .z .z) (.q (.q (.r []) (.q (.r []) (.c (.q (.r []) .z) .z))) (.r [])))) ?_
  replace h := AJ h
  rcases h with h | h
  obtain ⟨H, h⟩ := h
  cases h
  simp (disch := omega) only [vm, seval, H]
  refine ⟨(hR _ _ _ _ _ _ (by simp (disch := omega) only [vm, seval, H]; rfl) (.cons _ slr) ?_ (by omega) ?_).1⟩ <;> first | (simp (disch := omega) only [vm, seval, H]; done) | rfl
  simp (disch := omega) only [vm, seval, h.1]
  refine ⟨hk9 () () _ _ _ _ h.2 slr ?_ ?_ ?_ (by omega)⟩ <;> first | (simp (disch := omega) only [vm, seval, h.1]; done) | rfl
  intro k2 Jk2 hk2 h
  replace h := AJ h
  rcases h with h | h
  simp (disch := omega) only [vm, seval, h.1]
  refine ⟨hk2 true () _ _ _ _ h.2 slr ?_ ?_ ?_ (by omega)⟩ <;> first | (simp (disch := omega) only [vm, seval, h.1]; done) | rfl
  replace h := AJ h
  rcases h with h | h
  simp (disch := omega) only [vm, seval, h.1]
  refine ⟨hk2 true () _ _ _ _ h.2 slr ?_ ?_ ?_ (by omega)⟩ <;> first | (simp (disch := omega) only [vm, seval, h.1]; done) | rfl
  replace h := AJ h
  rcases h with h | h
  simp (disch := omega) only [vm, seval, h.1]
  refine ⟨hk2 true () _ _ _ _ h.2 slr ?_ ?_ ?_ (by omega)⟩ <;> first | (simp (disch := omega) only [vm, seval, h.1]; done) | rfl
  replace h := AJ h
  rcases h with h | h
  simp (disch := omega) only [vm, seval, h.1]
  refine ⟨hk2 true () _ _ _ _ h.2 slr ?_ ?_ ?_ (by omega)⟩ <;> first | (simp (disch := omega) only [vm, seval, h.1]; done) | rfl
  simp (disch := omega) only [vm, seval, h.1]
  refine ⟨hk2 (decide ((a0.items.length : Int) > a1)) () _ _ _ _ h.2 slr ?_ ?_ ?_ (by omega)⟩ <;> first | (simp (disch := omega) only [vm, seval, h.1]; done) | rfl
theorem Xz {a0 a1 a2 r} (h : D8 N N a0 a1 a2 = some r) (ha : args = [AA a0, .int .i64 a1, .int .i64 a2]) (hQ : ∀ n', n ≤ n' → Gl (Q (.int .i64 r) ⟨m, n'⟩)) : ACall vE 24 args ⟨m, n⟩ Q :=
 (RY N N h ha hQ)
theorem PP (N : Nat) : ∀ D : Nat, (∀ {a0 : ApiValue} {a1 : Int} {r : Int} (h : Cq N D a0 a1 = some r) {args : List AVal} {n : Nat} {m : MS} (ha : args = [AA a0, .int .i64 a1]) {Q : PQ} (hQ : ∀ n', n ≤ n' → Gl (Q (.int .i64 r) ⟨m, n'⟩)), ACall vE 44 args ⟨m, n⟩ Q) := by
 intro D
 induction D with
 | zero =>
  intro a0 a1 r h
  simp only [Cq, reduceCtorEq] at h
 | succ D ih_ref15_count =>
  intro a0 a1 r h args n m ha Q hQ
  rw [Cq] at h
  subst ha
  refine Lp hQ Tryz.func44 rfl Tryz.ntmps44 Tryz.results44 (.q (.r []) (.q (.r []) .z)) fun R hR => ?_
  replace h := And.intro trivial h
  simp (disch := omega) only [vm, seval, h.1]
  refine ⟨AU (γ := Unit) h [11, 12, 13, 14, 15, 16, 17, 18, 19, 20] [5] (fun j1 g => [.int .i64 j1]) (fun j1 g => (n, [.int .i64 a0.kind, .str a0.text, .slice 1 (List.map AVal.str a0.keys) false, .slice 4 (List.map AA a0.items) false]) :: m) .z ?_ ?_⟩ <;> clear h
  rintro j1 _ n4 hnn4 _ _ h
  refine AB (.q (.q (.r []) (.c (.q (.r []) .z) .z)) (.q (.r []) .z)) ?_
  replace h := AJ h
  rcases h with h | h
  obtain ⟨H, h⟩ := h
  cases h
  simp (disch := omega) only [vm, seval, H]
  refine ⟨(hR _ _ _ _ _ _ (by simp (disch := omega) only [vm, seval, H]; rfl) (.cons _ slr) ?_ (by omega) ?_).1⟩ <;> first | (simp (disch := omega) only [vm, seval, H]; done) | rfl
  simp (disch := omega) only [vm, seval, h.1]
  refine ⟨AU (γ := Unit) h [4, 8, 9, 23, 24, 25, 26, 27, 28, 29, 30, 31, 32, 33, 34, 35, 36, 37, 38, 39, 40] [6] (fun j9 g => [.int .i64 j9]) (fun j9 g => (n, [.int .i64 a0.kind, .str a0.text, .slice 1 (List.map AVal.str a0.keys) false, .slice 4 (List.map AA a0.items) false]) :: m) (.q (.r []) .z) ?_ ?_⟩ <;> clear h
  rintro j9 _ n12 hnn12 _ _ h
  refine AB (.q (.r []) .z) ?_
  obtain ⟨H, h⟩ := h
  cases h
  simp (disch := omega) only [vm, seval, H]
  refine ⟨(hR _ _ _ _ _ _ (by simp (disch := omega) only [vm, seval, H]; rfl) (.cons _ slr) ?_ (by omega) ?_).1⟩ <;> first | (simp (disch := omega) only [vm, seval, H]; done) | rfl
  intro k10 Jk10 hk10 h
  replace h := Ac h
  obtain ⟨hfk13, h⟩ := h
  simp (disch := omega) only [vm, seval, h.1]
  refine ⟨Da (σ := Int) (γ := Unit) a0.items hfk13 (fun xs i s => CF N (Cq N D) j1 k10 xs s) (fun i s g => [.int .i64 s, .int .i64 i]) (fun i s g => (n, [.int .i64 a0.kind, .str a0.text, .slice 1 (List.map AVal.str a0.keys) false, .slice 4 (List.map AA a0.items) false]) :: m) [4, 8, 9, 27, 28, 29, 30, 31, 32, 33, 34, 35, 36, 37, 38, 39, 40] [6, 26] 1 () h (by first | (simp (disch := omega) only [vm, seval, h.1]; done) | rfl) (by first | (simp (disch := omega) only [vm, seval, h.1]; done) | rfl) ?_ ?_⟩ <;> clear h
  rintro s26 s6 _ nL0_1 hnL0_1 _ h
  change _ ∧ CF N (Cq N D) j1 k10 [] s6 = _ at h
  rw [CF] at h
  refine AB (.q (.r []) (.q (.c .z .z) (.q (.q (.r []) (.q (.r []) (.q (.q (.r []) (.c (.q (.r []) .z) .z)) (.q (.r []) (.q (.r []) (.c (.q (.r []) .z) .z)))))) (.r [])))) ?_
  simp (disch := omega) only [vm, seval, h.1]
  refine ⟨hk10 s6 () _ _ _ _ h.2 slr ?_ ?_ ?_ (by omega)⟩ <;> first | (simp (disch := omega) only [vm, seval, h.1]; done) | rfl
  rintro xk13 xsk13 s26 s6 _ nL0_1 hnL0_1 _ h Jk13 hk13
  change _ ∧ CF N (Cq N D) j1 k10 (xk13 :: xsk13) s6 = _ at h
  rw [CF] at h
  refine AB (.q (.r []) (.q (.c .z .z) (.q (.q (.r []) (.q (.r []) (.q (.q (.r []) (.c (.q (.r []) .z) .z)) (.q (.r []) (.q (.r []) (.c (.q (.r []) .z) .z)))))) (.r [])))) ?_
  replace h := AC h
  obtain ⟨y14, h⟩ := h
  simp (disch := omega) only [vm, seval, h.1]
  refine ⟨ih_ref15_count h.1.1 (by first | (simp (disch := omega) only [vm, seval, h.1]; done) | rfl) fun n15 hn15 => ?_⟩
  replace h := AJ h
  rcases h with h | h
  obtain ⟨H, h⟩ := h
  cases h
  simp (disch := omega) only [vm, seval, H]
  refine ⟨(hR _ _ _ _ _ _ (by simp (disch := omega) only [vm, seval, H]; rfl) (.cons _ (.cons _ slr)) ?_ (by omega) ?_).1⟩ <;> first | (simp (disch := omega) only [vm, seval, H]; done) | rfl
  replace h := AJ h
  rcases h with h | h
  obtain ⟨H, h⟩ := h
  cases h
  simp (disch := omega) only [vm, seval, H]
  refine ⟨(hR _ _ _ _ _ _ (by simp (disch := omega) only [vm, seval, H]; rfl) (.cons _ (.cons _ slr)) ?_ (by omega) ?_).1⟩ <;> first | (simp (disch := omega) only [vm, seval, H]; done) | rfl
  simp (disch := omega) only [vm, seval, h.1]
  refine ⟨hk13 (wr .i64 (s6 + y14)) () _ _ _ _ h.2 (.cons _ slr) ?_ ?_ ?_ (by omega)⟩ <;> first | (simp (disch := omega) only [vm, seval, h.1]; done) | rfl
  intro k2 Jk2 hk2 h
  simp (disch := omega) only [vm, seval, h.1]
  refine ⟨AU (γ := Unit) h [11, 12, 13, 14, 15, 16, 17] [18] (fun j5 g => [.bool j5]) (fun j5 g => (n, [.int .i64 a0.kind, .str a0.text, .slice 1 (List.map AVal.str a0.keys) false, .slice 4 (List.map AA a0.items) false]) :: m) (.r []) ?_ ?_⟩ <;> clear h
  rintro j5 _ n8 hnn8 _ _ h
  refine AB (.c (.r []) .z) ?_
  replace h := AJ h
  rcases h with h | h
  simp (disch := omega) only [vm, seval, h.1]
  refine ⟨hk2 (wr .i64 (a1 + 1)) () _ _ _ _ h.2 slr ?_ ?_ ?_ (by omega)⟩ <;> first | (simp (disch := omega) only [vm, seval, h.1]; done) | rfl
  simp (disch := omega) only [vm, seval, h.1]
  refine ⟨hk2 a1 () _ _ _ _ h.2 slr ?_ ?_ ?_ (by omega)⟩ <;> first | (simp (disch := omega) only [vm, seval, h.1]; done) | rfl
  intro k6 Jk6 hk6 h
  replace h := AJ h
  rcases h with h | h
  simp (disch := omega) only [vm, seval, h.1]
  refine ⟨hk6 true () _ _ _ _ h.2 slr ?_ ?_ ?_ (by omega)⟩ <;> first | (simp (disch := omega) only [vm, seval, h.1]; done) | rfl
  simp (disch := omega) only [vm, seval, h.1]
  refine ⟨hk6 (a0.kind == 7) () _ _ _ _ h.2 slr ?_ ?_ ?_ (by omega)⟩ <;> first | (simp (disch := omega) only [vm, seval, h.1]; done) | rfl
theorem Rb {a0 a1 r} (h : Cq N N a0 a1 = some r) (ha : args = [AA a0, .int .i64 a1]) (hQ : ∀ n', n ≤ n' → Gl (Q (.int .i64 r) ⟨m, n'⟩)) : ACall vE 44 args ⟨m, n⟩ Q :=
 (PP N N h ha hQ)
theorem Nf (N : Nat) : ∀ D : Nat, (∀ {a0 : (List (List UInt8))} {r : (List (List UInt8))} (h : C8 N D a0 = some r) {args : List AVal} {n : Nat} {m : MS} (ha : args = [.slice 1 (List.map AVal.str a0) false]) {Q : PQ} (hQ : ∀ n', n ≤ n' → Gl (Q (.slice 1 (List.map AVal.str r) false) ⟨m, n'⟩)), ACall vE 67 args ⟨m, n⟩ Q) := by
 intro D
 induction D with
 | zero =>
  intro a0 r h
  simp only [C8, reduceCtorEq] at h
 | succ D ih_ref15_sorted =>
  intro a0 r h args n m ha Q hQ
  rw [C8] at h
  subst ha
  refine Lp hQ Tryz.func67 rfl Tryz.ntmps67 Tryz.results67 (.q (.r []) (.q (.q (.r []) (.c (.q (.r []) .z) .z)) (.q .z (.q (.r []) .z)))) fun R hR => ?_
  replace h := And.intro trivial h
  replace h := AJ h
  rcases h with h | h
  obtain ⟨H, h⟩ := h
  cases h
  simp (disch := omega) only [vm, seval, H]
  refine ⟨(hR _ _ _ _ _ _ (by simp (disch := omega) only [vm, seval, H]; rfl) slr ?_ (by omega) ?_).1⟩ <;> first | (simp (disch := omega) only [vm, seval, H]; done) | rfl
  replace h := AC h
  obtain ⟨x1, h⟩ := h
  replace h := AC h
  obtain ⟨y2, h⟩ := h
  have cy2 := h.1.1
  replace h := AC h
  obtain ⟨x4, h⟩ := h
  replace h := AC h
  obtain ⟨y5, h⟩ := h
  have cy5 := h.1.1
  simp (disch := omega) only [vm, seval, h.1]
  refine ⟨Au [] (.take 0 (.take 1 (.take 2 (.take 3 (.take 4 (.take 6 (.take 7 (.take 8 (.take 9 (.take 10 (.alt 5 [10, 9, 8, 7, 6, 3, 2, 1, 0] (.alt 11 [9, 8, 7, 6, 4, 3, 2, 1, 0] (.alt 12 [10, 9, 8, 7, 6] (.alt 13 [] (.done) (.stop)) (.stop)) (.stop)) (.stop)))))))))))) Ah (by kernel_rfl) ?_⟩
  simp (disch := omega) only [vm, seval, h.1]
  refine ⟨ih_ref15_sorted cy2 (by first | (simp (disch := omega) only [vm, seval, h.1]; done) | rfl) fun n3 hn3 => ?_⟩
  simp (disch := omega) only [vm, seval, h.1]
  refine ⟨ih_ref15_sorted cy5 (by first | (simp (disch := omega) only [vm, seval, h.1]; done) | rfl) fun n6 hn6 => ?_⟩
  simp (disch := omega) only [vm, seval, h.1]
  refine ⟨AU (γ := Unit) h [22, 23, 24, 25, 26, 27, 28, 29, 30, 31, 32, 33, 34, 35, 36, 37, 38, 39, 40, 41, 42, 43, 44, 45, 46, 47, 48, 49, 50, 51, 52] [3, 4, 5] (fun j7 g => [.slice 1 (List.map AVal.str j7.1) false, .slice 1 (List.map AVal.str j7.2.1) false, .slice 1 (List.map AVal.str j7.2.2) true]) (fun j7 g => m) .z ?_ ?_⟩ <;> clear h
  rintro j7 _ n10 hnn10 _ _ h
  refine AB (.q (.r [53]) .z) ?_
  replace h := Ac h
  obtain ⟨c, h⟩ := h
  try simp only [liE, seval] at c
  replace h := Aa c h
  replace h := Ac h
  obtain ⟨c, h⟩ := h
  try simp only [liE, seval] at c
  replace h := Aa c h
  obtain ⟨H, h⟩ := h
  cases h
  simp (disch := omega) only [vm, seval, H]
  refine ⟨(hR _ _ _ _ _ _ (by simp (disch := omega) only [vm, seval, H]; rfl) slr ?_ (by omega) ?_).1⟩ <;> first | (simp (disch := omega) only [vm, seval, H]; done) | rfl
  intro k8 Jk8 hk8 h
  simp (disch := omega) only [vm, seval, h.1]
  refine ⟨Fz (σ := (List (List UInt8)) × (List (List UInt8)) × (List (List UInt8))) (γ := Unit) (fun k s => CQ N k8 k s.1 s.2.1 s.2.2) (fun s g => [.slice 1 (List.map AVal.str s.1) false, .slice 1 (List.map AVal.str s.2.1) false, .slice 1 (List.map AVal.str s.2.2) true]) (fun s g => m) [22, 23, 24, 25, 26, 27, 28, 29, 30, 31, 32, 33, 34, 35, 36, 37, 38, 39, 40, 41, 42, 43, 44, 45, 46, 47, 48, 49, 50, 51, 52] [3, 4, 5] (y2, y5, []) () h (fun _ => rfl) (by first | (simp (disch := omega) only [vm, seval, h.1]; done) | rfl) (by first | (simp (disch := omega) only [vm, seval, h.1]; done) | rfl) ?_⟩
  clear h
  rintro k11 ⟨s3, s4, s5⟩ _ nL0_1 hnL0_1 _ h Jk11 hk11
  change _ ∧ CQ N k8 (k11 + 1) s3 s4 s5 = _ at h
  rw [CQ] at h
  refine AB (.q .z (.q .z (.c .z .z))) ?_
  simp (disch := omega) only [vm, seval, h.1]
  refine ⟨AU (γ := Unit) h [22, 23, 24, 25, 26, 27, 28] [29] (fun j12 g => [.bool j12]) (fun j12 g => m) (.r []) ?_ ?_⟩ <;> clear h
  rintro j12 _ n15 hnn15 _ _ h
  refine AB (.c .z .z) ?_
  replace h := AJ h
  rcases h with h | h
  replace h := AC h
  obtain ⟨x16, h⟩ := h
  replace h := AC h
  obtain ⟨x17, h⟩ := h
  simp (disch := omega) only [vm, seval, h.1]
  refine ⟨Au [] (.take 0 (.take 1 (.take 2 (.take 3 (.take 4 (.take 5 (.take 6 (.done)))))))) Ah (by kernel_rfl) ?_⟩
  replace h := AJ h
  rcases h with h | h
  replace h := Ac h
  obtain ⟨c, h⟩ := h
  try simp only [liE, seval] at c
  replace h := Aa c h
  replace h := AC h
  obtain ⟨x18, h⟩ := h
  simp (disch := omega) only [vm, seval, h.1]
  refine ⟨Au [37] (.take 1 (.take 2 (.take 3 (.take 4 (.take 6 (.take 7 (.alt 0 [7, 6, 4, 3, 2, 1] (.alt 5 [7, 6, 3, 2, 1] (.alt 8 [7, 6] (.alt 9 [] (.done) (.stop)) (.stop)) (.stop)) (.stop)))))))) Ah (by kernel_rfl) ?_⟩
  simp (disch := omega) only [vm, seval, h.1]
  refine ⟨hk11 (x18, s4, (s5 ++ [x16])) () _ _ _ _ h.2 slr ?_ ?_ ?_ (by omega)⟩ <;> first | (simp (disch := omega) only [vm, seval, h.1]; done) | rfl
  replace h := Ac h
  obtain ⟨c, h⟩ := h
  try simp only [liE, seval] at c
  replace h := Aa c h
  replace h := AC h
  obtain ⟨x19, h⟩ := h
  simp (disch := omega) only [vm, seval, h.1]
  refine ⟨Au [45] (.take 1 (.take 2 (.take 3 (.take 4 (.take 6 (.take 7 (.alt 0 [7, 6, 4, 3, 2, 1] (.alt 5 [7, 6, 3, 2, 1] (.alt 8 [7, 6] (.alt 9 [] (.done) (.stop)) (.stop)) (.stop)) (.stop)))))))) Ah (by kernel_rfl) ?_⟩
  simp (disch := omega) only [vm, seval, h.1]
  refine ⟨hk11 (s3, x19, (s5 ++ [x17])) () _ _ _ _ h.2 slr ?_ ?_ ?_ (by omega)⟩ <;> first | (simp (disch := omega) only [vm, seval, h.1]; done) | rfl
  simp (disch := omega) only [vm, seval, h.1]
  refine ⟨hk8 (s3, s4, s5) () _ _ _ _ h.2 slr ?_ ?_ ?_ (by omega)⟩ <;> first | (simp (disch := omega) only [vm, seval, h.1]; done) | rfl
  intro k13 Jk13 hk13 h
  replace h := AJ h
  rcases h with h | h
  simp (disch := omega) only [vm, seval, h.1]
  refine ⟨hk13 (decide ((s4.length : Int) > 0)) () _ _ _ _ h.2 slr ?_ ?_ ?_ (by omega)⟩ <;> first | (simp (disch := omega) only [vm, seval, h.1]; done) | rfl
  simp (disch := omega) only [vm, seval, h.1]
  refine ⟨hk13 false () _ _ _ _ h.2 slr ?_ ?_ ?_ (by omega)⟩ <;> first | (simp (disch := omega) only [vm, seval, h.1]; done) | rfl
theorem Kb {a0 r} (h : C8 N N a0 = some r) (ha : args = [.slice 1 (List.map AVal.str a0) false]) (hQ : ∀ n', n ≤ n' → Gl (Q (.slice 1 (List.map AVal.str r) false) ⟨m, n'⟩)) : ACall vE 67 args ⟨m, n⟩ Q :=
 (Nf N N h ha hQ)
theorem Q8 (N : Nat) : ∀ D : Nat, (∀ {a0 : ApiValue} {r : Bool} (h : Dq N D a0 = some r) {args : List AVal} {n : Nat} {m : MS} (ha : args = [AA a0]) {Q : PQ} (hQ : ∀ n', n ≤ n' → Gl (Q (.bool r) ⟨m, n'⟩)), ACall vE 41 args ⟨m, n⟩ Q) := by
 intro D
 induction D with
 | zero =>
  intro a0 r h
  simp only [Dq, reduceCtorEq] at h
 | succ D ih_ref15_long =>
  intro a0 r h args n m ha Q hQ
  rw [Dq] at h
  subst ha
  refine Lp hQ Tryz.func41 rfl Tryz.ntmps41 Tryz.results41 (.q (.r []) (.q (.r []) .z)) fun R hR => ?_
  replace h := And.intro trivial h
  simp (disch := omega) only [vm, seval, h.1]
  refine ⟨AU (γ := Unit) h [5, 11, 12, 13, 14, 15, 16, 17, 18, 19, 20, 21, 22] [3] (fun j1 g => [.int .i64 j1]) (fun j1 g => (n, [.int .i64 a0.kind, .str a0.text, .slice 1 (List.map AVal.str a0.keys) false, .slice 4 (List.map AA a0.items) false]) :: m) (.q (.r []) .z) ?_ ?_⟩ <;> clear h
  rintro j1 _ n4 hnn4 _ _ h
  refine AB (.q (.q (.r []) (.c (.q (.r []) .z) .z)) .z) ?_
  replace h := AJ h
  rcases h with h | h
  obtain ⟨H, h⟩ := h
  cases h
  simp (disch := omega) only [vm, seval, H]
  refine ⟨(hR _ _ _ _ _ _ (by simp (disch := omega) only [vm, seval, H]; rfl) (.cons _ slr) ?_ (by omega) ?_).1⟩ <;> first | (simp (disch := omega) only [vm, seval, H]; done) | rfl
  simp (disch := omega) only [vm, seval, h.1]
  refine ⟨AU (γ := Unit) h [2, 7, 25, 26, 27, 28, 29, 30, 31, 32, 33, 34] [] (fun j6 g => []) (fun j6 g => (n, [.int .i64 a0.kind, .str a0.text, .slice 1 (List.map AVal.str a0.keys) false, .slice 4 (List.map AA a0.items) false]) :: m) (.q (.r []) .z) ?_ ?_⟩ <;> clear h
  rintro j6 _ n9 hnn9 _ _ h
  refine AB (.q (.r []) .z) ?_
  obtain ⟨H, h⟩ := h
  cases h
  simp (disch := omega) only [vm, seval, H]
  refine ⟨(hR _ _ _ _ _ _ (by simp (disch := omega) only [vm, seval, H]; rfl) (.cons _ slr) ?_ (by omega) ?_).1⟩ <;> first | (simp (disch := omega) only [vm, seval, H]; done) | rfl
  intro k7 Jk7 hk7 h
  replace h := Ac h
  obtain ⟨hfk10, h⟩ := h
  simp (disch := omega) only [vm, seval, h.1]
  refine ⟨Da (σ := Unit) (γ := Unit) a0.items hfk10 (fun xs i s => Cj N (Dq N D) k7 xs) (fun i s g => [.int .i64 i]) (fun i s g => (n, [.int .i64 a0.kind, .str a0.text, .slice 1 (List.map AVal.str a0.keys) false, .slice 4 (List.map AA a0.items) false]) :: m) [2, 7, 29, 30, 31, 32, 33, 34] [28] () () h (by first | (simp (disch := omega) only [vm, seval, h.1]; done) | rfl) (by first | (simp (disch := omega) only [vm, seval, h.1]; done) | rfl) ?_ ?_⟩ <;> clear h
  rintro s28 _ _ nL1_1 hnL1_1 _ h
  change _ ∧ Cj N (Dq N D) k7 [] = _ at h
  rw [Cj] at h
  refine AB (.q (.r []) (.q (.c .z .z) (.q (.q (.r []) (.q (.r []) (.c (.q (.r []) .z) .z))) (.r [])))) ?_
  simp (disch := omega) only [vm, seval, h.1]
  refine ⟨hk7 () () _ _ _ _ h.2 slr ?_ ?_ ?_ (by omega)⟩ <;> first | (simp (disch := omega) only [vm, seval, h.1]; done) | rfl
  rintro xk10 xsk10 s28 _ _ nL1_1 hnL1_1 _ h Jk10 hk10
  change _ ∧ Cj N (Dq N D) k7 (xk10 :: xsk10) = _ at h
  rw [Cj] at h
  refine AB (.q (.r []) (.q (.c .z .z) (.q (.q (.r []) (.q (.r []) (.c (.q (.r []) .z) .z))) (.r [])))) ?_
  replace h := AC h
  obtain ⟨y11, h⟩ := h
  simp (disch := omega) only [vm, seval, h.1]
  refine ⟨ih_ref15_long h.1.1 (by first | (simp (disch := omega) only [vm, seval, h.1]; done) | rfl) fun n12 hn12 => ?_⟩
  replace h := AJ h
  rcases h with h | h
  obtain ⟨H, h⟩ := h
  cases h
  simp (disch := omega) only [vm, seval, H]
  refine ⟨(hR _ _ _ _ _ _ (by simp (disch := omega) only [vm, seval, H]; rfl) (.cons _ (.cons _ slr)) ?_ (by omega) ?_).1⟩ <;> first | (simp (disch := omega) only [vm, seval, H]; done) | rfl
  simp (disch := omega) only [vm, seval, h.1]
  refine ⟨hk10 () () _ _ _ _ h.2 (.cons _ slr) ?_ ?_ ?_ (by omega)⟩ <;> first | (simp (disch := omega) only [vm, seval, h.1]; done) | rfl
  intro k2 Jk2 hk2 h
  replace h := Ac h
  obtain ⟨hfk5, h⟩ := h
  simp (disch := omega) only [vm, seval, h.1]
  refine ⟨Da (σ := Int) (γ := Unit) a0.keys hfk5 (fun xs i s => Cy N k2 xs s) (fun i s g => [.int .i64 s, .int .i64 i]) (fun i s g => (n, [.int .i64 a0.kind, .str a0.text, .slice 1 (List.map AVal.str a0.keys) false, .slice 4 (List.map AA a0.items) false]) :: m) [5, 15, 16, 17, 18, 19, 20, 21, 22] [3, 14] (a0.text.length : Int) () h (by first | (simp (disch := omega) only [vm, seval, h.1]; done) | rfl) (by first | (simp (disch := omega) only [vm, seval, h.1]; done) | rfl) ?_ ?_⟩ <;> clear h
  rintro s14 s3 _ nL0_1 hnL0_1 _ h
  change _ ∧ Cy N k2 [] s3 = _ at h
  rw [Cy] at h
  refine AB (.q (.r []) (.q (.c .z .z) (.q (.q (.r []) (.r [])) (.r [])))) ?_
  simp (disch := omega) only [vm, seval, h.1]
  refine ⟨hk2 s3 () _ _ _ _ h.2 slr ?_ ?_ ?_ (by omega)⟩ <;> first | (simp (disch := omega) only [vm, seval, h.1]; done) | rfl
  rintro xk5 xsk5 s14 s3 _ nL0_1 hnL0_1 _ h Jk5 hk5
  change _ ∧ Cy N k2 (xk5 :: xsk5) s3 = _ at h
  rw [Cy] at h
  refine AB (.q (.r []) (.q (.c .z .z) (.q (.q (.r []) (.r [])) (.r [])))) ?_
  simp (disch := omega) only [vm, seval, h.1]
  refine ⟨hk5 (wr .i64 (s3 + (xk5.length : Int))) () _ _ _ _ h.2 slr ?_ ?_ ?_ (by omega)⟩ <;> first | (simp (disch := omega) only [vm, seval, h.1]; done) | rfl
theorem Tc {a0 r} (h : Dq N N a0 = some r) (ha : args = [AA a0]) (hQ : ∀ n', n ≤ n' → Gl (Q (.bool r) ⟨m, n'⟩)) : ACall vE 41 args ⟨m, n⟩ Q :=
 (Q8 N N h ha hQ)
theorem Q6 {a0 a1 r} (h : Gf N a0 a1 = some r) (ha : args = [.str a0, .slice 1 (List.map (AVal.int .u8) a1) false]) (hQ : ∀ n', n ≤ n' → Gl (Q (.str r) ⟨m, n'⟩)) : ACall vE 13 args ⟨m, n⟩ Q := by
 rw [Gf] at h
 subst ha
 refine ent hQ Tryz.func13 rfl Tryz.ntmps13 Tryz.results13 (.q (.r []) (.q (.r []) (.q (.r []) .z))) fun R hR => ?_
 replace h := And.intro trivial h
 simp (maxSteps := 10000000) (disch := omega) only [vm, seval, h.1]
 refine ⟨AU (γ := Unit) h [6, 7, 8, 9, 10, 11, 12, 13, 14, 15, 16, 17, 18, 19, 20, 21, 22, 23, 24, 25, 26, 27, 28, 29, 30, 31, 32, 33, 34, 35, 36, 37, 38, 39, 40, 41, 42, 43, 44, 45, 46, 47, 48, 49, 50, 51, 52, 53, 54, 55, 56, 57, 58, 59, 60, 61, 62, 63, 64, 65, 66, 67, 68, 69, 70, 71, 72, 73, 74, 75, 76, 77, 78, 79, 80, 81, 82, 83, 84, 85, 86, 87, 88, 89, 90, 91, 92, 93, 94, 95, 96, 97, 98, 99, 100, 101, 102] [5] (fun j1 g => [.slice 1 (List.map (AVal.int .u8) j1) true]) (fun j1 g => m) (.q (.r []) .z) ?_ ?_⟩ <;> clear h
 rintro j1 _ n4 hnn4 _ _ h
 refine AB (.q (.r []) .z) ?_
 obtain ⟨H, h⟩ := h
 cases h
 simp (maxSteps := 10000000) (disch := omega) only [vm, seval, H]
 refine ⟨(hR _ _ _ _ _ _ (by simp (maxSteps := 10000000) (disch := omega) only [vm, seval, H]; rfl) slr ?_ (by omega) ?_).1⟩ <;> first | (simp (maxSteps := 10000000) (disch := omega) only [vm, seval, H]; done) | rfl
 intro k2 Jk2 hk2 h
 simp (maxSteps := 10000000) (disch := omega) only [vm, seval, h.1]
 refine ⟨Fz (σ := (List Int) × Bool × Int) (γ := Unit) (fun k s => Ay N a0 a1 k2 k s.1 s.2.1 s.2.2) (fun s g => [.slice 1 (List.map (AVal.int .u8) s.1) true, .bool s.2.1, .int .i64 s.2.2]) (fun s g => m) [8, 9, 10, 11, 12, 13, 14, 15, 16, 17, 18, 19, 20, 21, 22, 23, 24, 25, 26, 27, 28, 29, 30, 31, 32, 33, 34, 35, 36, 37, 38, 39, 40, 41, 42, 43, 44, 45, 46, 47, 48, 49, 50, 51, 52, 53, 54, 55, 56, 57, 58, 59, 60, 61, 62, 63, 64, 65, 66, 67, 68, 69, 70, 71, 72, 73, 74, 75, 76, 77, 78, 79, 80, 81, 82, 83, 84, 85, 86, 87, 88, 89, 90, 91, 92, 93, 94, 95, 96, 97, 98, 99, 100, 101, 102] [5, 6, 7] ([], false, 0) () h (fun _ => rfl) (by first | (simp (maxSteps := 10000000) (disch := omega) only [vm, seval, h.1]; done) | rfl) (by first | (simp (maxSteps := 10000000) (disch := omega) only [vm, seval, h.1]; done) | rfl) ?_⟩
 clear h
 rintro k5 ⟨s5, s6, s7⟩ _ nL0_1 hnL0_1 _ h Jk5 hk5
 change _ ∧ Ay N a0 a1 k2 (k5 + 1) s5 s6 s7 = _ at h
 rw [Ay] at h
 refine AB (.q (.q (.r []) (.c .z .z)) .z) ?_
 replace h := AJ h
 rcases h with h | h
 simp (maxSteps := 10000000) (disch := omega) only [vm, seval, h.1]
 refine ⟨AU (γ := Unit) h [8, 9, 10, 17, 18, 19, 20, 21, 22, 23, 24, 25, 26, 27, 28, 29, 30, 31, 32, 33, 34, 35, 36, 37, 38, 39, 40, 41, 42, 43, 44, 45, 46, 47, 48, 49, 50, 51, 52, 53, 54, 55, 56, 57, 58, 59, 60, 61, 62, 63, 64, 65, 66, 67, 68, 69, 70, 71, 72, 73, 74, 75, 76, 77, 78, 79, 80, 81, 82, 83, 84, 85, 86, 87, 88, 89, 90, 91, 92, 93, 94, 95, 96, 97, 98, 99, 100, 101, 102] [5, 6, 7] (fun j6 g => [.slice 1 (List.map (AVal.int .u8) j6.1) true, .bool j6.2.1, .int .i64 j6.2.2]) (fun j6 g => m) (.q (.r []) .z) ?_ ?_⟩ <;> clear h
 rintro j6 _ n9 hnn9 _ _ h
 refine AB (.r []) ?_
 simp (maxSteps := 10000000) (disch := omega) only [vm, seval, h.1]
 refine ⟨hk5 (j6.1, j6.2.1, (wr .i64 (j6.2.2 + 1))) () _ _ _ _ h.2 slr ?_ ?_ ?_ (by omega)⟩ <;> first | (simp (maxSteps := 10000000) (disch := omega) only [vm, seval, h.1]; done) | rfl
 intro k7 Jk7 hk7 h
 replace h := AC h
 obtain ⟨x10, h⟩ := h
 simp (maxSteps := 10000000) (disch := omega) only [vm, seval, h.1]
 refine ⟨AU (γ := Unit) h [20, 21, 22, 23, 24, 25, 26, 27, 28, 29, 30, 31, 32, 33, 34, 35, 36, 37, 38, 39, 40, 41, 42, 43, 44, 45] [9] (fun j11 g => [.bool j11]) (fun j11 g => m) (.r []) ?_ ?_⟩ <;> clear h
 rintro j11 _ n14 hnn14 _ _ h
 refine AB (.q .z .z) ?_
 simp (maxSteps := 10000000) (disch := omega) only [vm, seval, h.1]
 refine ⟨AU (γ := Unit) h [46, 47, 48, 49] [50] (fun j15 g => [.bool j15]) (fun j15 g => m) (.r []) ?_ ?_⟩ <;> clear h
 rintro j15 _ n18 hnn18 _ _ h
 refine AB (.c (.q (.r [51]) (.q (.r []) .z)) .z) ?_
 replace h := AJ h
 rcases h with h | h
 replace h := AC h
 obtain ⟨x19, h⟩ := h
 replace h := Ac h
 obtain ⟨c, h⟩ := h
 try simp only [liE, seval] at c
 replace h := Aa c h
 simp (maxSteps := 10000000) (disch := omega) only [vm, seval, h.1]
 refine ⟨hk7 ((s5 ++ [(AL x10), (AL x19)]), s6, (wr .i64 (s7 + 1))) () _ _ _ _ h.2 slr ?_ ?_ ?_ (by omega)⟩ <;> first | (simp (maxSteps := 10000000) (disch := omega) only [vm, seval, h.1]; done) | rfl
 simp (maxSteps := 10000000) (disch := omega) only [vm, seval, h.1]
 refine ⟨AU (γ := Unit) h [61, 62, 63, 64] [6] (fun j20 g => [.bool j20]) (fun j20 g => m) (.q (.r []) (.c (.r []) .z)) ?_ ?_⟩ <;> clear h
 rintro j20 _ n23 hnn23 _ _ h
 refine AB (.q (.r []) .z) ?_
 simp (maxSteps := 10000000) (disch := omega) only [vm, seval, h.1]
 refine ⟨AU (γ := Unit) h [65, 66, 67, 68, 69, 70, 71, 72, 73, 74, 75, 76, 77, 78] [10] (fun j24 g => [.int .i64 j24]) (fun j24 g => m) .z ?_ ?_⟩ <;> clear h
 rintro j24 _ n27 hnn27 _ _ h
 refine AB .z ?_
 simp (maxSteps := 10000000) (disch := omega) only [vm, seval, h.1]
 refine ⟨AU (γ := Unit) h [79, 80, 81, 82, 83, 84, 85, 86, 87, 88] [5] (fun j33 g => [.slice 1 (List.map (AVal.int .u8) j33) true]) (fun j33 g => m) (.q (.r []) (.c (.r [82]) .z)) ?_ ?_⟩ <;> clear h
 rintro j33 _ n36 hnn36 _ _ h
 refine AB (.q (.r [89]) (.q (.r []) (.c (.r [96]) .z))) ?_
 replace h := Ac h
 obtain ⟨c, h⟩ := h
 try simp only [liE, seval] at c
 replace h := Aa c h
 replace h := AJ h
 rcases h with h | h
 replace h := AC h
 obtain ⟨x38, h⟩ := h
 replace h := Ac h
 obtain ⟨c, h⟩ := h
 try simp only [liE, seval] at c
 replace h := Aa c h
 simp (maxSteps := 10000000) (disch := omega) only [vm, seval, h.1]
 refine ⟨hk7 (((j33 ++ [(AL x10)]) ++ [(AL x38)]), j20, s7) () _ _ _ _ h.2 slr ?_ ?_ ?_ (by omega)⟩ <;> first | (simp (maxSteps := 10000000) (disch := omega) only [vm, seval, h.1]; done) | rfl
 simp (maxSteps := 10000000) (disch := omega) only [vm, seval, h.1]
 refine ⟨hk7 ((j33 ++ [(AL x10)]), j20, s7) () _ _ _ _ h.2 slr ?_ ?_ ?_ (by omega)⟩ <;> first | (simp (maxSteps := 10000000) (disch := omega) only [vm, seval, h.1]; done) | rfl
 intro k34 Jk34 hk34 h
 replace h := AJ h
 rcases h with h | h
 replace h := AC h
 obtain ⟨x37, h⟩ := h
 replace h := Ac h
 obtain ⟨c, h⟩ := h
 try simp only [liE, seval] at c
 replace h := Aa c h
 simp (maxSteps := 10000000) (disch := omega) only [vm, seval, h.1]
 refine ⟨hk34 (s5 ++ [(AL x37)]) () _ _ _ _ h.2 slr ?_ ?_ ?_ (by omega)⟩ <;> first | (simp (maxSteps := 10000000) (disch := omega) only [vm, seval, h.1]; done) | rfl
 simp (maxSteps := 10000000) (disch := omega) only [vm, seval, h.1]
 refine ⟨hk34 s5 () _ _ _ _ h.2 slr ?_ ?_ ?_ (by omega)⟩ <;> first | (simp (maxSteps := 10000000) (disch := omega) only [vm, seval, h.1]; done) | rfl
 intro k25 Jk25 hk25 h
 simp (maxSteps := 10000000) (disch := omega) only [vm, seval, h.1]
 refine ⟨AU (γ := Unit) h [65, 66, 67, 68, 69] [70] (fun j28 g => [.bool j28]) (fun j28 g => m) (.r []) ?_ ?_⟩ <;> clear h
 rintro j28 _ n31 hnn31 _ _ h
 refine AB (.c (.r []) .z) ?_
 replace h := AJ h
 rcases h with h | h
 replace h := Ac h
 obtain ⟨c, h⟩ := h
 try simp only [liE, seval] at c
 replace h := Aa c h
 replace h := AC h
 obtain ⟨x32, h⟩ := h
 simp (maxSteps := 10000000) (disch := omega) only [vm, seval, h.1]
 refine ⟨hk25 (wr .i64 x32) () _ _ _ _ h.2 slr ?_ ?_ ?_ (by omega)⟩ <;> first | (simp (maxSteps := 10000000) (disch := omega) only [vm, seval, h.1]; done) | rfl
 simp (maxSteps := 10000000) (disch := omega) only [vm, seval, h.1]
 refine ⟨hk25 0 () _ _ _ _ h.2 slr ?_ ?_ ?_ (by omega)⟩ <;> first | (simp (maxSteps := 10000000) (disch := omega) only [vm, seval, h.1]; done) | rfl
 intro k29 Jk29 hk29 h
 replace h := AJ h
 rcases h with h | h
 simp (maxSteps := 10000000) (disch := omega) only [vm, seval, h.1]
 refine ⟨hk29 (decide ((a1.length : Int) > 0)) () _ _ _ _ h.2 slr ?_ ?_ ?_ (by omega)⟩ <;> first | (simp (maxSteps := 10000000) (disch := omega) only [vm, seval, h.1]; done) | rfl
 simp (maxSteps := 10000000) (disch := omega) only [vm, seval, h.1]
 refine ⟨hk29 false () _ _ _ _ h.2 slr ?_ ?_ ?_ (by omega)⟩ <;> first | (simp (maxSteps := 10000000) (disch := omega) only [vm, seval, h.1]; done) | rfl
 intro k21 Jk21 hk21 h
 replace h := AJ h
 rcases h with h | h
 simp (maxSteps := 10000000) (disch := omega) only [vm, seval, h.1]
 refine ⟨hk21 (!s6) () _ _ _ _ h.2 slr ?_ ?_ ?_ (by omega)⟩ <;> first | (simp (maxSteps := 10000000) (disch := omega) only [vm, seval, h.1]; done) | rfl
 simp (maxSteps := 10000000) (disch := omega) only [vm, seval, h.1]
 refine ⟨hk21 s6 () _ _ _ _ h.2 slr ?_ ?_ ?_ (by omega)⟩ <;> first | (simp (maxSteps := 10000000) (disch := omega) only [vm, seval, h.1]; done) | rfl
 intro k16 Jk16 hk16 h
 replace h := AJ h
 rcases h with h | h
 simp (maxSteps := 10000000) (disch := omega) only [vm, seval, h.1]
 refine ⟨hk16 ((AL x10) == 92) () _ _ _ _ h.2 slr ?_ ?_ ?_ (by omega)⟩ <;> first | (simp (maxSteps := 10000000) (disch := omega) only [vm, seval, h.1]; done) | rfl
 simp (maxSteps := 10000000) (disch := omega) only [vm, seval, h.1]
 refine ⟨hk16 false () _ _ _ _ h.2 slr ?_ ?_ ?_ (by omega)⟩ <;> first | (simp (maxSteps := 10000000) (disch := omega) only [vm, seval, h.1]; done) | rfl
 intro k12 Jk12 hk12 h
 replace h := AJ h
 rcases h with h | h
 simp (maxSteps := 10000000) (disch := omega) only [vm, seval, h.1]
 refine ⟨hk12 false () _ _ _ _ h.2 slr ?_ ?_ ?_ (by omega)⟩ <;> first | (simp (maxSteps := 10000000) (disch := omega) only [vm, seval, h.1]; done) | rfl
 replace h := AJ h
 rcases h with h | h
 simp (maxSteps := 10000000) (disch := omega) only [vm, seval, h.1]
 refine ⟨hk12 true () _ _ _ _ h.2 slr ?_ ?_ ?_ (by omega)⟩ <;> first | (simp (maxSteps := 10000000) (disch := omega) only [vm, seval, h.1]; done) | rfl
 replace h := AJ h
 rcases h with h | h
 simp (maxSteps := 10000000) (disch := omega) only [vm, seval, h.1]
 refine ⟨hk12 true () _ _ _ _ h.2 slr ?_ ?_ ?_ (by omega)⟩ <;> first | (simp (maxSteps := 10000000) (disch := omega) only [vm, seval, h.1]; done) | rfl
 replace h := AJ h
 rcases h with h | h
 simp (maxSteps := 10000000) (disch := omega) only [vm, seval, h.1]
 refine ⟨hk12 true () _ _ _ _ h.2 slr ?_ ?_ ?_ (by omega)⟩ <;> first | (simp (maxSteps := 10000000) (disch := omega) only [vm, seval, h.1]; done) | rfl
 replace h := AJ h
 rcases h with h | h
 simp (maxSteps := 10000000) (disch := omega) only [vm, seval, h.1]
 refine ⟨hk12 true () _ _ _ _ h.2 slr ?_ ?_ ?_ (by omega)⟩ <;> first | (simp (maxSteps := 10000000) (disch := omega) only [vm, seval, h.1]; done) | rfl
 replace h := AJ h
 rcases h with h | h
 simp (maxSteps := 10000000) (disch := omega) only [vm, seval, h.1]
 refine ⟨hk12 true () _ _ _ _ h.2 slr ?_ ?_ ?_ (by omega)⟩ <;> first | (simp (maxSteps := 10000000) (disch := omega) only [vm, seval, h.1]; done) | rfl
 simp (maxSteps := 10000000) (disch := omega) only [vm, seval, h.1]
 refine ⟨hk12 ((AL x10) == 125) () _ _ _ _ h.2 slr ?_ ?_ ?_ (by omega)⟩ <;> first | (simp (maxSteps := 10000000) (disch := omega) only [vm, seval, h.1]; done) | rfl
 simp (maxSteps := 10000000) (disch := omega) only [vm, seval, h.1]
 refine ⟨hk2 s5 () _ _ _ _ h.2 slr ?_ ?_ ?_ (by omega)⟩ <;> first | (simp (maxSteps := 10000000) (disch := omega) only [vm, seval, h.1]; done) | rfl
end Go.Proofs.YtbmilkoebhmnnaaGreatDoor
