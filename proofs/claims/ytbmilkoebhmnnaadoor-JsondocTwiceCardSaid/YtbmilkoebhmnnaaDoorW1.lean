import Derived.Test.YtbmilkoebhmnnaaDoorVmFacts
import Derived.Test.YtbmilkoebhmnnaaDoorDefs
import Derived.Test.YtbmilkoebhmnnaaDoorVM2
set_option linter.unusedVariables false
set_option linter.unusedSimpArgs false
set_option maxHeartbeats 4000000
set_option maxRecDepth 100000
set_option linter.defProp false
namespace Go.Proofs.YtbmilkoebhmnnaaDoor
open Go.VM
variable {N n : Nat} {m : MS} {Q : PQ} {args : List AVal}
theorem Qt {a0 r} (h : Hq N a0 = some r) (ha : args = [.int .i64 a0]) (hQ : ∀ n', n ≤ n' → Gl (Q (.bool r) ⟨m, n'⟩)) : ACall vE 107 args ⟨m, n⟩ Q := by
 rw [Hq] at h
 subst ha
 refine ent hQ Tryd.func107 rfl Tryd.ntmps107 Tryd.results107 (.q (.r []) (.q (.r []) .z)) fun R hR => ?_
 replace h := And.intro trivial h
 replace h := AC h
 rcases h with h | h
 replace h := AC h
 rcases h with h | h
 replace h := AC h
 rcases h with h | h
 obtain ⟨H, h⟩ := h
 cases h
 simp (disch := omega) only [vm, seval, H]
 refine ⟨(hR _ _ _ _ _ _ (by simp (disch := omega) only [vm, seval, H]; rfl) slr ?_ (by omega) ?_).1⟩ <;> first | (simp (disch := omega) only [vm, seval, H]; done) | rfl
 obtain ⟨H, h⟩ := h
 cases h
 simp (disch := omega) only [vm, seval, H]
 refine ⟨(hR _ _ _ _ _ _ (by simp (disch := omega) only [vm, seval, H]; rfl) slr ?_ (by omega) ?_).1⟩ <;> first | (simp (disch := omega) only [vm, seval, H]; done) | rfl
 obtain ⟨H, h⟩ := h
 cases h
 simp (disch := omega) only [vm, seval, H]
 refine ⟨(hR _ _ _ _ _ _ (by simp (disch := omega) only [vm, seval, H]; rfl) slr ?_ (by omega) ?_).1⟩ <;> first | (simp (disch := omega) only [vm, seval, H]; done) | rfl
 obtain ⟨H, h⟩ := h
 cases h
 simp (disch := omega) only [vm, seval, H]
 refine ⟨(hR _ _ _ _ _ _ (by simp (disch := omega) only [vm, seval, H]; rfl) slr ?_ (by omega) ?_).1⟩ <;> first | (simp (disch := omega) only [vm, seval, H]; done) | rfl
theorem Na (N : Nat) : ∀ D : Nat, (∀ {a0 : (List (List UInt8))} {r : (List (List UInt8))} (h : Cw N D a0 = some r) {args : List AVal} {n : Nat} {m : MS} (ha : args = [.slice 1 (List.map AVal.str a0) false]) {Q : PQ} (hQ : ∀ n', n ≤ n' → Gl (Q (.slice 1 (List.map AVal.str r) false) ⟨m, n'⟩)), ACall vE 42 args ⟨m, n⟩ Q) := by
 intro D
 induction D with
 | zero =>
  intro a0 r h
  simp only [Cw, reduceCtorEq] at h
 | succ D ih_ref15_sorted =>
  intro a0 r h args n m ha Q hQ
  rw [Cw] at h
  subst ha
  refine Ny hQ Tryd.func42 rfl Tryd.ntmps42 Tryd.results42 (.q (.r []) (.q (.q (.r []) (.c (.q (.r []) .z) .z)) (.q .z (.q (.r []) .z)))) fun R hR => ?_
  replace h := And.intro trivial h
  replace h := AC h
  rcases h with h | h
  obtain ⟨H, h⟩ := h
  cases h
  simp (disch := omega) only [vm, seval, H]
  refine ⟨(hR _ _ _ _ _ _ (by simp (disch := omega) only [vm, seval, H]; rfl) slr ?_ (by omega) ?_).1⟩ <;> first | (simp (disch := omega) only [vm, seval, H]; done) | rfl
  replace h := AB h
  obtain ⟨x1, h⟩ := h
  replace h := AB h
  obtain ⟨y2, h⟩ := h
  have cy2 := h.1.1
  replace h := AB h
  obtain ⟨x4, h⟩ := h
  replace h := AB h
  obtain ⟨y5, h⟩ := h
  have cy5 := h.1.1
  simp (disch := omega) only [vm, seval, h.1]
  refine ⟨Ar [] (.take 0 (.take 1 (.take 2 (.take 3 (.take 4 (.take 6 (.take 7 (.take 8 (.take 9 (.take 10 (.alt 5 [10, 9, 8, 7, 6, 3, 2, 1, 0] (.alt 11 [9, 8, 7, 6, 4, 3, 2, 1, 0] (.alt 12 [10, 9, 8, 7, 6] (.alt 13 [] (.done) (.stop)) (.stop)) (.stop)) (.stop)))))))))))) Ah (by kernel_rfl) ?_⟩
  simp (disch := omega) only [vm, seval, h.1]
  refine ⟨ih_ref15_sorted cy2 (by first | (simp (disch := omega) only [vm, seval, h.1]; done) | rfl) fun n3 hn3 => ?_⟩
  simp (disch := omega) only [vm, seval, h.1]
  refine ⟨ih_ref15_sorted cy5 (by first | (simp (disch := omega) only [vm, seval, h.1]; done) | rfl) fun n6 hn6 => ?_⟩
  simp (disch := omega) only [vm, seval, h.1]
  refine ⟨AX (γ := Unit) h [22, 23, 24, 25, 26, 27, 28, 29, 30, 31, 32, 33, 34, 35, 36, 37, 38, 39, 40, 41, 42, 43, 44, 45, 46, 47, 48, 49, 50, 51, 52] [3, 4, 5] (fun j7 g => [.slice 1 (List.map AVal.str j7.1) false, .slice 1 (List.map AVal.str j7.2.1) false, .slice 1 (List.map AVal.str j7.2.2) true]) (fun j7 g => m) .z ?_ ?_⟩ <;> clear h
  rintro j7 _ n10 hnn10 _ _ h
  refine AA (.q (.r [53]) .z) ?_
  replace h := Ad h
  obtain ⟨c, h⟩ := h
  try simp only [liE, seval] at c
  replace h := Ab c h
  replace h := Ad h
  obtain ⟨c, h⟩ := h
  try simp only [liE, seval] at c
  replace h := Ab c h
  obtain ⟨H, h⟩ := h
  cases h
  simp (disch := omega) only [vm, seval, H]
  refine ⟨(hR _ _ _ _ _ _ (by simp (disch := omega) only [vm, seval, H]; rfl) slr ?_ (by omega) ?_).1⟩ <;> first | (simp (disch := omega) only [vm, seval, H]; done) | rfl
  intro k8 Jk8 hk8 h
  simp (disch := omega) only [vm, seval, h.1]
  refine ⟨F7 (σ := (List (List UInt8)) × (List (List UInt8)) × (List (List UInt8))) (γ := Unit) (fun k s => CP N k8 k s.1 s.2.1 s.2.2) (fun s g => [.slice 1 (List.map AVal.str s.1) false, .slice 1 (List.map AVal.str s.2.1) false, .slice 1 (List.map AVal.str s.2.2) true]) (fun s g => m) [22, 23, 24, 25, 26, 27, 28, 29, 30, 31, 32, 33, 34, 35, 36, 37, 38, 39, 40, 41, 42, 43, 44, 45, 46, 47, 48, 49, 50, 51, 52] [3, 4, 5] (y2, y5, []) () h (fun _ => rfl) (by first | (simp (disch := omega) only [vm, seval, h.1]; done) | rfl) (by first | (simp (disch := omega) only [vm, seval, h.1]; done) | rfl) ?_⟩
  clear h
  rintro k11 ⟨s3, s4, s5⟩ _ nL0_1 hnL0_1 _ h Jk11 hk11
  change _ ∧ CP N k8 (k11 + 1) s3 s4 s5 = _ at h
  rw [CP] at h
  refine AA (.q .z (.q .z (.c .z .z))) ?_
  simp (disch := omega) only [vm, seval, h.1]
  refine ⟨AX (γ := Unit) h [22, 23, 24, 25, 26, 27, 28] [29] (fun j12 g => [.bool j12]) (fun j12 g => m) (.r []) ?_ ?_⟩ <;> clear h
  rintro j12 _ n15 hnn15 _ _ h
  refine AA (.c .z .z) ?_
  replace h := AC h
  rcases h with h | h
  replace h := AB h
  obtain ⟨x16, h⟩ := h
  replace h := AB h
  obtain ⟨x17, h⟩ := h
  simp (disch := omega) only [vm, seval, h.1]
  refine ⟨Ar [] (.take 0 (.take 1 (.take 2 (.take 3 (.take 4 (.take 5 (.take 6 (.done)))))))) Ah (by kernel_rfl) ?_⟩
  replace h := AC h
  rcases h with h | h
  replace h := Ad h
  obtain ⟨c, h⟩ := h
  try simp only [liE, seval] at c
  replace h := Ab c h
  replace h := AB h
  obtain ⟨x18, h⟩ := h
  simp (disch := omega) only [vm, seval, h.1]
  refine ⟨Ar [37] (.take 1 (.take 2 (.take 3 (.take 4 (.take 6 (.take 7 (.alt 0 [7, 6, 4, 3, 2, 1] (.alt 5 [7, 6, 3, 2, 1] (.alt 8 [7, 6] (.alt 9 [] (.done) (.stop)) (.stop)) (.stop)) (.stop)))))))) Ah (by kernel_rfl) ?_⟩
  simp (disch := omega) only [vm, seval, h.1]
  refine ⟨hk11 (x18, s4, (s5 ++ [x16])) () _ _ _ _ h.2 slr ?_ ?_ ?_ (by omega)⟩ <;> first | (simp (disch := omega) only [vm, seval, h.1]; done) | rfl
  replace h := Ad h
  obtain ⟨c, h⟩ := h
  try simp only [liE, seval] at c
  replace h := Ab c h
  replace h := AB h
  obtain ⟨x19, h⟩ := h
  simp (disch := omega) only [vm, seval, h.1]
  refine ⟨Ar [45] (.take 1 (.take 2 (.take 3 (.take 4 (.take 6 (.take 7 (.alt 0 [7, 6, 4, 3, 2, 1] (.alt 5 [7, 6, 3, 2, 1] (.alt 8 [7, 6] (.alt 9 [] (.done) (.stop)) (.stop)) (.stop)) (.stop)))))))) Ah (by kernel_rfl) ?_⟩
  simp (disch := omega) only [vm, seval, h.1]
  refine ⟨hk11 (s3, x19, (s5 ++ [x17])) () _ _ _ _ h.2 slr ?_ ?_ ?_ (by omega)⟩ <;> first | (simp (disch := omega) only [vm, seval, h.1]; done) | rfl
  simp (disch := omega) only [vm, seval, h.1]
  refine ⟨hk8 (s3, s4, s5) () _ _ _ _ h.2 slr ?_ ?_ ?_ (by omega)⟩ <;> first | (simp (disch := omega) only [vm, seval, h.1]; done) | rfl
  intro k13 Jk13 hk13 h
  replace h := AC h
  rcases h with h | h
  simp (disch := omega) only [vm, seval, h.1]
  refine ⟨hk13 (decide ((s4.length : Int) > 0)) () _ _ _ _ h.2 slr ?_ ?_ ?_ (by omega)⟩ <;> first | (simp (disch := omega) only [vm, seval, h.1]; done) | rfl
  simp (disch := omega) only [vm, seval, h.1]
  refine ⟨hk13 false () _ _ _ _ h.2 slr ?_ ?_ ?_ (by omega)⟩ <;> first | (simp (disch := omega) only [vm, seval, h.1]; done) | rfl
theorem Kk {a0 r} (h : Cw N N a0 = some r) (ha : args = [.slice 1 (List.map AVal.str a0) false]) (hQ : ∀ n', n ≤ n' → Gl (Q (.slice 1 (List.map AVal.str r) false) ⟨m, n'⟩)) : ACall vE 42 args ⟨m, n⟩ Q :=
 (Na N N h ha hQ)
theorem QF (N : Nat) : ∀ D : Nat, (∀ {a0 : ApiValue} {r : Bool} (h : Dh N D a0 = some r) {args : List AVal} {n : Nat} {m : MS} (ha : args = [AJ a0]) {Q : PQ} (hQ : ∀ n', n ≤ n' → Gl (Q (.bool r) ⟨m, n'⟩)), ACall vE 26 args ⟨m, n⟩ Q) := by
 intro D
 induction D with
 | zero =>
  intro a0 r h
  simp only [Dh, reduceCtorEq] at h
 | succ D ih_ref15_long =>
  intro a0 r h args n m ha Q hQ
  rw [Dh] at h
  subst ha
  refine Ny hQ Tryd.func26 rfl Tryd.ntmps26 Tryd.results26 (.q (.r []) (.q (.r []) .z)) fun R hR => ?_
  replace h := And.intro trivial h
  simp (disch := omega) only [vm, seval, h.1]
  refine ⟨AX (γ := Unit) h [5, 11, 12, 13, 14, 15, 16, 17, 18, 19, 20, 21, 22] [3] (fun j1 g => [.int .i64 j1]) (fun j1 g => (n, [.int .i64 a0.kind, .str a0.text, .slice 1 (List.map AVal.str a0.keys) false, .slice 4 (List.map AJ a0.items) false]) :: m) (.q (.r []) .z) ?_ ?_⟩ <;> clear h
  rintro j1 _ n4 hnn4 _ _ h
  refine AA (.q (.q (.r []) (.c (.q (.r []) .z) .z)) .z) ?_
  replace h := AC h
  rcases h with h | h
  obtain ⟨H, h⟩ := h
  cases h
  simp (disch := omega) only [vm, seval, H]
  refine ⟨(hR _ _ _ _ _ _ (by simp (disch := omega) only [vm, seval, H]; rfl) (.cons _ slr) ?_ (by omega) ?_).1⟩ <;> first | (simp (disch := omega) only [vm, seval, H]; done) | rfl
  simp (disch := omega) only [vm, seval, h.1]
  refine ⟨AX (γ := Unit) h [2, 7, 25, 26, 27, 28, 29, 30, 31, 32, 33, 34] [] (fun j6 g => []) (fun j6 g => (n, [.int .i64 a0.kind, .str a0.text, .slice 1 (List.map AVal.str a0.keys) false, .slice 4 (List.map AJ a0.items) false]) :: m) (.q (.r []) .z) ?_ ?_⟩ <;> clear h
  rintro j6 _ n9 hnn9 _ _ h
  refine AA (.q (.r []) .z) ?_
  obtain ⟨H, h⟩ := h
  cases h
  simp (disch := omega) only [vm, seval, H]
  refine ⟨(hR _ _ _ _ _ _ (by simp (disch := omega) only [vm, seval, H]; rfl) (.cons _ slr) ?_ (by omega) ?_).1⟩ <;> first | (simp (disch := omega) only [vm, seval, H]; done) | rfl
  intro k7 Jk7 hk7 h
  replace h := Ad h
  obtain ⟨hfk10, h⟩ := h
  simp (disch := omega) only [vm, seval, h.1]
  refine ⟨EF (σ := Unit) (γ := Unit) a0.items hfk10 (fun xs i s => Ch N (Dh N D) k7 xs) (fun i s g => [.int .i64 i]) (fun i s g => (n, [.int .i64 a0.kind, .str a0.text, .slice 1 (List.map AVal.str a0.keys) false, .slice 4 (List.map AJ a0.items) false]) :: m) [2, 7, 29, 30, 31, 32, 33, 34] [28] () () h (by first | (simp (disch := omega) only [vm, seval, h.1]; done) | rfl) (by first | (simp (disch := omega) only [vm, seval, h.1]; done) | rfl) ?_ ?_⟩ <;> clear h
  rintro s28 _ _ nL1_1 hnL1_1 _ h
  change _ ∧ Ch N (Dh N D) k7 [] = _ at h
  rw [Ch] at h
  refine AA (.q (.r []) (.q (.c .z .z) (.q (.q (.r []) (.q (.r []) (.c (.q (.r []) .z) .z))) (.r [])))) ?_
  simp (disch := omega) only [vm, seval, h.1]
  refine ⟨hk7 () () _ _ _ _ h.2 slr ?_ ?_ ?_ (by omega)⟩ <;> first | (simp (disch := omega) only [vm, seval, h.1]; done) | rfl
  rintro xk10 xsk10 s28 _ _ nL1_1 hnL1_1 _ h Jk10 hk10
  change _ ∧ Ch N (Dh N D) k7 (xk10 :: xsk10) = _ at h
  rw [Ch] at h
  refine AA (.q (.r []) (.q (.c .z .z) (.q (.q (.r []) (.q (.r []) (.c (.q (.r []) .z) .z))) (.r [])))) ?_
  replace h := AB h
  obtain ⟨y11, h⟩ := h
  simp (disch := omega) only [vm, seval, h.1]
  refine ⟨ih_ref15_long h.1.1 (by first | (simp (disch := omega) only [vm, seval, h.1]; done) | rfl) fun n12 hn12 => ?_⟩
  replace h := AC h
  rcases h with h | h
  obtain ⟨H, h⟩ := h
  cases h
  simp (disch := omega) only [vm, seval, H]
  refine ⟨(hR _ _ _ _ _ _ (by simp (disch := omega) only [vm, seval, H]; rfl) (.cons _ (.cons _ slr)) ?_ (by omega) ?_).1⟩ <;> first | (simp (disch := omega) only [vm, seval, H]; done) | rfl
  simp (disch := omega) only [vm, seval, h.1]
  refine ⟨hk10 () () _ _ _ _ h.2 (.cons _ slr) ?_ ?_ ?_ (by omega)⟩ <;> first | (simp (disch := omega) only [vm, seval, h.1]; done) | rfl
  intro k2 Jk2 hk2 h
  replace h := Ad h
  obtain ⟨hfk5, h⟩ := h
  simp (disch := omega) only [vm, seval, h.1]
  refine ⟨EF (σ := Int) (γ := Unit) a0.keys hfk5 (fun xs i s => Cv N k2 xs s) (fun i s g => [.int .i64 s, .int .i64 i]) (fun i s g => (n, [.int .i64 a0.kind, .str a0.text, .slice 1 (List.map AVal.str a0.keys) false, .slice 4 (List.map AJ a0.items) false]) :: m) [5, 15, 16, 17, 18, 19, 20, 21, 22] [3, 14] (a0.text.length : Int) () h (by first | (simp (disch := omega) only [vm, seval, h.1]; done) | rfl) (by first | (simp (disch := omega) only [vm, seval, h.1]; done) | rfl) ?_ ?_⟩ <;> clear h
  rintro s14 s3 _ nL0_1 hnL0_1 _ h
  change _ ∧ Cv N k2 [] s3 = _ at h
  rw [Cv] at h
  refine AA (.q (.r []) (.q (.c .z .z) (.q (.q (.r []) (.r [])) (.r [])))) ?_
  simp (disch := omega) only [vm, seval, h.1]
  refine ⟨hk2 s3 () _ _ _ _ h.2 slr ?_ ?_ ?_ (by omega)⟩ <;> first | (simp (disch := omega) only [vm, seval, h.1]; done) | rfl
  rintro xk5 xsk5 s14 s3 _ nL0_1 hnL0_1 _ h Jk5 hk5
  change _ ∧ Cv N k2 (xk5 :: xsk5) s3 = _ at h
  rw [Cv] at h
  refine AA (.q (.r []) (.q (.c .z .z) (.q (.q (.r []) (.r [])) (.r [])))) ?_
  simp (disch := omega) only [vm, seval, h.1]
  refine ⟨hk5 (wr .i64 (s3 + (xk5.length : Int))) () _ _ _ _ h.2 slr ?_ ?_ ?_ (by omega)⟩ <;> first | (simp (disch := omega) only [vm, seval, h.1]; done) | rfl
theorem S9 {a0 r} (h : Dh N N a0 = some r) (ha : args = [AJ a0]) (hQ : ∀ n', n ≤ n' → Gl (Q (.bool r) ⟨m, n'⟩)) : ACall vE 26 args ⟨m, n⟩ Q :=
 (QF N N h ha hQ)
theorem V9 {a0 a1 r} (h : Jc N a0 a1 = some r) (ha : args = [AJ a0, .str a1]) (hQ : ∀ n', n ≤ n' → Gl (Q (.tuple [AJ r.1, .bool r.2]) ⟨m, n'⟩)) : ACall vE 12 args ⟨m, n⟩ Q := by
 rw [Jc] at h
 subst ha
 refine Ny hQ Tryd.func12 rfl Tryd.ntmps12 Tryd.results12 (.q (.r []) (.q (.q (.r []) (.c (.q (.r []) .z) .z)) .z)) fun R hR => ?_
 replace h := And.intro trivial h
 replace h := AC h
 rcases h with h | h
 obtain ⟨H, h⟩ := h
 cases h
 simp (disch := omega) only [vm, seval, H]
 refine ⟨(hR _ _ _ _ _ _ (by simp (disch := omega) only [vm, seval, H]; rfl) (.cons _ (.cons _ slr)) ?_ (by omega) ?_).1⟩ <;> first | (simp (disch := omega) only [vm, seval, H]; done) | rfl
 simp (disch := omega) only [vm, seval, h.1]
 refine ⟨AX (γ := Unit) h [5, 6, 11, 12, 13, 14, 15, 16, 17, 18, 19, 20, 21, 22, 23, 24, 25, 26, 27, 28, 29, 30, 31, 32, 33, 34, 35, 36] [] (fun j1 g => []) (fun j1 g => ((n + 1), [.int .i64 0, .str [], .slice 1 (List.map AVal.str []) true, .slice 4 (List.map AJ []) true]) :: (n, [.int .i64 a0.kind, .str a0.text, .slice 1 (List.map AVal.str a0.keys) false, .slice 4 (List.map AJ a0.items) false]) :: m) (.q (.r []) .z) ?_ ?_⟩ <;> clear h
 rintro j1 _ n4 hnn4 _ _ h
 refine AA (.q (.r []) .z) ?_
 obtain ⟨H, h⟩ := h
 cases h
 simp (disch := omega) only [vm, seval, H]
 refine ⟨(hR _ _ _ _ _ _ (by simp (disch := omega) only [vm, seval, H]; rfl) (.cons _ (.cons _ slr)) ?_ (by omega) ?_).1⟩ <;> first | (simp (disch := omega) only [vm, seval, H]; done) | rfl
 intro k2 Jk2 hk2 h
 replace h := Ad h
 obtain ⟨hfk5, h⟩ := h
 simp (disch := omega) only [vm, seval, h.1]
 refine ⟨EF (σ := Unit) (γ := Unit) a0.keys hfk5 (fun xs i s => CS N a0 a1 k2 xs i) (fun i s g => [.int .i64 i]) (fun i s g => ((n + 1), [.int .i64 0, .str [], .slice 1 (List.map AVal.str []) true, .slice 4 (List.map AJ []) true]) :: (n, [.int .i64 a0.kind, .str a0.text, .slice 1 (List.map AVal.str a0.keys) false, .slice 4 (List.map AJ a0.items) false]) :: m) [5, 6, 15, 16, 17, 18, 19, 20, 21, 22, 23, 24, 25, 26, 27, 28, 29, 30, 31, 32, 33, 34, 35, 36] [14] () () h (by first | (simp (disch := omega) only [vm, seval, h.1]; done) | rfl) (by first | (simp (disch := omega) only [vm, seval, h.1]; done) | rfl) ?_ ?_⟩ <;> clear h
 rintro s14 _ _ nL0_1 hnL0_1 _ h
 change _ ∧ CS N a0 a1 k2 [] s14 = _ at h
 rw [CS] at h
 refine AA (.q (.r []) (.q (.c .z .z) (.q (.q (.r []) .z) (.r [])))) ?_
 simp (disch := omega) only [vm, seval, h.1]
 refine ⟨hk2 () () _ _ _ _ h.2 slr ?_ ?_ ?_ (by omega)⟩ <;> first | (simp (disch := omega) only [vm, seval, h.1]; done) | rfl
 rintro xk5 xsk5 s14 _ _ nL0_1 hnL0_1 _ h Jk5 hk5
 change _ ∧ CS N a0 a1 k2 (xk5 :: xsk5) s14 = _ at h
 rw [CS] at h
 refine AA (.q (.r []) (.q (.c .z .z) (.q (.q (.r []) .z) (.r [])))) ?_
 simp (disch := omega) only [vm, seval, h.1]
 refine ⟨AX (γ := Unit) h [17, 18, 19, 20, 21, 22, 23, 24, 25, 26, 27, 28, 29] [30] (fun j6 g => [.bool j6]) (fun j6 g => ((n + 1), [.int .i64 0, .str [], .slice 1 (List.map AVal.str []) true, .slice 4 (List.map AJ []) true]) :: (n, [.int .i64 a0.kind, .str a0.text, .slice 1 (List.map AVal.str a0.keys) false, .slice 4 (List.map AJ a0.items) false]) :: m) (.r []) ?_ ?_⟩ <;> clear h
 rintro j6 _ n9 hnn9 _ _ h
 refine AA (.c (.q (.r []) .z) .z) ?_
 replace h := AC h
 rcases h with h | h
 replace h := AB h
 obtain ⟨x10, h⟩ := h
 obtain ⟨H, h⟩ := h
 cases h
 simp (disch := omega) only [vm, seval, H]
 refine ⟨(hR _ _ _ _ _ _ (by simp (disch := omega) only [vm, seval, H]; rfl) (.cons _ (.cons _ slr)) ?_ (by omega) ?_).1⟩ <;> first | (simp (disch := omega) only [vm, seval, H]; done) | rfl
 simp (disch := omega) only [vm, seval, h.1]
 refine ⟨hk5 () () _ _ _ _ h.2 slr ?_ ?_ ?_ (by omega)⟩ <;> first | (simp (disch := omega) only [vm, seval, h.1]; done) | rfl
 intro k7 Jk7 hk7 h
 replace h := AC h
 rcases h with h | h
 simp (disch := omega) only [vm, seval, h.1]
 refine ⟨hk7 (decide (s14 < (a0.items.length : Int))) () _ _ _ _ h.2 slr ?_ ?_ ?_ (by omega)⟩ <;> first | (simp (disch := omega) only [vm, seval, h.1]; done) | rfl
 simp (disch := omega) only [vm, seval, h.1]
 refine ⟨hk7 false () _ _ _ _ h.2 slr ?_ ?_ ?_ (by omega)⟩ <;> first | (simp (disch := omega) only [vm, seval, h.1]; done) | rfl
end Go.Proofs.YtbmilkoebhmnnaaDoor
