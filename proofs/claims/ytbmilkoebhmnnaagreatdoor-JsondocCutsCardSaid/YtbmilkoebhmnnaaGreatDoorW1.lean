import Derived.Test.YtbmilkoebhmnnaaGreatDoorVmFacts
import Derived.Test.YtbmilkoebhmnnaaGreatDoorDefs
import Derived.Test.YtbmilkoebhmnnaaGreatDoorVM2
set_option linter.unusedVariables false
set_option linter.unusedSimpArgs false
set_option maxHeartbeats 4000000
set_option maxRecDepth 100000
set_option linter.defProp false
namespace Go.Proofs.YtbmilkoebhmnnaaGreatDoor
open Go.VM
variable {N n : Nat} {m : MS} {Q : PQ} {args : List AVal}
theorem Yk {a0 a1 r} (h : JX N a0 a1 = some r) (ha : args = [AB a0, .str a1]) (hQ : ∀ n', n ≤ n' → Gl (Q (.tuple [AB r.1, .bool r.2]) ⟨m, n'⟩)) : ACall vE 17 args ⟨m, n⟩ Q := by
 rw [JX] at h
 subst ha
 refine Mf hQ Tryz.func17 rfl Tryz.ntmps17 Tryz.results17 (.q (.r []) (.q (.q (.r []) (.c (.q (.r []) .z) .z)) .z)) fun R hR => ?_
 replace h := And.intro trivial h
 replace h := AJ h
 rcases h with h | h
 obtain ⟨H, h⟩ := h
 cases h
 simp (disch := omega) only [vm, seval, H]
 refine ⟨(hR _ _ _ _ _ _ (by simp (disch := omega) only [vm, seval, H]; rfl) (.cons _ (.cons _ slr)) ?_ (by omega) ?_).1⟩ <;> first | (simp (disch := omega) only [vm, seval, H]; done) | rfl
 simp (disch := omega) only [vm, seval, h.1]
 refine ⟨AV (γ := Unit) h [5, 6, 11, 12, 13, 14, 15, 16, 17, 18, 19, 20, 21, 22, 23, 24, 25, 26, 27, 28, 29, 30, 31, 32, 33, 34, 35, 36] [] (fun j1 g => []) (fun j1 g => ((n + 1), [.int .i64 0, .str [], .slice 1 (List.map AVal.str []) true, .slice 4 (List.map AB []) true]) :: (n, [.int .i64 a0.kind, .str a0.text, .slice 1 (List.map AVal.str a0.keys) false, .slice 4 (List.map AB a0.items) false]) :: m) (.q (.r []) .z) ?_ ?_⟩ <;> clear h
 rintro j1 _ n4 hnn4 _ _ h
 refine AA (.q (.r []) .z) ?_
 obtain ⟨H, h⟩ := h
 cases h
 simp (disch := omega) only [vm, seval, H]
 refine ⟨(hR _ _ _ _ _ _ (by simp (disch := omega) only [vm, seval, H]; rfl) (.cons _ (.cons _ slr)) ?_ (by omega) ?_).1⟩ <;> first | (simp (disch := omega) only [vm, seval, H]; done) | rfl
 intro k2 Jk2 hk2 h
 replace h := Aj h
 obtain ⟨hfk5, h⟩ := h
 simp (disch := omega) only [vm, seval, h.1]
 refine ⟨ES (σ := Unit) (γ := Unit) a0.keys hfk5 (fun xs i s => CZ N a0 a1 k2 xs i) (fun i s g => [.int .i64 i]) (fun i s g => ((n + 1), [.int .i64 0, .str [], .slice 1 (List.map AVal.str []) true, .slice 4 (List.map AB []) true]) :: (n, [.int .i64 a0.kind, .str a0.text, .slice 1 (List.map AVal.str a0.keys) false, .slice 4 (List.map AB a0.items) false]) :: m) [5, 6, 15, 16, 17, 18, 19, 20, 21, 22, 23, 24, 25, 26, 27, 28, 29, 30, 31, 32, 33, 34, 35, 36] [14] () () h (by first | (simp (disch := omega) only [vm, seval, h.1]; done) | rfl) (by first | (simp (disch := omega) only [vm, seval, h.1]; done) | rfl) ?_ ?_⟩ <;> clear h
 rintro s14 _ _ nL0_1 hnL0_1 _ h
 change _ ∧ CZ N a0 a1 k2 [] s14 = _ at h
 rw [CZ] at h
 refine AA (.q (.r []) (.q (.c .z .z) (.q (.q (.r []) .z) (.r [])))) ?_
 simp (disch := omega) only [vm, seval, h.1]
 refine ⟨hk2 () () _ _ _ _ h.2 slr ?_ ?_ ?_ (by omega)⟩ <;> first | (simp (disch := omega) only [vm, seval, h.1]; done) | rfl
 rintro xk5 xsk5 s14 _ _ nL0_1 hnL0_1 _ h Jk5 hk5
 change _ ∧ CZ N a0 a1 k2 (xk5 :: xsk5) s14 = _ at h
 rw [CZ] at h
 refine AA (.q (.r []) (.q (.c .z .z) (.q (.q (.r []) .z) (.r [])))) ?_
 simp (disch := omega) only [vm, seval, h.1]
 refine ⟨AV (γ := Unit) h [17, 18, 19, 20, 21, 22, 23, 24, 25, 26, 27, 28, 29] [30] (fun j6 g => [.bool j6]) (fun j6 g => ((n + 1), [.int .i64 0, .str [], .slice 1 (List.map AVal.str []) true, .slice 4 (List.map AB []) true]) :: (n, [.int .i64 a0.kind, .str a0.text, .slice 1 (List.map AVal.str a0.keys) false, .slice 4 (List.map AB a0.items) false]) :: m) (.r []) ?_ ?_⟩ <;> clear h
 rintro j6 _ n9 hnn9 _ _ h
 refine AA (.c (.q (.r []) .z) .z) ?_
 replace h := AJ h
 rcases h with h | h
 replace h := AC h
 obtain ⟨x10, h⟩ := h
 obtain ⟨H, h⟩ := h
 cases h
 simp (disch := omega) only [vm, seval, H]
 refine ⟨(hR _ _ _ _ _ _ (by simp (disch := omega) only [vm, seval, H]; rfl) (.cons _ (.cons _ slr)) ?_ (by omega) ?_).1⟩ <;> first | (simp (disch := omega) only [vm, seval, H]; done) | rfl
 simp (disch := omega) only [vm, seval, h.1]
 refine ⟨hk5 () () _ _ _ _ h.2 slr ?_ ?_ ?_ (by omega)⟩ <;> first | (simp (disch := omega) only [vm, seval, h.1]; done) | rfl
 intro k7 Jk7 hk7 h
 replace h := AJ h
 rcases h with h | h
 simp (disch := omega) only [vm, seval, h.1]
 refine ⟨hk7 (decide (s14 < (a0.items.length : Int))) () _ _ _ _ h.2 slr ?_ ?_ ?_ (by omega)⟩ <;> first | (simp (disch := omega) only [vm, seval, h.1]; done) | rfl
 simp (disch := omega) only [vm, seval, h.1]
 refine ⟨hk7 false () _ _ _ _ h.2 slr ?_ ?_ ?_ (by omega)⟩ <;> first | (simp (disch := omega) only [vm, seval, h.1]; done) | rfl
theorem Rt (N : Nat) : ∀ D : Nat, (∀ {a0 : ApiValue} {a1 : Int} {a2 : Int} {r : Int} (h : D5 N D a0 a1 a2 = some r) {args : List AVal} {n : Nat} {m : MS} (ha : args = [AB a0, .int .i64 a1, .int .i64 a2]) {Q : PQ} (hQ : ∀ n', n ≤ n' → Gl (Q (.int .i64 r) ⟨m, n'⟩)), ACall vE 24 args ⟨m, n⟩ Q) := by
 intro D
 induction D with
 | zero =>
  intro a0 a1 a2 r h
  simp only [D5, reduceCtorEq] at h
 | succ D ih_keep_size =>
  intro a0 a1 a2 r h args n m ha Q hQ
  rw [D5] at h
  subst ha
  refine Mf hQ Tryz.func24 rfl Tryz.ntmps24 Tryz.results24 (.q (.r []) (.q .z (.q (.r []) .z))) fun R hR => ?_
  replace h := And.intro trivial h
  simp (disch := omega) only [vm, seval, h.1]
  refine ⟨AV (γ := Unit) h [11, 12, 13, 14, 15, 16, 17, 18, 19, 20, 21, 22, 23, 24, 25, 26, 27, 28, 29, 30, 31, 32, 33, 34, 35, 36, 37, 38] [39] (fun j1 g => [.bool j1]) (fun j1 g => (n, [.int .i64 a0.kind, .str a0.text, .slice 1 (List.map AVal.str a0.keys) false, .slice 4 (List.map AB a0.items) false]) :: m) (.r []) ?_ ?_⟩ <;> clear h
  rintro j1 _ n4 hnn4 _ _ h
  refine AA (.c (.q (.r []) .z) .z) ?_
  replace h := AJ h
  rcases h with h | h
  obtain ⟨H, h⟩ := h
  cases h
  simp (disch := omega) only [vm, seval, H]
  refine ⟨(hR _ _ _ _ _ _ (by simp (disch := omega) only [vm, seval, H]; rfl) (.cons _ slr) ?_ (by omega) ?_).1⟩ <;> first | (simp (disch := omega) only [vm, seval, H]; done) | rfl
  simp (disch := omega) only [vm, seval, h.1]
  refine ⟨AV (γ := Unit) h [6, 8, 42, 43, 44, 45, 46, 47, 48, 49, 50, 51, 52] [] (fun j5 g => []) (fun j5 g => (n, [.int .i64 a0.kind, .str a0.text, .slice 1 (List.map AVal.str a0.keys) false, .slice 4 (List.map AB a0.items) false]) :: m) (.q (.r []) .z) ?_ ?_⟩ <;> clear h
  rintro j5 _ n8 hnn8 _ _ h
  refine AA .z ?_
  simp (disch := omega) only [vm, seval, h.1]
  refine ⟨AV (γ := Unit) h [6, 10, 53, 54, 55, 56, 57, 58, 59, 60, 61, 62, 63, 64, 65, 66, 67] [1] (fun j10 g => [.int .i64 j10]) (fun j10 g => (n, [.int .i64 a0.kind, .str a0.text, .slice 1 (List.map AVal.str a0.keys) false, .slice 4 (List.map AB a0.items) false]) :: m) (.q (.r []) .z) ?_ ?_⟩ <;> clear h
  rintro j10 _ n13 hnn13 _ _ h
  refine AA (.q (.r []) .z) ?_
  obtain ⟨H, h⟩ := h
  cases h
  simp (disch := omega) only [vm, seval, H]
  refine ⟨(hR _ _ _ _ _ _ (by simp (disch := omega) only [vm, seval, H]; rfl) (.cons _ slr) ?_ (by omega) ?_).1⟩ <;> first | (simp (disch := omega) only [vm, seval, H]; done) | rfl
  intro k11 Jk11 hk11 h
  replace h := Aj h
  obtain ⟨hfk14, h⟩ := h
  simp (disch := omega) only [vm, seval, h.1]
  refine ⟨ES (σ := Int) (γ := Unit) a0.items hfk14 (fun xs i s => C8 N a2 (D5 N D) k11 xs s) (fun i s g => [.int .i64 s, .int .i64 i]) (fun i s g => (n, [.int .i64 a0.kind, .str a0.text, .slice 1 (List.map AVal.str a0.keys) false, .slice 4 (List.map AB a0.items) false]) :: m) [6, 10, 57, 58, 59, 60, 61, 62, 63, 64, 65, 66, 67] [1, 56] (wr .i64 (a1 - 1)) () h (by first | (simp (disch := omega) only [vm, seval, h.1]; done) | rfl) (by first | (simp (disch := omega) only [vm, seval, h.1]; done) | rfl) ?_ ?_⟩ <;> clear h
  rintro s56 s1 _ nL1_1 hnL1_1 _ h
  change _ ∧ C8 N a2 (D5 N D) k11 [] s1 = _ at h
  rw [C8] at h
  refine AA (.q (.r []) (.q (.c .z .z) (.q (.q (.r []) (.q (.r []) (.q (.r []) (.c (.q (.r []) .z) .z)))) (.r [])))) ?_
  simp (disch := omega) only [vm, seval, h.1]
  refine ⟨hk11 s1 () _ _ _ _ h.2 slr ?_ ?_ ?_ (by omega)⟩ <;> first | (simp (disch := omega) only [vm, seval, h.1]; done) | rfl
  rintro xk14 xsk14 s56 s1 _ nL1_1 hnL1_1 _ h Jk14 hk14
  change _ ∧ C8 N a2 (D5 N D) k11 (xk14 :: xsk14) s1 = _ at h
  rw [C8] at h
  refine AA (.q (.r []) (.q (.c .z .z) (.q (.q (.r []) (.q (.r []) (.q (.r []) (.c (.q (.r []) .z) .z)))) (.r [])))) ?_
  replace h := AC h
  obtain ⟨y15, h⟩ := h
  simp (disch := omega) only [vm, seval, h.1]
  refine ⟨ih_keep_size h.1.1 (by first | (simp (disch := omega) only [vm, seval, h.1]; done) | rfl) fun n16 hn16 => ?_⟩
  replace h := AJ h
  rcases h with h | h
  obtain ⟨H, h⟩ := h
  cases h
  simp (disch := omega) only [vm, seval, H]
  refine ⟨(hR _ _ _ _ _ _ (by simp (disch := omega) only [vm, seval, H]; rfl) (.cons _ (.cons _ slr)) ?_ (by omega) ?_).1⟩ <;> first | (simp (disch := omega) only [vm, seval, H]; done) | rfl
  simp (disch := omega) only [vm, seval, h.1]
  refine ⟨hk14 y15 () _ _ _ _ h.2 (.cons _ slr) ?_ ?_ ?_ (by omega)⟩ <;> first | (simp (disch := omega) only [vm, seval, h.1]; done) | rfl
  intro k6 Jk6 hk6 h
  replace h := Aj h
  obtain ⟨hfk9, h⟩ := h
  simp (disch := omega) only [vm, seval, h.1]
  refine ⟨ES (σ := Unit) (γ := Unit) a0.keys hfk9 (fun xs i s => C9 N k6 xs) (fun i s g => [.int .i64 i]) (fun i s g => (n, [.int .i64 a0.kind, .str a0.text, .slice 1 (List.map AVal.str a0.keys) false, .slice 4 (List.map AB a0.items) false]) :: m) [6, 8, 46, 47, 48, 49, 50, 51, 52] [45] () () h (by first | (simp (disch := omega) only [vm, seval, h.1]; done) | rfl) (by first | (simp (disch := omega) only [vm, seval, h.1]; done) | rfl) ?_ ?_⟩ <;> clear h
  rintro s45 _ _ nL0_1 hnL0_1 _ h
  change _ ∧ C9 N k6 [] = _ at h
  rw [C9] at h
  refine AA (.q (.r []) (.q (.c .z .z) (.q (.q (.r []) (.q (.r []) (.c (.q (.r []) .z) .z))) (.r [])))) ?_
  simp (disch := omega) only [vm, seval, h.1]
  refine ⟨hk6 () () _ _ _ _ h.2 slr ?_ ?_ ?_ (by omega)⟩ <;> first | (simp (disch := omega) only [vm, seval, h.1]; done) | rfl
  rintro xk9 xsk9 s45 _ _ nL0_1 hnL0_1 _ h Jk9 hk9
  change _ ∧ C9 N k6 (xk9 :: xsk9) = _ at h
  rw [C9] at h
  refine AA (.q (.r []) (.q (.c .z .z) (.q (.q (.r []) (.q (.r []) (.c (.q (.r []) .z) .z))) (.r [])))) ?_
  replace h := AJ h
  rcases h with h | h
  obtain ⟨H, h⟩ := h
  cases h
  simp (disch := omega) only [vm, seval, H]
  refine ⟨(hR _ _ _ _ _ _ (by simp (disch := omega) only [vm, seval, H]; rfl) (.cons _ slr) ?_ (by omega) ?_).1⟩ <;> first | (simp (disch := omega) only [vm, seval, H]; done) | rfl
  simp (disch := omega) only [vm, seval, h.1]
  refine ⟨hk9 () () _ _ _ _ h.2 slr ?_ ?_ ?_ (by omega)⟩ <;> first | (simp (disch := omega) only [vm, seval, h.1]; done) | rfl
  intro k2 Jk2 hk2 h
  replace h := AJ h
  rcases h with h | h
  simp (disch := omega) only [vm, seval, h.1]
  refine ⟨hk2 true () _ _ _ _ h.2 slr ?_ ?_ ?_ (by omega)⟩ <;> first | (simp (disch := omega) only [vm, seval, h.1]; done) | rfl
  replace h := AJ h
  rcases h with h | h
  simp (disch := omega) only [vm, seval, h.1]
  refine ⟨hk2 true () _ _ _ _ h.2 slr ?_ ?_ ?_ (by omega)⟩ <;> first | (simp (disch := omega) only [vm, seval, h.1]; done) | rfl
  replace h := AJ h
  rcases h with h | h
  simp (disch := omega) only [vm, seval, h.1]
  refine ⟨hk2 true () _ _ _ _ h.2 slr ?_ ?_ ?_ (by omega)⟩ <;> first | (simp (disch := omega) only [vm, seval, h.1]; done) | rfl
  replace h := AJ h
  rcases h with h | h
  simp (disch := omega) only [vm, seval, h.1]
  refine ⟨hk2 true () _ _ _ _ h.2 slr ?_ ?_ ?_ (by omega)⟩ <;> first | (simp (disch := omega) only [vm, seval, h.1]; done) | rfl
  simp (disch := omega) only [vm, seval, h.1]
  refine ⟨hk2 (decide ((a0.items.length : Int) > a1)) () _ _ _ _ h.2 slr ?_ ?_ ?_ (by omega)⟩ <;> first | (simp (disch := omega) only [vm, seval, h.1]; done) | rfl
theorem YJ {a0 a1 a2 r} (h : D5 N N a0 a1 a2 = some r) (ha : args = [AB a0, .int .i64 a1, .int .i64 a2]) (hQ : ∀ n', n ≤ n' → Gl (Q (.int .i64 r) ⟨m, n'⟩)) : ACall vE 24 args ⟨m, n⟩ Q :=
 (Rt N N h ha hQ)
theorem O1 (N : Nat) : ∀ D : Nat, (∀ {a0 : ApiValue} {a1 : Int} {r : Int} (h : Cq N D a0 a1 = some r) {args : List AVal} {n : Nat} {m : MS} (ha : args = [AB a0, .int .i64 a1]) {Q : PQ} (hQ : ∀ n', n ≤ n' → Gl (Q (.int .i64 r) ⟨m, n'⟩)), ACall vE 44 args ⟨m, n⟩ Q) := by
 intro D
 induction D with
 | zero =>
  intro a0 a1 r h
  simp only [Cq, reduceCtorEq] at h
 | succ D ih_ref15_count =>
  intro a0 a1 r h args n m ha Q hQ
  rw [Cq] at h
  subst ha
  refine Mf hQ Tryz.func44 rfl Tryz.ntmps44 Tryz.results44 (.q (.r []) (.q (.r []) .z)) fun R hR => ?_
  replace h := And.intro trivial h
  simp (disch := omega) only [vm, seval, h.1]
  refine ⟨AV (γ := Unit) h [11, 12, 13, 14, 15, 16, 17, 18, 19, 20] [5] (fun j1 g => [.int .i64 j1]) (fun j1 g => (n, [.int .i64 a0.kind, .str a0.text, .slice 1 (List.map AVal.str a0.keys) false, .slice 4 (List.map AB a0.items) false]) :: m) .z ?_ ?_⟩ <;> clear h
  rintro j1 _ n4 hnn4 _ _ h
  refine AA (.q (.q (.r []) (.c (.q (.r []) .z) .z)) (.q (.r []) .z)) ?_
  replace h := AJ h
  rcases h with h | h
  obtain ⟨H, h⟩ := h
  cases h
  simp (disch := omega) only [vm, seval, H]
  refine ⟨(hR _ _ _ _ _ _ (by simp (disch := omega) only [vm, seval, H]; rfl) (.cons _ slr) ?_ (by omega) ?_).1⟩ <;> first | (simp (disch := omega) only [vm, seval, H]; done) | rfl
  simp (disch := omega) only [vm, seval, h.1]
  refine ⟨AV (γ := Unit) h [4, 8, 9, 23, 24, 25, 26, 27, 28, 29, 30, 31, 32, 33, 34, 35, 36, 37, 38, 39, 40] [6] (fun j9 g => [.int .i64 j9]) (fun j9 g => (n, [.int .i64 a0.kind, .str a0.text, .slice 1 (List.map AVal.str a0.keys) false, .slice 4 (List.map AB a0.items) false]) :: m) (.q (.r []) .z) ?_ ?_⟩ <;> clear h
  rintro j9 _ n12 hnn12 _ _ h
  refine AA (.q (.r []) .z) ?_
  obtain ⟨H, h⟩ := h
  cases h
  simp (disch := omega) only [vm, seval, H]
  refine ⟨(hR _ _ _ _ _ _ (by simp (disch := omega) only [vm, seval, H]; rfl) (.cons _ slr) ?_ (by omega) ?_).1⟩ <;> first | (simp (disch := omega) only [vm, seval, H]; done) | rfl
  intro k10 Jk10 hk10 h
  replace h := Aj h
  obtain ⟨hfk13, h⟩ := h
  simp (disch := omega) only [vm, seval, h.1]
  refine ⟨ES (σ := Int) (γ := Unit) a0.items hfk13 (fun xs i s => CO N (Cq N D) j1 k10 xs s) (fun i s g => [.int .i64 s, .int .i64 i]) (fun i s g => (n, [.int .i64 a0.kind, .str a0.text, .slice 1 (List.map AVal.str a0.keys) false, .slice 4 (List.map AB a0.items) false]) :: m) [4, 8, 9, 27, 28, 29, 30, 31, 32, 33, 34, 35, 36, 37, 38, 39, 40] [6, 26] 1 () h (by first | (simp (disch := omega) only [vm, seval, h.1]; done) | rfl) (by first | (simp (disch := omega) only [vm, seval, h.1]; done) | rfl) ?_ ?_⟩ <;> clear h
  rintro s26 s6 _ nL0_1 hnL0_1 _ h
  change _ ∧ CO N (Cq N D) j1 k10 [] s6 = _ at h
  rw [CO] at h
  refine AA (.q (.r []) (.q (.c .z .z) (.q (.q (.r []) (.q (.r []) (.q (.q (.r []) (.c (.q (.r []) .z) .z)) (.q (.r []) (.q (.r []) (.c (.q (.r []) .z) .z)))))) (.r [])))) ?_
  simp (disch := omega) only [vm, seval, h.1]
  refine ⟨hk10 s6 () _ _ _ _ h.2 slr ?_ ?_ ?_ (by omega)⟩ <;> first | (simp (disch := omega) only [vm, seval, h.1]; done) | rfl
  rintro xk13 xsk13 s26 s6 _ nL0_1 hnL0_1 _ h Jk13 hk13
  change _ ∧ CO N (Cq N D) j1 k10 (xk13 :: xsk13) s6 = _ at h
  rw [CO] at h
  refine AA (.q (.r []) (.q (.c .z .z) (.q (.q (.r []) (.q (.r []) (.q (.q (.r []) (.c (.q (.r []) .z) .z)) (.q (.r []) (.q (.r []) (.c (.q (.r []) .z) .z)))))) (.r [])))) ?_
  replace h := AC h
  obtain ⟨y14, h⟩ := h
  simp (disch := omega) only [vm, seval, h.1]
  refine ⟨ih_ref15_count h.1.1 (by first | (simp (disch := omega) only [vm, seval, h.1]; done) | rfl) fun n15 hn15 => ?_⟩
  replace h := AJ h
  rcases h with h | h
  obtain ⟨H, h⟩ := h
  cases h
  simp (disch := omega) only [vm, seval, H]
  refine ⟨(hR _ _ _ _ _ _ (by simp (disch := omega) only [vm, seval, H]; rfl) (.cons _ (.cons _ slr)) ?_ (by omega) ?_).1⟩ <;> first | (simp (disch := omega) only [vm, seval, H]; done) | rfl
  replace h := AJ h
  rcases h with h | h
  obtain ⟨H, h⟩ := h
  cases h
  simp (disch := omega) only [vm, seval, H]
  refine ⟨(hR _ _ _ _ _ _ (by simp (disch := omega) only [vm, seval, H]; rfl) (.cons _ (.cons _ slr)) ?_ (by omega) ?_).1⟩ <;> first | (simp (disch := omega) only [vm, seval, H]; done) | rfl
  simp (disch := omega) only [vm, seval, h.1]
  refine ⟨hk13 (wr .i64 (s6 + y14)) () _ _ _ _ h.2 (.cons _ slr) ?_ ?_ ?_ (by omega)⟩ <;> first | (simp (disch := omega) only [vm, seval, h.1]; done) | rfl
  intro k2 Jk2 hk2 h
  simp (disch := omega) only [vm, seval, h.1]
  refine ⟨AV (γ := Unit) h [11, 12, 13, 14, 15, 16, 17] [18] (fun j5 g => [.bool j5]) (fun j5 g => (n, [.int .i64 a0.kind, .str a0.text, .slice 1 (List.map AVal.str a0.keys) false, .slice 4 (List.map AB a0.items) false]) :: m) (.r []) ?_ ?_⟩ <;> clear h
  rintro j5 _ n8 hnn8 _ _ h
  refine AA (.c (.r []) .z) ?_
  replace h := AJ h
  rcases h with h | h
  simp (disch := omega) only [vm, seval, h.1]
  refine ⟨hk2 (wr .i64 (a1 + 1)) () _ _ _ _ h.2 slr ?_ ?_ ?_ (by omega)⟩ <;> first | (simp (disch := omega) only [vm, seval, h.1]; done) | rfl
  simp (disch := omega) only [vm, seval, h.1]
  refine ⟨hk2 a1 () _ _ _ _ h.2 slr ?_ ?_ ?_ (by omega)⟩ <;> first | (simp (disch := omega) only [vm, seval, h.1]; done) | rfl
  intro k6 Jk6 hk6 h
  replace h := AJ h
  rcases h with h | h
  simp (disch := omega) only [vm, seval, h.1]
  refine ⟨hk6 true () _ _ _ _ h.2 slr ?_ ?_ ?_ (by omega)⟩ <;> first | (simp (disch := omega) only [vm, seval, h.1]; done) | rfl
  simp (disch := omega) only [vm, seval, h.1]
  refine ⟨hk6 (a0.kind == 7) () _ _ _ _ h.2 slr ?_ ?_ ?_ (by omega)⟩ <;> first | (simp (disch := omega) only [vm, seval, h.1]; done) | rfl
theorem Rv {a0 a1 r} (h : Cq N N a0 a1 = some r) (ha : args = [AB a0, .int .i64 a1]) (hQ : ∀ n', n ≤ n' → Gl (Q (.int .i64 r) ⟨m, n'⟩)) : ACall vE 44 args ⟨m, n⟩ Q :=
 (O1 N N h ha hQ)
theorem Nr (N : Nat) : ∀ D : Nat, (∀ {a0 : (List (List UInt8))} {r : (List (List UInt8))} (h : Cy N D a0 = some r) {args : List AVal} {n : Nat} {m : MS} (ha : args = [.slice 1 (List.map AVal.str a0) false]) {Q : PQ} (hQ : ∀ n', n ≤ n' → Gl (Q (.slice 1 (List.map AVal.str r) false) ⟨m, n'⟩)), ACall vE 67 args ⟨m, n⟩ Q) := by
 intro D
 induction D with
 | zero =>
  intro a0 r h
  simp only [Cy, reduceCtorEq] at h
 | succ D ih_ref15_sorted =>
  intro a0 r h args n m ha Q hQ
  rw [Cy] at h
  subst ha
  refine Mf hQ Tryz.func67 rfl Tryz.ntmps67 Tryz.results67 (.q (.r []) (.q (.q (.r []) (.c (.q (.r []) .z) .z)) (.q .z (.q (.r []) .z)))) fun R hR => ?_
  replace h := And.intro trivial h
  replace h := AJ h
  rcases h with h | h
  obtain ⟨H, h⟩ := h
  cases h
  simp (disch := omega) only [vm, seval, H]
  refine ⟨(hR _ _ _ _ _ _ (by simp (disch := omega) only [vm, seval, H]; rfl) slr ?_ (by omega) ?_).1⟩ <;> first | (simp (disch := omega) only [vm, seval, H]; done) | rfl
  replace h := AC h
  obtain ⟨x1, h⟩ := h
  replace h := AC h
  obtain ⟨y2, h⟩ := h
  have cy2 := h.1.1
  replace h := AC h
  obtain ⟨x4, h⟩ := h
  replace h := AC h
  obtain ⟨y5, h⟩ := h
  have cy5 := h.1.1
  simp (disch := omega) only [vm, seval, h.1]
  refine ⟨Av [] (.take 0 (.take 1 (.take 2 (.take 3 (.take 4 (.take 6 (.take 7 (.take 8 (.take 9 (.take 10 (.alt 5 [10, 9, 8, 7, 6, 3, 2, 1, 0] (.alt 11 [9, 8, 7, 6, 4, 3, 2, 1, 0] (.alt 12 [10, 9, 8, 7, 6] (.alt 13 [] (.done) (.stop)) (.stop)) (.stop)) (.stop)))))))))))) Am (by kernel_rfl) ?_⟩
  simp (disch := omega) only [vm, seval, h.1]
  refine ⟨ih_ref15_sorted cy2 (by first | (simp (disch := omega) only [vm, seval, h.1]; done) | rfl) fun n3 hn3 => ?_⟩
  simp (disch := omega) only [vm, seval, h.1]
  refine ⟨ih_ref15_sorted cy5 (by first | (simp (disch := omega) only [vm, seval, h.1]; done) | rfl) fun n6 hn6 => ?_⟩
  simp (disch := omega) only [vm, seval, h.1]
  refine ⟨AV (γ := Unit) h [22, 23, 24, 25, 26, 27, 28, 29, 30, 31, 32, 33, 34, 35, 36, 37, 38, 39, 40, 41, 42, 43, 44, 45, 46, 47, 48, 49, 50, 51, 52] [3, 4, 5] (fun j7 g => [.slice 1 (List.map AVal.str j7.1) false, .slice 1 (List.map AVal.str j7.2.1) false, .slice 1 (List.map AVal.str j7.2.2) true]) (fun j7 g => m) .z ?_ ?_⟩ <;> clear h
  rintro j7 _ n10 hnn10 _ _ h
  refine AA (.q (.r [53]) .z) ?_
  replace h := Aj h
  obtain ⟨c, h⟩ := h
  try simp only [liE, seval] at c
  replace h := Aa c h
  replace h := Aj h
  obtain ⟨c, h⟩ := h
  try simp only [liE, seval] at c
  replace h := Aa c h
  obtain ⟨H, h⟩ := h
  cases h
  simp (disch := omega) only [vm, seval, H]
  refine ⟨(hR _ _ _ _ _ _ (by simp (disch := omega) only [vm, seval, H]; rfl) slr ?_ (by omega) ?_).1⟩ <;> first | (simp (disch := omega) only [vm, seval, H]; done) | rfl
  intro k8 Jk8 hk8 h
  simp (disch := omega) only [vm, seval, h.1]
  refine ⟨F6 (σ := (List (List UInt8)) × (List (List UInt8)) × (List (List UInt8))) (γ := Unit) (fun k s => CV N k8 k s.1 s.2.1 s.2.2) (fun s g => [.slice 1 (List.map AVal.str s.1) false, .slice 1 (List.map AVal.str s.2.1) false, .slice 1 (List.map AVal.str s.2.2) true]) (fun s g => m) [22, 23, 24, 25, 26, 27, 28, 29, 30, 31, 32, 33, 34, 35, 36, 37, 38, 39, 40, 41, 42, 43, 44, 45, 46, 47, 48, 49, 50, 51, 52] [3, 4, 5] (y2, y5, []) () h (fun _ => rfl) (by first | (simp (disch := omega) only [vm, seval, h.1]; done) | rfl) (by first | (simp (disch := omega) only [vm, seval, h.1]; done) | rfl) ?_⟩
  clear h
  rintro k11 ⟨s3, s4, s5⟩ _ nL0_1 hnL0_1 _ h Jk11 hk11
  change _ ∧ CV N k8 (k11 + 1) s3 s4 s5 = _ at h
  rw [CV] at h
  refine AA (.q .z (.q .z (.c .z .z))) ?_
  simp (disch := omega) only [vm, seval, h.1]
  refine ⟨AV (γ := Unit) h [22, 23, 24, 25, 26, 27, 28] [29] (fun j12 g => [.bool j12]) (fun j12 g => m) (.r []) ?_ ?_⟩ <;> clear h
  rintro j12 _ n15 hnn15 _ _ h
  refine AA (.c .z .z) ?_
  replace h := AJ h
  rcases h with h | h
  replace h := AC h
  obtain ⟨x16, h⟩ := h
  replace h := AC h
  obtain ⟨x17, h⟩ := h
  simp (disch := omega) only [vm, seval, h.1]
  refine ⟨Av [] (.take 0 (.take 1 (.take 2 (.take 3 (.take 4 (.take 5 (.take 6 (.done)))))))) Am (by kernel_rfl) ?_⟩
  replace h := AJ h
  rcases h with h | h
  replace h := Aj h
  obtain ⟨c, h⟩ := h
  try simp only [liE, seval] at c
  replace h := Aa c h
  replace h := AC h
  obtain ⟨x18, h⟩ := h
  simp (disch := omega) only [vm, seval, h.1]
  refine ⟨Av [37] (.take 1 (.take 2 (.take 3 (.take 4 (.take 6 (.take 7 (.alt 0 [7, 6, 4, 3, 2, 1] (.alt 5 [7, 6, 3, 2, 1] (.alt 8 [7, 6] (.alt 9 [] (.done) (.stop)) (.stop)) (.stop)) (.stop)))))))) Am (by kernel_rfl) ?_⟩
  simp (disch := omega) only [vm, seval, h.1]
  refine ⟨hk11 (x18, s4, (s5 ++ [x16])) () _ _ _ _ h.2 slr ?_ ?_ ?_ (by omega)⟩ <;> first | (simp (disch := omega) only [vm, seval, h.1]; done) | rfl
  replace h := Aj h
  obtain ⟨c, h⟩ := h
  try simp only [liE, seval] at c
  replace h := Aa c h
  replace h := AC h
  obtain ⟨x19, h⟩ := h
  simp (disch := omega) only [vm, seval, h.1]
  refine ⟨Av [45] (.take 1 (.take 2 (.take 3 (.take 4 (.take 6 (.take 7 (.alt 0 [7, 6, 4, 3, 2, 1] (.alt 5 [7, 6, 3, 2, 1] (.alt 8 [7, 6] (.alt 9 [] (.done) (.stop)) (.stop)) (.stop)) (.stop)))))))) Am (by kernel_rfl) ?_⟩
  simp (disch := omega) only [vm, seval, h.1]
  refine ⟨hk11 (s3, x19, (s5 ++ [x17])) () _ _ _ _ h.2 slr ?_ ?_ ?_ (by omega)⟩ <;> first | (simp (disch := omega) only [vm, seval, h.1]; done) | rfl
  simp (disch := omega) only [vm, seval, h.1]
  refine ⟨hk8 (s3, s4, s5) () _ _ _ _ h.2 slr ?_ ?_ ?_ (by omega)⟩ <;> first | (simp (disch := omega) only [vm, seval, h.1]; done) | rfl
  intro k13 Jk13 hk13 h
  replace h := AJ h
  rcases h with h | h
  simp (disch := omega) only [vm, seval, h.1]
  refine ⟨hk13 (decide ((s4.length : Int) > 0)) () _ _ _ _ h.2 slr ?_ ?_ ?_ (by omega)⟩ <;> first | (simp (disch := omega) only [vm, seval, h.1]; done) | rfl
  simp (disch := omega) only [vm, seval, h.1]
  refine ⟨hk13 false () _ _ _ _ h.2 slr ?_ ?_ ?_ (by omega)⟩ <;> first | (simp (disch := omega) only [vm, seval, h.1]; done) | rfl
theorem KZ {a0 r} (h : Cy N N a0 = some r) (ha : args = [.slice 1 (List.map AVal.str a0) false]) (hQ : ∀ n', n ≤ n' → Gl (Q (.slice 1 (List.map AVal.str r) false) ⟨m, n'⟩)) : ACall vE 67 args ⟨m, n⟩ Q :=
 (Nr N N h ha hQ)
theorem Q9 (N : Nat) : ∀ D : Nat, (∀ {a0 : ApiValue} {r : Bool} (h : Dj N D a0 = some r) {args : List AVal} {n : Nat} {m : MS} (ha : args = [AB a0]) {Q : PQ} (hQ : ∀ n', n ≤ n' → Gl (Q (.bool r) ⟨m, n'⟩)), ACall vE 41 args ⟨m, n⟩ Q) := by
 intro D
 induction D with
 | zero =>
  intro a0 r h
  simp only [Dj, reduceCtorEq] at h
 | succ D ih_ref15_long =>
  intro a0 r h args n m ha Q hQ
  rw [Dj] at h
  subst ha
  refine Mf hQ Tryz.func41 rfl Tryz.ntmps41 Tryz.results41 (.q (.r []) (.q (.r []) .z)) fun R hR => ?_
  replace h := And.intro trivial h
  simp (disch := omega) only [vm, seval, h.1]
  refine ⟨AV (γ := Unit) h [5, 11, 12, 13, 14, 15, 16, 17, 18, 19, 20, 21, 22] [3] (fun j1 g => [.int .i64 j1]) (fun j1 g => (n, [.int .i64 a0.kind, .str a0.text, .slice 1 (List.map AVal.str a0.keys) false, .slice 4 (List.map AB a0.items) false]) :: m) (.q (.r []) .z) ?_ ?_⟩ <;> clear h
  rintro j1 _ n4 hnn4 _ _ h
  refine AA (.q (.q (.r []) (.c (.q (.r []) .z) .z)) .z) ?_
  replace h := AJ h
  rcases h with h | h
  obtain ⟨H, h⟩ := h
  cases h
  simp (disch := omega) only [vm, seval, H]
  refine ⟨(hR _ _ _ _ _ _ (by simp (disch := omega) only [vm, seval, H]; rfl) (.cons _ slr) ?_ (by omega) ?_).1⟩ <;> first | (simp (disch := omega) only [vm, seval, H]; done) | rfl
  simp (disch := omega) only [vm, seval, h.1]
  refine ⟨AV (γ := Unit) h [2, 7, 25, 26, 27, 28, 29, 30, 31, 32, 33, 34] [] (fun j6 g => []) (fun j6 g => (n, [.int .i64 a0.kind, .str a0.text, .slice 1 (List.map AVal.str a0.keys) false, .slice 4 (List.map AB a0.items) false]) :: m) (.q (.r []) .z) ?_ ?_⟩ <;> clear h
  rintro j6 _ n9 hnn9 _ _ h
  refine AA (.q (.r []) .z) ?_
  obtain ⟨H, h⟩ := h
  cases h
  simp (disch := omega) only [vm, seval, H]
  refine ⟨(hR _ _ _ _ _ _ (by simp (disch := omega) only [vm, seval, H]; rfl) (.cons _ slr) ?_ (by omega) ?_).1⟩ <;> first | (simp (disch := omega) only [vm, seval, H]; done) | rfl
  intro k7 Jk7 hk7 h
  replace h := Aj h
  obtain ⟨hfk10, h⟩ := h
  simp (disch := omega) only [vm, seval, h.1]
  refine ⟨ES (σ := Unit) (γ := Unit) a0.items hfk10 (fun xs i s => Cg N (Dj N D) k7 xs) (fun i s g => [.int .i64 i]) (fun i s g => (n, [.int .i64 a0.kind, .str a0.text, .slice 1 (List.map AVal.str a0.keys) false, .slice 4 (List.map AB a0.items) false]) :: m) [2, 7, 29, 30, 31, 32, 33, 34] [28] () () h (by first | (simp (disch := omega) only [vm, seval, h.1]; done) | rfl) (by first | (simp (disch := omega) only [vm, seval, h.1]; done) | rfl) ?_ ?_⟩ <;> clear h
  rintro s28 _ _ nL1_1 hnL1_1 _ h
  change _ ∧ Cg N (Dj N D) k7 [] = _ at h
  rw [Cg] at h
  refine AA (.q (.r []) (.q (.c .z .z) (.q (.q (.r []) (.q (.r []) (.c (.q (.r []) .z) .z))) (.r [])))) ?_
  simp (disch := omega) only [vm, seval, h.1]
  refine ⟨hk7 () () _ _ _ _ h.2 slr ?_ ?_ ?_ (by omega)⟩ <;> first | (simp (disch := omega) only [vm, seval, h.1]; done) | rfl
  rintro xk10 xsk10 s28 _ _ nL1_1 hnL1_1 _ h Jk10 hk10
  change _ ∧ Cg N (Dj N D) k7 (xk10 :: xsk10) = _ at h
  rw [Cg] at h
  refine AA (.q (.r []) (.q (.c .z .z) (.q (.q (.r []) (.q (.r []) (.c (.q (.r []) .z) .z))) (.r [])))) ?_
  replace h := AC h
  obtain ⟨y11, h⟩ := h
  simp (disch := omega) only [vm, seval, h.1]
  refine ⟨ih_ref15_long h.1.1 (by first | (simp (disch := omega) only [vm, seval, h.1]; done) | rfl) fun n12 hn12 => ?_⟩
  replace h := AJ h
  rcases h with h | h
  obtain ⟨H, h⟩ := h
  cases h
  simp (disch := omega) only [vm, seval, H]
  refine ⟨(hR _ _ _ _ _ _ (by simp (disch := omega) only [vm, seval, H]; rfl) (.cons _ (.cons _ slr)) ?_ (by omega) ?_).1⟩ <;> first | (simp (disch := omega) only [vm, seval, H]; done) | rfl
  simp (disch := omega) only [vm, seval, h.1]
  refine ⟨hk10 () () _ _ _ _ h.2 (.cons _ slr) ?_ ?_ ?_ (by omega)⟩ <;> first | (simp (disch := omega) only [vm, seval, h.1]; done) | rfl
  intro k2 Jk2 hk2 h
  replace h := Aj h
  obtain ⟨hfk5, h⟩ := h
  simp (disch := omega) only [vm, seval, h.1]
  refine ⟨ES (σ := Int) (γ := Unit) a0.keys hfk5 (fun xs i s => Cx N k2 xs s) (fun i s g => [.int .i64 s, .int .i64 i]) (fun i s g => (n, [.int .i64 a0.kind, .str a0.text, .slice 1 (List.map AVal.str a0.keys) false, .slice 4 (List.map AB a0.items) false]) :: m) [5, 15, 16, 17, 18, 19, 20, 21, 22] [3, 14] (a0.text.length : Int) () h (by first | (simp (disch := omega) only [vm, seval, h.1]; done) | rfl) (by first | (simp (disch := omega) only [vm, seval, h.1]; done) | rfl) ?_ ?_⟩ <;> clear h
  rintro s14 s3 _ nL0_1 hnL0_1 _ h
  change _ ∧ Cx N k2 [] s3 = _ at h
  rw [Cx] at h
  refine AA (.q (.r []) (.q (.c .z .z) (.q (.q (.r []) (.r [])) (.r [])))) ?_
  simp (disch := omega) only [vm, seval, h.1]
  refine ⟨hk2 s3 () _ _ _ _ h.2 slr ?_ ?_ ?_ (by omega)⟩ <;> first | (simp (disch := omega) only [vm, seval, h.1]; done) | rfl
  rintro xk5 xsk5 s14 s3 _ nL0_1 hnL0_1 _ h Jk5 hk5
  change _ ∧ Cx N k2 (xk5 :: xsk5) s3 = _ at h
  rw [Cx] at h
  refine AA (.q (.r []) (.q (.c .z .z) (.q (.q (.r []) (.r [])) (.r [])))) ?_
  simp (disch := omega) only [vm, seval, h.1]
  refine ⟨hk5 (wr .i64 (s3 + (xk5.length : Int))) () _ _ _ _ h.2 slr ?_ ?_ ?_ (by omega)⟩ <;> first | (simp (disch := omega) only [vm, seval, h.1]; done) | rfl
theorem TJ {a0 r} (h : Dj N N a0 = some r) (ha : args = [AB a0]) (hQ : ∀ n', n ≤ n' → Gl (Q (.bool r) ⟨m, n'⟩)) : ACall vE 41 args ⟨m, n⟩ Q :=
 (Q9 N N h ha hQ)
end Go.Proofs.YtbmilkoebhmnnaaGreatDoor
