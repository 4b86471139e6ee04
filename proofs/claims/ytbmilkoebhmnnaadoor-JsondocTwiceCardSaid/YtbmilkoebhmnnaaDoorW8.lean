import Derived.Test.YtbmilkoebhmnnaaDoorVmFacts
import Derived.Test.YtbmilkoebhmnnaaDoorDefs
import Derived.Test.YtbmilkoebhmnnaaDoorVM2
import Derived.Test.YtbmilkoebhmnnaaDoorW0
import Derived.Test.YtbmilkoebhmnnaaDoorW2
import Derived.Test.YtbmilkoebhmnnaaDoorW4
import Derived.Test.YtbmilkoebhmnnaaDoorW5
import Derived.Test.YtbmilkoebhmnnaaDoorW6
import Derived.Test.YtbmilkoebhmnnaaDoorW7
set_option linter.unusedVariables false
set_option linter.unusedSimpArgs false
set_option maxHeartbeats 4000000
set_option maxRecDepth 100000
set_option linter.defProp false
namespace Go.Proofs.YtbmilkoebhmnnaaDoor
open Go.VM
variable {N n : Nat} {m : MS} {Q : PQ} {args : List AVal}
theorem LF {a0 r} {i0 : Nat} (h : EL N a0 = some r) (ha : args = [.ptr i0 0]) (hi0 : Ap m i0 = some ([.str a0.s, .int .i64 a0.at_])) (hQ : ∀ n', n ≤ n' → Gl (Q (.tuple [.str r.1, .int .i64 r.2.1]) ⟨BH m i0 ([.str r.2.2.s, .int .i64 r.2.2.at_]), n'⟩)) : ACall vE 30 args ⟨m, n⟩ Q := by
 rw [EL] at h
 subst ha
 refine ACall.front hi0 fun hin => ent (fun n' k => ⟨_, rfl, (hQ n' k).go⟩) Tryd.func30 rfl Tryd.ntmps30 Tryd.results30 (.q (.r []) (.q (.r []) .z)) fun R hR => ?_
 replace h := And.intro trivial h
 simp (disch := omega) only [vm, seval, h.1]
 refine ⟨AX (γ := Unit) h [2, 3, 5, 6, 7, 8, 9, 10, 11, 12, 13, 14, 15, 16, 17, 18, 19, 20, 21, 22, 23, 24, 25, 26, 27, 28, 29, 30, 31, 32, 33, 34, 35, 36, 37, 38, 39, 40, 41, 42, 43, 44, 45, 46, 47, 48, 49, 50, 51, 52, 53, 54, 55, 56, 57, 58, 59, 60, 61, 62, 63, 64, 65] [] (fun j1 g => []) (fun j1 g => (n, [Hw n 80 2 j1.1, .buf 5 j1.2.1 true]) :: (i0, [.str j1.2.2.1, .int .i64 j1.2.2.2]) :: CZ m i0) (.q (.r []) .z) ?_ ?_⟩ <;> clear h
 rintro j1 _ n4 hnn4 _ _ h
 refine AA (.q (.r []) .z) ?_
 obtain ⟨H, h⟩ := h
 cases h
 simp (disch := omega) only [vm, seval, H]
 refine ⟨(hR _ _ _ _ _ _ (by simp (disch := omega) only [vm, seval, H]; rfl) (.cons _ slr) ?_ (by omega) ?_).1⟩ <;> first | (simp (disch := omega) only [vm, seval, H]; done) | rfl
 intro k2 Jk2 hk2 h
 simp (disch := omega) only [vm, seval, h.1]
 refine ⟨F7 (σ := Bool × (List UInt8) × (List UInt8) × Int) (γ := Unit) (fun k s => BU N k2 k s.1 s.2.1 s.2.2.1 s.2.2.2) (fun s g => []) (fun s g => (n, [Hw n 80 2 s.1, .buf 5 s.2.1 true]) :: (i0, [.str s.2.2.1, .int .i64 s.2.2.2]) :: CZ m i0) [2, 3, 5, 6, 7, 8, 16, 17, 18, 19, 20, 21, 22, 23, 24, 25, 26, 27, 28, 29, 30, 31, 32, 33, 34, 35, 36, 37, 38, 39, 40, 41, 42, 43, 44, 45, 46, 47, 48, 49, 50, 51, 52, 53, 54, 55, 56, 57, 58, 59, 60, 61, 62, 63, 64, 65] [] (false, [], a0.s, (wr .i64 (a0.at_ + 1))) () h (fun _ => rfl) (by first | (simp (disch := omega) only [vm, seval, h.1]; done) | rfl) (by first | (simp (disch := omega) only [vm, seval, h.1]; done) | rfl) ?_⟩
 clear h
 rintro k5 ⟨bn_addr, bn_buf, bi0_s, bi0_at_⟩ _ nL0_1 hnL0_1 _ h Jk5 hk5
 change _ ∧ BU N k2 (k5 + 1) bn_addr bn_buf bi0_s bi0_at_ = _ at h
 rw [BU] at h
 refine AA (.q (.q .z (.c .z .z)) (.q (.r []) (.q (.q .z (.q (.r []) (.c (.q (.r []) (.q (.r []) .z)) (.q (.r []) (.c (.r []) (.q (.r []) (.c (.q (.r []) .z) .z))))))) (.q (.r []) (.q (.q (.r []) (.c (.q (.r []) .z) .z)) (.r [])))))) ?_
 simp (disch := omega) only [vm, seval, h.1]
 refine ⟨Ar [] (.take 0 (.take 1 (.take 2 (.take 3 (.take 4 (.take 5 (.take 6 (.take 7 (.take 8 (.take 9 (.done))))))))))) Ah (by kernel_rfl) ?_⟩
 replace h := AC h
 rcases h with h | h
 replace h := AB h
 obtain ⟨x6, h⟩ := h
 simp (disch := omega) only [vm, seval, h.1]
 refine ⟨Ar [] (.take 0 (.take 1 (.take 2 (.take 3 (.take 4 (.take 5 (.take 6 (.take 7 (.take 8 (.alt 9 [] (.done) (.stop))))))))))) Ah (by kernel_rfl) ?_⟩
 replace h := AC h
 rcases h with h | h
 replace h := AB h
 obtain ⟨y7, h⟩ := h
 simp (disch := omega) only [vm, seval, h.1]
 refine ⟨JF h.1.1 (by first | (simp (disch := omega) only [vm, seval, h.1]; done) | rfl) (i0 := n) (by simp (disch := omega) only [vm, seval, h.1]) fun n8 hn8 => ?_⟩
 obtain ⟨H, h⟩ := h
 cases h
 simp (disch := omega) only [vm, seval, H]
 refine ⟨(hR _ _ _ _ _ _ (by simp (disch := omega) only [vm, seval, H]; rfl) (.cons _ slr) ?_ (by omega) ?_).1⟩ <;> first | (simp (disch := omega) only [vm, seval, H]; done) | rfl
 replace h := AC h
 rcases h with h | h
 replace h := AB h
 obtain ⟨y9, h⟩ := h
 simp (disch := omega) only [vm, seval, h.1]
 refine ⟨J9 h.1.1 (by first | (simp (disch := omega) only [vm, seval, h.1]; done) | rfl) (i0 := i0) (by simp (disch := omega) only [vm, seval, h.1]) fun n10 hn10 => ?_⟩
 replace h := AC h
 rcases h with h | h
 obtain ⟨H, h⟩ := h
 cases h
 simp (disch := omega) only [vm, seval, H]
 refine ⟨(hR _ _ _ _ _ _ (by simp (disch := omega) only [vm, seval, H]; rfl) (.cons _ slr) ?_ (by omega) ?_).1⟩ <;> first | (simp (disch := omega) only [vm, seval, H]; done) | rfl
 replace h := AB h
 obtain ⟨y11, h⟩ := h
 simp (disch := omega) only [vm, seval, h.1]
 refine ⟨Eg h.1.1 (by first | (simp (disch := omega) only [vm, seval, h.1]; done) | rfl) (i0 := n) (by simp (disch := omega) only [vm, seval, h.1]) fun n12 hn12 => ?_⟩
 simp (disch := omega) only [vm, seval, h.1]
 refine ⟨hk5 (y11.2.2.addr, y11.2.2.buf, y9.2.2.s, y9.2.2.at_) () _ _ _ _ h.2 slr ?_ ?_ ?_ (by omega)⟩ <;> first | (simp (disch := omega) only [vm, seval, h.1]; done) | rfl
 replace h := AC h
 rcases h with h | h
 obtain ⟨H, h⟩ := h
 cases h
 simp (disch := omega) only [vm, seval, H]
 refine ⟨(hR _ _ _ _ _ _ (by simp (disch := omega) only [vm, seval, H]; rfl) (.cons _ slr) ?_ (by omega) ?_).1⟩ <;> first | (simp (disch := omega) only [vm, seval, H]; done) | rfl
 replace h := AB h
 obtain ⟨y13, h⟩ := h
 simp (disch := omega) only [vm, seval, h.1]
 refine ⟨LJ h.1.1 (by first | (simp (disch := omega) only [vm, seval, h.1]; done) | rfl) (i0 := i0) (by simp (disch := omega) only [vm, seval, h.1]) fun n14 hn14 => ?_⟩
 replace h := AC h
 rcases h with h | h
 obtain ⟨H, h⟩ := h
 cases h
 simp (disch := omega) only [vm, seval, H]
 refine ⟨(hR _ _ _ _ _ _ (by simp (disch := omega) only [vm, seval, H]; rfl) (.cons _ slr) ?_ (by omega) ?_).1⟩ <;> first | (simp (disch := omega) only [vm, seval, H]; done) | rfl
 replace h := AB h
 obtain ⟨y15, h⟩ := h
 simp (disch := omega) only [vm, seval, h.1]
 refine ⟨Eg h.1.1 (by first | (simp (disch := omega) only [vm, seval, h.1]; done) | rfl) (i0 := n) (by simp (disch := omega) only [vm, seval, h.1]) fun n16 hn16 => ?_⟩
 simp (disch := omega) only [vm, seval, h.1]
 refine ⟨hk5 (y15.2.2.addr, y15.2.2.buf, y13.2.2.s, y13.2.2.at_) () _ _ _ _ h.2 slr ?_ ?_ ?_ (by omega)⟩ <;> first | (simp (disch := omega) only [vm, seval, h.1]; done) | rfl
 simp (disch := omega) only [vm, seval, h.1]
 refine ⟨hk2 (bn_addr, bn_buf, bi0_s, bi0_at_) () _ _ _ _ h.2 slr ?_ ?_ ?_ (by omega)⟩ <;> first | (simp (disch := omega) only [vm, seval, h.1]; done) | rfl
theorem Ns {a0 r} (h : FY N a0 = some r) (ha : args = [.str a0]) (hQ : ∀ n', n ≤ n' → Gl (Q (.int .i64 r) ⟨m, n'⟩)) : ACall vE 54 args ⟨m, n⟩ Q := by
 rw [FY] at h
 subst ha
 refine ent hQ Tryd.func54 rfl Tryd.ntmps54 Tryd.results54 (.q (.r []) (.q (.r []) (.q (.r []) .z))) fun R hR => ?_
 replace h := And.intro trivial h
 replace h := AB h
 obtain ⟨y1, h⟩ := h
 simp (disch := omega) only [vm, seval, h.1]
 refine ⟨Il h.1.1 (by first | (simp (disch := omega) only [vm, seval, h.1]; done) | rfl) fun n2 hn2 => ?_⟩
 replace h := AB h
 obtain ⟨y3, h⟩ := h
 simp (disch := omega) only [vm, seval, h.1]
 refine ⟨Pf h.1.1 (by first | (simp (disch := omega) only [vm, seval, h.1]; done) | rfl) fun n4 hn4 => ?_⟩
 simp (disch := omega) only [vm, seval, h.1]
 refine ⟨AX (γ := Unit) h [2, 13, 14, 15, 16, 17, 18] [4] (fun j5 g => [.int .u64 j5]) (fun j5 g => m) (.q (.r []) (.c (.q (.r []) .z) (.q (.r []) (.c (.r []) .z)))) ?_ ?_⟩ <;> clear h
 rintro j5 _ n8 hnn8 _ _ h
 refine AA (.q (.q (.r []) (.c (.q (.r []) .z) .z)) (.q (.r []) .z)) ?_
 replace h := AB h
 obtain ⟨y9, h⟩ := h
 simp (disch := omega) only [vm, seval, h.1]
 refine ⟨LH h.1.1 (by first | (simp (disch := omega) only [vm, seval, h.1]; done) | rfl) fun n10 hn10 => ?_⟩
 replace h := AC h
 rcases h with h | h
 obtain ⟨H, h⟩ := h
 cases h
 simp (disch := omega) only [vm, seval, H]
 refine ⟨(hR _ _ _ _ _ _ (by simp (disch := omega) only [vm, seval, H]; rfl) slr ?_ (by omega) ?_).1⟩ <;> first | (simp (disch := omega) only [vm, seval, H]; done) | rfl
 obtain ⟨H, h⟩ := h
 cases h
 simp (disch := omega) only [vm, seval, H]
 refine ⟨(hR _ _ _ _ _ _ (by simp (disch := omega) only [vm, seval, H]; rfl) slr ?_ (by omega) ?_).1⟩ <;> first | (simp (disch := omega) only [vm, seval, H]; done) | rfl
 intro k6 Jk6 hk6 h
 replace h := AC h
 rcases h with h | h
 obtain ⟨H, h⟩ := h
 cases h
 simp (disch := omega) only [vm, seval, H]
 refine ⟨(hR _ _ _ _ _ _ (by simp (disch := omega) only [vm, seval, H]; rfl) slr ?_ (by omega) ?_).1⟩ <;> first | (simp (disch := omega) only [vm, seval, H]; done) | rfl
 replace h := AC h
 rcases h with h | h
 simp (disch := omega) only [vm, seval, h.1]
 refine ⟨hk6 1099511627776 () _ _ _ _ h.2 slr ?_ ?_ ?_ (by omega)⟩ <;> first | (simp (disch := omega) only [vm, seval, h.1]; done) | rfl
 simp (disch := omega) only [vm, seval, h.1]
 refine ⟨hk6 y3.1 () _ _ _ _ h.2 slr ?_ ?_ ?_ (by omega)⟩ <;> first | (simp (disch := omega) only [vm, seval, h.1]; done) | rfl
theorem Ov (N : Nat) : ∀ D : Nat, (∀ {a0 : ApiValue} {r : Bool} (h : C9 N D a0 = some r) {args : List AVal} {n : Nat} {m : MS} (ha : args = [AJ a0]) {Q : PQ} (hQ : ∀ n', n ≤ n' → Gl (Q (.bool r) ⟨m, n'⟩)), ACall vE 40 args ⟨m, n⟩ Q) := by
 intro D
 induction D with
 | zero =>
  intro a0 r h
  simp only [C9, reduceCtorEq] at h
 | succ D ih_ref15_shape =>
  intro a0 r h args n m ha Q hQ
  rw [C9] at h
  subst ha
  refine Ny hQ Tryd.func40 rfl Tryd.ntmps40 Tryd.results40 (.q (.r []) .z) fun R hR => ?_
  replace h := And.intro trivial h
  simp (disch := omega) only [vm, seval, h.1]
  refine ⟨AX (γ := Unit) h [2, 3, 4, 7, 8, 9, 10, 11, 12, 13, 14, 15, 16, 17, 18, 19, 20, 21, 22, 23, 24, 25, 26, 27, 28, 29, 30, 31, 32, 33, 34, 35, 36, 37, 38, 39, 40, 41, 42, 43, 44, 45, 46, 47, 48, 49, 50, 51, 52, 53, 54, 55, 56, 57, 58, 59, 60, 61, 62, 63, 64, 65, 66, 67, 68, 69, 70, 71, 72, 73, 74, 75, 76, 77, 78, 79, 80, 81, 82, 83, 84, 85, 86, 87, 88, 89, 90, 91, 92, 93, 94, 95, 96, 97, 98, 99, 100, 101, 102, 103] [] (fun j1 g => []) (fun j1 g => (n, [.int .i64 a0.kind, .str a0.text, .slice 1 (List.map AVal.str a0.keys) false, .slice 4 (List.map AJ a0.items) false]) :: m) (.q (.r []) .z) ?_ ?_⟩ <;> clear h
  rintro j1 _ n4 hnn4 _ _ h
  refine AA .z ?_
  simp (disch := omega) only [vm, seval, h.1]
  refine ⟨AX (γ := Unit) h [2, 6, 104, 105, 106, 107, 108, 109, 110, 111, 112, 113, 114] [] (fun j23 g => []) (fun j23 g => (n, [.int .i64 a0.kind, .str a0.text, .slice 1 (List.map AVal.str a0.keys) false, .slice 4 (List.map AJ a0.items) false]) :: m) (.q (.r []) .z) ?_ ?_⟩ <;> clear h
  rintro j23 _ n26 hnn26 _ _ h
  refine AA (.q (.r []) .z) ?_
  obtain ⟨H, h⟩ := h
  cases h
  simp (disch := omega) only [vm, seval, H]
  refine ⟨(hR _ _ _ _ _ _ (by simp (disch := omega) only [vm, seval, H]; rfl) (.cons _ slr) ?_ (by omega) ?_).1⟩ <;> first | (simp (disch := omega) only [vm, seval, H]; done) | rfl
  intro k24 Jk24 hk24 h
  replace h := Ad h
  obtain ⟨hfk27, h⟩ := h
  simp (disch := omega) only [vm, seval, h.1]
  refine ⟨EF (σ := Unit) (γ := Unit) a0.items hfk27 (fun xs i s => CF N (C9 N D) k24 xs) (fun i s g => [.int .i64 i]) (fun i s g => (n, [.int .i64 a0.kind, .str a0.text, .slice 1 (List.map AVal.str a0.keys) false, .slice 4 (List.map AJ a0.items) false]) :: m) [2, 6, 108, 109, 110, 111, 112, 113, 114] [107] () () h (by first | (simp (disch := omega) only [vm, seval, h.1]; done) | rfl) (by first | (simp (disch := omega) only [vm, seval, h.1]; done) | rfl) ?_ ?_⟩ <;> clear h
  rintro s107 _ _ nL0_1 hnL0_1 _ h
  change _ ∧ CF N (C9 N D) k24 [] = _ at h
  rw [CF] at h
  refine AA (.q (.r []) (.q (.c .z .z) (.q (.q (.r []) (.q (.r []) (.c (.q (.r []) .z) .z))) (.r [])))) ?_
  simp (disch := omega) only [vm, seval, h.1]
  refine ⟨hk24 () () _ _ _ _ h.2 slr ?_ ?_ ?_ (by omega)⟩ <;> first | (simp (disch := omega) only [vm, seval, h.1]; done) | rfl
  rintro xk27 xsk27 s107 _ _ nL0_1 hnL0_1 _ h Jk27 hk27
  change _ ∧ CF N (C9 N D) k24 (xk27 :: xsk27) = _ at h
  rw [CF] at h
  refine AA (.q (.r []) (.q (.c .z .z) (.q (.q (.r []) (.q (.r []) (.c (.q (.r []) .z) .z))) (.r [])))) ?_
  replace h := AB h
  obtain ⟨y28, h⟩ := h
  simp (disch := omega) only [vm, seval, h.1]
  refine ⟨ih_ref15_shape h.1.1 (by first | (simp (disch := omega) only [vm, seval, h.1]; done) | rfl) fun n29 hn29 => ?_⟩
  replace h := AC h
  rcases h with h | h
  simp (disch := omega) only [vm, seval, h.1]
  refine ⟨hk27 () () _ _ _ _ h.2 (.cons _ slr) ?_ ?_ ?_ (by omega)⟩ <;> first | (simp (disch := omega) only [vm, seval, h.1]; done) | rfl
  obtain ⟨H, h⟩ := h
  cases h
  simp (disch := omega) only [vm, seval, H]
  refine ⟨(hR _ _ _ _ _ _ (by simp (disch := omega) only [vm, seval, H]; rfl) (.cons _ (.cons _ slr)) ?_ (by omega) ?_).1⟩ <;> first | (simp (disch := omega) only [vm, seval, H]; done) | rfl
  intro k2 Jk2 hk2 h
  simp (disch := omega) only [vm, seval, h.1]
  refine ⟨AX (γ := Unit) h [10, 11, 12] [9] (fun j5 g => [.bool j5]) (fun j5 g => (n, [.int .i64 a0.kind, .str a0.text, .slice 1 (List.map AVal.str a0.keys) false, .slice 4 (List.map AJ a0.items) false]) :: m) (.q (.r []) (.c .z (.q (.r []) (.c .z (.r []))))) ?_ ?_⟩ <;> clear h
  rintro j5 _ n8 hnn8 _ _ h
  refine AA (.c (.q (.r []) .z) (.q (.r []) (.c (.q (.r []) (.q (.r []) .z)) (.q (.r []) (.c (.q (.r []) .z) (.q (.r []) (.c .z (.q (.r []) (.c .z (.q (.r []) .z)))))))))) ?_
  replace h := AC h
  rcases h with h | h
  replace h := AC h
  rcases h with h | h
  replace h := AC h
  rcases h with h | h
  obtain ⟨H, h⟩ := h
  cases h
  simp (disch := omega) only [vm, seval, H]
  refine ⟨(hR _ _ _ _ _ _ (by simp (disch := omega) only [vm, seval, H]; rfl) (.cons _ slr) ?_ (by omega) ?_).1⟩ <;> first | (simp (disch := omega) only [vm, seval, H]; done) | rfl
  obtain ⟨H, h⟩ := h
  cases h
  simp (disch := omega) only [vm, seval, H]
  refine ⟨(hR _ _ _ _ _ _ (by simp (disch := omega) only [vm, seval, H]; rfl) (.cons _ slr) ?_ (by omega) ?_).1⟩ <;> first | (simp (disch := omega) only [vm, seval, H]; done) | rfl
  obtain ⟨H, h⟩ := h
  cases h
  simp (disch := omega) only [vm, seval, H]
  refine ⟨(hR _ _ _ _ _ _ (by simp (disch := omega) only [vm, seval, H]; rfl) (.cons _ slr) ?_ (by omega) ?_).1⟩ <;> first | (simp (disch := omega) only [vm, seval, H]; done) | rfl
  replace h := AC h
  rcases h with h | h
  replace h := AB h
  obtain ⟨y9, h⟩ := h
  simp (disch := omega) only [vm, seval, h.1]
  refine ⟨QA h.1.1 (by first | (simp (disch := omega) only [vm, seval, h.1]; done) | rfl) fun n10 hn10 => ?_⟩
  replace h := AC h
  rcases h with h | h
  replace h := AC h
  rcases h with h | h
  replace h := AC h
  rcases h with h | h
  obtain ⟨H, h⟩ := h
  cases h
  simp (disch := omega) only [vm, seval, H]
  refine ⟨(hR _ _ _ _ _ _ (by simp (disch := omega) only [vm, seval, H]; rfl) (.cons _ slr) ?_ (by omega) ?_).1⟩ <;> first | (simp (disch := omega) only [vm, seval, H]; done) | rfl
  obtain ⟨H, h⟩ := h
  cases h
  simp (disch := omega) only [vm, seval, H]
  refine ⟨(hR _ _ _ _ _ _ (by simp (disch := omega) only [vm, seval, H]; rfl) (.cons _ slr) ?_ (by omega) ?_).1⟩ <;> first | (simp (disch := omega) only [vm, seval, H]; done) | rfl
  obtain ⟨H, h⟩ := h
  cases h
  simp (disch := omega) only [vm, seval, H]
  refine ⟨(hR _ _ _ _ _ _ (by simp (disch := omega) only [vm, seval, H]; rfl) (.cons _ slr) ?_ (by omega) ?_).1⟩ <;> first | (simp (disch := omega) only [vm, seval, H]; done) | rfl
  obtain ⟨H, h⟩ := h
  cases h
  simp (disch := omega) only [vm, seval, H]
  refine ⟨(hR _ _ _ _ _ _ (by simp (disch := omega) only [vm, seval, H]; rfl) (.cons _ slr) ?_ (by omega) ?_).1⟩ <;> first | (simp (disch := omega) only [vm, seval, H]; done) | rfl
  replace h := AC h
  rcases h with h | h
  replace h := AB h
  obtain ⟨y11, h⟩ := h
  simp (disch := omega) only [vm, seval, h.1]
  refine ⟨JL h.1.1 (by first | (simp (disch := omega) only [vm, seval, h.1]; done) | rfl) fun n12 hn12 => ?_⟩
  replace h := AC h
  rcases h with h | h
  replace h := AC h
  rcases h with h | h
  obtain ⟨H, h⟩ := h
  cases h
  simp (disch := omega) only [vm, seval, H]
  refine ⟨(hR _ _ _ _ _ _ (by simp (disch := omega) only [vm, seval, H]; rfl) (.cons _ slr) ?_ (by omega) ?_).1⟩ <;> first | (simp (disch := omega) only [vm, seval, H]; done) | rfl
  obtain ⟨H, h⟩ := h
  cases h
  simp (disch := omega) only [vm, seval, H]
  refine ⟨(hR _ _ _ _ _ _ (by simp (disch := omega) only [vm, seval, H]; rfl) (.cons _ slr) ?_ (by omega) ?_).1⟩ <;> first | (simp (disch := omega) only [vm, seval, H]; done) | rfl
  obtain ⟨H, h⟩ := h
  cases h
  simp (disch := omega) only [vm, seval, H]
  refine ⟨(hR _ _ _ _ _ _ (by simp (disch := omega) only [vm, seval, H]; rfl) (.cons _ slr) ?_ (by omega) ?_).1⟩ <;> first | (simp (disch := omega) only [vm, seval, H]; done) | rfl
  replace h := AC h
  rcases h with h | h
  simp (disch := omega) only [vm, seval, h.1]
  refine ⟨AX (γ := Unit) h [75, 76, 77, 78, 79, 80, 81, 82] [83] (fun j13 g => [.bool j13]) (fun j13 g => (n, [.int .i64 a0.kind, .str a0.text, .slice 1 (List.map AVal.str a0.keys) false, .slice 4 (List.map AJ a0.items) false]) :: m) (.r []) ?_ ?_⟩ <;> clear h
  rintro j13 _ n16 hnn16 _ _ h
  refine AA (.c (.q (.r []) .z) .z) ?_
  replace h := AC h
  rcases h with h | h
  obtain ⟨H, h⟩ := h
  cases h
  simp (disch := omega) only [vm, seval, H]
  refine ⟨(hR _ _ _ _ _ _ (by simp (disch := omega) only [vm, seval, H]; rfl) (.cons _ slr) ?_ (by omega) ?_).1⟩ <;> first | (simp (disch := omega) only [vm, seval, H]; done) | rfl
  simp (disch := omega) only [vm, seval, h.1]
  refine ⟨hk2 () () _ _ _ _ h.2 slr ?_ ?_ ?_ (by omega)⟩ <;> first | (simp (disch := omega) only [vm, seval, h.1]; done) | rfl
  intro k14 Jk14 hk14 h
  replace h := AC h
  rcases h with h | h
  simp (disch := omega) only [vm, seval, h.1]
  refine ⟨hk14 ((a0.keys.length : Int) != 0) () _ _ _ _ h.2 slr ?_ ?_ ?_ (by omega)⟩ <;> first | (simp (disch := omega) only [vm, seval, h.1]; done) | rfl
  simp (disch := omega) only [vm, seval, h.1]
  refine ⟨hk14 true () _ _ _ _ h.2 slr ?_ ?_ ?_ (by omega)⟩ <;> first | (simp (disch := omega) only [vm, seval, h.1]; done) | rfl
  replace h := AC h
  rcases h with h | h
  simp (disch := omega) only [vm, seval, h.1]
  refine ⟨AX (γ := Unit) h [86, 87, 88, 89, 90, 91, 92, 93, 94, 95, 96, 97, 98, 99, 100, 101, 102] [103] (fun j17 g => [.bool j17]) (fun j17 g => (n, [.int .i64 a0.kind, .str a0.text, .slice 1 (List.map AVal.str a0.keys) false, .slice 4 (List.map AJ a0.items) false]) :: m) (.r []) ?_ ?_⟩ <;> clear h
  rintro j17 _ n20 hnn20 _ _ h
  refine AA (.c (.q (.r []) .z) .z) ?_
  replace h := AC h
  rcases h with h | h
  obtain ⟨H, h⟩ := h
  cases h
  simp (disch := omega) only [vm, seval, H]
  refine ⟨(hR _ _ _ _ _ _ (by simp (disch := omega) only [vm, seval, H]; rfl) (.cons _ slr) ?_ (by omega) ?_).1⟩ <;> first | (simp (disch := omega) only [vm, seval, H]; done) | rfl
  simp (disch := omega) only [vm, seval, h.1]
  refine ⟨hk2 () () _ _ _ _ h.2 slr ?_ ?_ ?_ (by omega)⟩ <;> first | (simp (disch := omega) only [vm, seval, h.1]; done) | rfl
  intro k18 Jk18 hk18 h
  replace h := AC h
  rcases h with h | h
  replace h := AC h
  rcases h with h | h
  simp (disch := omega) only [vm, seval, h.1]
  refine ⟨hk18 true () _ _ _ _ h.2 slr ?_ ?_ ?_ (by omega)⟩ <;> first | (simp (disch := omega) only [vm, seval, h.1]; done) | rfl
  replace h := AB h
  obtain ⟨y21, h⟩ := h
  simp (disch := omega) only [vm, seval, h.1]
  refine ⟨M0 h.1.1 (by first | (simp (disch := omega) only [vm, seval, h.1]; done) | rfl) fun n22 hn22 => ?_⟩
  simp (disch := omega) only [vm, seval, h.1]
  refine ⟨hk18 (!y21) () _ _ _ _ h.2 slr ?_ ?_ ?_ (by omega)⟩ <;> first | (simp (disch := omega) only [vm, seval, h.1]; done) | rfl
  simp (disch := omega) only [vm, seval, h.1]
  refine ⟨hk18 true () _ _ _ _ h.2 slr ?_ ?_ ?_ (by omega)⟩ <;> first | (simp (disch := omega) only [vm, seval, h.1]; done) | rfl
  obtain ⟨H, h⟩ := h
  cases h
  simp (disch := omega) only [vm, seval, H]
  refine ⟨(hR _ _ _ _ _ _ (by simp (disch := omega) only [vm, seval, H]; rfl) (.cons _ slr) ?_ (by omega) ?_).1⟩ <;> first | (simp (disch := omega) only [vm, seval, H]; done) | rfl
  intro k6 Jk6 hk6 h
  replace h := AC h
  rcases h with h | h
  simp (disch := omega) only [vm, seval, h.1]
  refine ⟨hk6 (a0.kind == 1) () _ _ _ _ h.2 slr ?_ ?_ ?_ (by omega)⟩ <;> first | (simp (disch := omega) only [vm, seval, h.1]; done) | rfl
  replace h := AC h
  rcases h with h | h
  simp (disch := omega) only [vm, seval, h.1]
  refine ⟨hk6 (a0.kind == 3) () _ _ _ _ h.2 slr ?_ ?_ ?_ (by omega)⟩ <;> first | (simp (disch := omega) only [vm, seval, h.1]; done) | rfl
  simp (disch := omega) only [vm, seval, h.1]
  refine ⟨hk6 (a0.kind == 2) () _ _ _ _ h.2 slr ?_ ?_ ?_ (by omega)⟩ <;> first | (simp (disch := omega) only [vm, seval, h.1]; done) | rfl
theorem RI {a0 r} (h : C9 N N a0 = some r) (ha : args = [AJ a0]) (hQ : ∀ n', n ≤ n' → Gl (Q (.bool r) ⟨m, n'⟩)) : ACall vE 40 args ⟨m, n⟩ Q :=
 (Ov N N h ha hQ)
theorem Ot (N : Nat) : ∀ D : Nat, (∀ {a0 : ApiValue} {r : (List UInt8)} (h : Cr N D a0 = some r) {args : List AVal} {n : Nat} {m : MS} (ha : args = [AJ a0]) {Q : PQ} (hQ : ∀ n', n ≤ n' → Gl (Q (.str r) ⟨m, n'⟩)), ACall vE 27 args ⟨m, n⟩ Q) := by
 intro D
 induction D with
 | zero =>
  intro a0 r h
  simp only [Cr, reduceCtorEq] at h
 | succ D ih_ref15_write =>
  intro a0 r h args n m ha Q hQ
  rw [Cr] at h
  subst ha
  refine Ny hQ Tryd.func27 rfl Tryd.ntmps27 Tryd.results27 (.q (.r []) (.q (.q (.r []) (.q (.r []) (.c (.q (.r []) .z) (.q (.r []) (.c (.q (.r []) .z) (.q (.r []) (.c (.q (.r []) .z) (.q (.r []) (.c (.q (.r []) .z) (.q (.r []) (.c (.q (.r []) (.q (.r []) .z)) .z))))))))))) (.q (.r []) .z))) fun R hR => ?_
  replace h := And.intro trivial h
  replace h := AC h
  rcases h with h | h
  obtain ⟨H, h⟩ := h
  cases h
  simp (disch := omega) only [vm, seval, H]
  refine ⟨(hR _ _ _ _ _ _ (by simp (disch := omega) only [vm, seval, H]; rfl) (.cons _ slr) ?_ (by omega) ?_).1⟩ <;> first | (simp (disch := omega) only [vm, seval, H]; done) | rfl
  replace h := AC h
  rcases h with h | h
  obtain ⟨H, h⟩ := h
  cases h
  simp (disch := omega) only [vm, seval, H]
  refine ⟨(hR _ _ _ _ _ _ (by simp (disch := omega) only [vm, seval, H]; rfl) (.cons _ slr) ?_ (by omega) ?_).1⟩ <;> first | (simp (disch := omega) only [vm, seval, H]; done) | rfl
  replace h := AC h
  rcases h with h | h
  obtain ⟨H, h⟩ := h
  cases h
  simp (disch := omega) only [vm, seval, H]
  refine ⟨(hR _ _ _ _ _ _ (by simp (disch := omega) only [vm, seval, H]; rfl) (.cons _ slr) ?_ (by omega) ?_).1⟩ <;> first | (simp (disch := omega) only [vm, seval, H]; done) | rfl
  replace h := AC h
  rcases h with h | h
  obtain ⟨H, h⟩ := h
  cases h
  simp (disch := omega) only [vm, seval, H]
  refine ⟨(hR _ _ _ _ _ _ (by simp (disch := omega) only [vm, seval, H]; rfl) (.cons _ slr) ?_ (by omega) ?_).1⟩ <;> first | (simp (disch := omega) only [vm, seval, H]; done) | rfl
  replace h := AC h
  rcases h with h | h
  replace h := AB h
  obtain ⟨y1, h⟩ := h
  simp (disch := omega) only [vm, seval, h.1]
  refine ⟨LQ h.1.1 (by first | (simp (disch := omega) only [vm, seval, h.1]; done) | rfl) fun n2 hn2 => ?_⟩
  obtain ⟨H, h⟩ := h
  cases h
  simp (disch := omega) only [vm, seval, H]
  refine ⟨(hR _ _ _ _ _ _ (by simp (disch := omega) only [vm, seval, H]; rfl) (.cons _ slr) ?_ (by omega) ?_).1⟩ <;> first | (simp (disch := omega) only [vm, seval, H]; done) | rfl
  simp (disch := omega) only [vm, seval, h.1]
  refine ⟨AX (γ := Unit) h [6, 7, 8, 9, 31, 32, 33, 34, 35, 36, 37, 38, 39, 40, 41, 42, 43, 44, 45, 46, 47, 48, 49, 50, 51, 52, 53, 54, 55, 56, 57, 58, 59, 60, 61, 62, 63, 64, 65] [5] (fun j3 g => [.slice 1 (List.map (AVal.int .u8) j3) true]) (fun j3 g => (n, [.int .i64 a0.kind, .str a0.text, .slice 1 (List.map AVal.str a0.keys) false, .slice 4 (List.map AJ a0.items) false]) :: m) (.q (.r []) .z) ?_ ?_⟩ <;> clear h
  rintro j3 _ n6 hnn6 _ _ h
  refine AA (.q (.q (.r []) (.c (.q (.r []) .z) .z)) (.q (.r []) .z)) ?_
  replace h := AC h
  rcases h with h | h
  replace h := Ad h
  obtain ⟨c, h⟩ := h
  try simp only [liE, seval] at c
  replace h := Ab c h
  replace h := Ad h
  obtain ⟨c, h⟩ := h
  try simp only [liE, seval] at c
  replace h := Ab c h
  obtain ⟨H, h⟩ := h
  cases h
  simp (disch := omega) only [vm, seval, H]
  refine ⟨(hR _ _ _ _ _ _ (by simp (disch := omega) only [vm, seval, H]; rfl) (.cons _ slr) ?_ (by omega) ?_).1⟩ <;> first | (simp (disch := omega) only [vm, seval, H]; done) | rfl
  replace h := Ad h
  obtain ⟨c, h⟩ := h
  try simp only [liE, seval] at c
  replace h := Ab c h
  replace h := Ad h
  obtain ⟨c, h⟩ := h
  try simp only [liE, seval] at c
  replace h := Ab c h
  obtain ⟨H, h⟩ := h
  cases h
  simp (disch := omega) only [vm, seval, H]
  refine ⟨(hR _ _ _ _ _ _ (by simp (disch := omega) only [vm, seval, H]; rfl) (.cons _ slr) ?_ (by omega) ?_).1⟩ <;> first | (simp (disch := omega) only [vm, seval, H]; done) | rfl
  intro k4 Jk4 hk4 h
  replace h := Ad h
  obtain ⟨hfk7, h⟩ := h
  simp (disch := omega) only [vm, seval, h.1]
  refine ⟨EF (σ := (List Int)) (γ := Unit) a0.items hfk7 (fun xs i s => BK N a0 (Cr N D) k4 xs i s) (fun i s g => [.slice 1 (List.map (AVal.int .u8) s) true, .int .i64 i]) (fun i s g => (n, [.int .i64 a0.kind, .str a0.text, .slice 1 (List.map AVal.str a0.keys) false, .slice 4 (List.map AJ a0.items) false]) :: m) [6, 7, 8, 9, 35, 36, 37, 38, 39, 40, 41, 42, 43, 44, 45, 46, 47, 48, 49, 50, 51, 52, 53, 54, 55, 56, 57, 58, 59, 60, 61, 62, 63, 64, 65] [5, 34] [] () h (by first | (simp (disch := omega) only [vm, seval, h.1]; done) | rfl) (by first | (simp (disch := omega) only [vm, seval, h.1]; done) | rfl) ?_ ?_⟩ <;> clear h
  rintro s34 s5 _ nL0_1 hnL0_1 _ h
  change _ ∧ BK N a0 (Cr N D) k4 [] s34 s5 = _ at h
  rw [BK] at h
  refine AA (.q (.r []) (.q (.c .z .z) (.q (.q (.r []) .z) (.r [])))) ?_
  simp (disch := omega) only [vm, seval, h.1]
  refine ⟨hk4 s5 () _ _ _ _ h.2 slr ?_ ?_ ?_ (by omega)⟩ <;> first | (simp (disch := omega) only [vm, seval, h.1]; done) | rfl
  rintro xk7 xsk7 s34 s5 _ nL0_1 hnL0_1 _ h Jk7 hk7
  change _ ∧ BK N a0 (Cr N D) k4 (xk7 :: xsk7) s34 s5 = _ at h
  rw [BK] at h
  refine AA (.q (.r []) (.q (.c .z .z) (.q (.q (.r []) .z) (.r [])))) ?_
  simp (disch := omega) only [vm, seval, h.1]
  refine ⟨AX (γ := Unit) h [39, 40, 41, 42, 43] [5] (fun j8 g => [.slice 1 (List.map (AVal.int .u8) j8) true]) (fun j8 g => (nL0_1, [.int .i64 xk7.kind, .str xk7.text, .slice 1 (List.map AVal.str xk7.keys) false, .slice 4 (List.map AJ xk7.items) false]) :: (n, [.int .i64 a0.kind, .str a0.text, .slice 1 (List.map AVal.str a0.keys) false, .slice 4 (List.map AJ a0.items) false]) :: m) (.q (.r []) (.c (.r [41]) .z)) ?_ ?_⟩ <;> clear h
  rintro j8 _ n11 hnn11 _ _ h
  refine AA .z ?_
  simp (disch := omega) only [vm, seval, h.1]
  refine ⟨AX (γ := Unit) h [8, 9, 44, 45, 46, 47, 48, 49, 50, 51, 52, 53, 54, 55, 56, 57, 58, 59, 60] [5] (fun j12 g => [.slice 1 (List.map (AVal.int .u8) j12) true]) (fun j12 g => (nL0_1, [.int .i64 xk7.kind, .str xk7.text, .slice 1 (List.map AVal.str xk7.keys) false, .slice 4 (List.map AJ xk7.items) false]) :: (n, [.int .i64 a0.kind, .str a0.text, .slice 1 (List.map AVal.str a0.keys) false, .slice 4 (List.map AJ a0.items) false]) :: m) (.q (.r []) (.c (.q (.r []) (.r [56])) .z)) ?_ ?_⟩ <;> clear h
  rintro j12 _ n15 hnn15 _ _ h
  refine AA (.r [61]) ?_
  replace h := AB h
  obtain ⟨y19, h⟩ := h
  simp (disch := omega) only [vm, seval, h.1]
  refine ⟨ih_ref15_write h.1.1 (by first | (simp (disch := omega) only [vm, seval, h.1]; done) | rfl) fun n20 hn20 => ?_⟩
  replace h := Ad h
  obtain ⟨c, h⟩ := h
  try simp only [liE, seval] at c
  replace h := Ab c h
  simp (disch := omega) only [vm, seval, h.1]
  refine ⟨hk7 (j12 ++ (List.map AP y19)) () _ _ _ _ h.2 (.cons _ slr) ?_ ?_ ?_ (by omega)⟩ <;> first | (simp (disch := omega) only [vm, seval, h.1]; done) | rfl
  intro k13 Jk13 hk13 h
  replace h := AC h
  rcases h with h | h
  replace h := AB h
  obtain ⟨x16, h⟩ := h
  replace h := AB h
  obtain ⟨y17, h⟩ := h
  simp (disch := omega) only [vm, seval, h.1]
  refine ⟨LQ h.1.1 (by first | (simp (disch := omega) only [vm, seval, h.1]; done) | rfl) fun n18 hn18 => ?_⟩
  replace h := Ad h
  obtain ⟨c, h⟩ := h
  try simp only [liE, seval] at c
  replace h := Ab c h
  replace h := Ad h
  obtain ⟨c, h⟩ := h
  try simp only [liE, seval] at c
  replace h := Ab c h
  simp (disch := omega) only [vm, seval, h.1]
  refine ⟨hk13 ((j8 ++ (List.map AP y17.1)) ++ [58]) () _ _ _ _ h.2 slr ?_ ?_ ?_ (by omega)⟩ <;> first | (simp (disch := omega) only [vm, seval, h.1]; done) | rfl
  simp (disch := omega) only [vm, seval, h.1]
  refine ⟨hk13 j8 () _ _ _ _ h.2 slr ?_ ?_ ?_ (by omega)⟩ <;> first | (simp (disch := omega) only [vm, seval, h.1]; done) | rfl
  intro k9 Jk9 hk9 h
  replace h := AC h
  rcases h with h | h
  replace h := Ad h
  obtain ⟨c, h⟩ := h
  try simp only [liE, seval] at c
  replace h := Ab c h
  simp (disch := omega) only [vm, seval, h.1]
  refine ⟨hk9 (s5 ++ [44]) () _ _ _ _ h.2 slr ?_ ?_ ?_ (by omega)⟩ <;> first | (simp (disch := omega) only [vm, seval, h.1]; done) | rfl
  simp (disch := omega) only [vm, seval, h.1]
  refine ⟨hk9 s5 () _ _ _ _ h.2 slr ?_ ?_ ?_ (by omega)⟩ <;> first | (simp (disch := omega) only [vm, seval, h.1]; done) | rfl
theorem RZ {a0 r} (h : Cr N N a0 = some r) (ha : args = [AJ a0]) (hQ : ∀ n', n ≤ n' → Gl (Q (.str r) ⟨m, n'⟩)) : ACall vE 27 args ⟨m, n⟩ Q :=
 (Ot N N h ha hQ)
end Go.Proofs.YtbmilkoebhmnnaaDoor
