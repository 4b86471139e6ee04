import Derived.Test.YtbmilkoebhmnnaaGreatDoorVmFacts
import Derived.Test.YtbmilkoebhmnnaaGreatDoorDefs
import Derived.Test.YtbmilkoebhmnnaaGreatDoorVM2
import Derived.Test.YtbmilkoebhmnnaaGreatDoorW0
import Derived.Test.YtbmilkoebhmnnaaGreatDoorW3
import Derived.Test.YtbmilkoebhmnnaaGreatDoorW5
import Derived.Test.YtbmilkoebhmnnaaGreatDoorW6
import Derived.Test.YtbmilkoebhmnnaaGreatDoorW7
import Derived.Test.YtbmilkoebhmnnaaGreatDoorW8
set_option linter.unusedVariables false
set_option linter.unusedSimpArgs false
set_option maxHeartbeats 4000000
set_option maxRecDepth 100000
set_option linter.defProp false
namespace Go.Proofs.YtbmilkoebhmnnaaGreatDoor
open Go.VM
variable {N n : Nat} {m : MS} {Q : PQ} {args : List AVal}
theorem Le {a0 r} {i0 : Nat} (h : EY N a0 = some r) (ha : args = [.ptr i0 0]) (hi0 : Ao m i0 = some ([.str a0.s, .int .i64 a0.at_])) (hQ : ∀ n', n ≤ n' → Gl (Q (.tuple [.str r.1, .int .i64 r.2.1]) ⟨BH m i0 ([.str r.2.2.s, .int .i64 r.2.2.at_]), n'⟩)) : ACall vE 47 args ⟨m, n⟩ Q := by
 rw [EY] at h
 subst ha
 refine ACall.front hi0 fun hin => ent (fun n' k => ⟨_, rfl, (hQ n' k).go⟩) Tryz.func47 rfl Tryz.ntmps47 Tryz.results47 (.q (.r []) (.q (.r []) .z)) fun R hR => ?_
 replace h := And.intro trivial h
 simp (disch := omega) only [vm, seval, h.1]
 refine ⟨AU (γ := Unit) h [2, 3, 5, 6, 7, 8, 9, 10, 11, 12, 13, 14, 15, 16, 17, 18, 19, 20, 21, 22, 23, 24, 25, 26, 27, 28, 29, 30, 31, 32, 33, 34, 35, 36, 37, 38, 39, 40, 41, 42, 43, 44, 45, 46, 47, 48, 49, 50, 51, 52, 53, 54, 55, 56, 57, 58, 59, 60, 61, 62, 63, 64, 65] [] (fun j1 g => []) (fun j1 g => (n, [Hy n 102 2 j1.1, .buf 5 j1.2.1 true]) :: (i0, [.str j1.2.2.1, .int .i64 j1.2.2.2]) :: Ck m i0) (.q (.r []) .z) ?_ ?_⟩ <;> clear h
 rintro j1 _ n4 hnn4 _ _ h
 refine AB (.q (.r []) .z) ?_
 obtain ⟨H, h⟩ := h
 cases h
 simp (disch := omega) only [vm, seval, H]
 refine ⟨(hR _ _ _ _ _ _ (by simp (disch := omega) only [vm, seval, H]; rfl) (.cons _ slr) ?_ (by omega) ?_).1⟩ <;> first | (simp (disch := omega) only [vm, seval, H]; done) | rfl
 intro k2 Jk2 hk2 h
 simp (disch := omega) only [vm, seval, h.1]
 refine ⟨Fz (σ := Bool × (List UInt8) × (List UInt8) × Int) (γ := Unit) (fun k s => BV N k2 k s.1 s.2.1 s.2.2.1 s.2.2.2) (fun s g => []) (fun s g => (n, [Hy n 102 2 s.1, .buf 5 s.2.1 true]) :: (i0, [.str s.2.2.1, .int .i64 s.2.2.2]) :: Ck m i0) [2, 3, 5, 6, 7, 8, 16, 17, 18, 19, 20, 21, 22, 23, 24, 25, 26, 27, 28, 29, 30, 31, 32, 33, 34, 35, 36, 37, 38, 39, 40, 41, 42, 43, 44, 45, 46, 47, 48, 49, 50, 51, 52, 53, 54, 55, 56, 57, 58, 59, 60, 61, 62, 63, 64, 65] [] (false, [], a0.s, (wr .i64 (a0.at_ + 1))) () h (fun _ => rfl) (by first | (simp (disch := omega) only [vm, seval, h.1]; done) | rfl) (by first | (simp (disch := omega) only [vm, seval, h.1]; done) | rfl) ?_⟩
 clear h
 rintro k5 ⟨bn_addr, bn_buf, bi0_s, bi0_at_⟩ _ nL0_1 hnL0_1 _ h Jk5 hk5
 change _ ∧ BV N k2 (k5 + 1) bn_addr bn_buf bi0_s bi0_at_ = _ at h
 rw [BV] at h
 refine AB (.q (.q .z (.c .z .z)) (.q (.r []) (.q (.q .z (.q (.r []) (.c (.q (.r []) (.q (.r []) .z)) (.q (.r []) (.c (.r []) (.q (.r []) (.c (.q (.r []) .z) .z))))))) (.q (.r []) (.q (.q (.r []) (.c (.q (.r []) .z) .z)) (.r [])))))) ?_
 simp (disch := omega) only [vm, seval, h.1]
 refine ⟨Au [] (.take 0 (.take 1 (.take 2 (.take 3 (.take 4 (.take 5 (.take 6 (.take 7 (.take 8 (.take 9 (.done))))))))))) Ah (by kernel_rfl) ?_⟩
 replace h := AJ h
 rcases h with h | h
 replace h := AC h
 obtain ⟨x6, h⟩ := h
 simp (disch := omega) only [vm, seval, h.1]
 refine ⟨Au [] (.take 0 (.take 1 (.take 2 (.take 3 (.take 4 (.take 5 (.take 6 (.take 7 (.take 8 (.alt 9 [] (.done) (.stop))))))))))) Ah (by kernel_rfl) ?_⟩
 replace h := AJ h
 rcases h with h | h
 replace h := AC h
 obtain ⟨y7, h⟩ := h
 simp (disch := omega) only [vm, seval, h.1]
 refine ⟨JZ h.1.1 (by first | (simp (disch := omega) only [vm, seval, h.1]; done) | rfl) (i0 := n) (by simp (disch := omega) only [vm, seval, h.1]) fun n8 hn8 => ?_⟩
 obtain ⟨H, h⟩ := h
 cases h
 simp (disch := omega) only [vm, seval, H]
 refine ⟨(hR _ _ _ _ _ _ (by simp (disch := omega) only [vm, seval, H]; rfl) (.cons _ slr) ?_ (by omega) ?_).1⟩ <;> first | (simp (disch := omega) only [vm, seval, H]; done) | rfl
 replace h := AJ h
 rcases h with h | h
 replace h := AC h
 obtain ⟨y9, h⟩ := h
 simp (disch := omega) only [vm, seval, h.1]
 refine ⟨KT h.1.1 (by first | (simp (disch := omega) only [vm, seval, h.1]; done) | rfl) (i0 := i0) (by simp (disch := omega) only [vm, seval, h.1]) fun n10 hn10 => ?_⟩
 replace h := AJ h
 rcases h with h | h
 obtain ⟨H, h⟩ := h
 cases h
 simp (disch := omega) only [vm, seval, H]
 refine ⟨(hR _ _ _ _ _ _ (by simp (disch := omega) only [vm, seval, H]; rfl) (.cons _ slr) ?_ (by omega) ?_).1⟩ <;> first | (simp (disch := omega) only [vm, seval, H]; done) | rfl
 replace h := AC h
 obtain ⟨y11, h⟩ := h
 simp (disch := omega) only [vm, seval, h.1]
 refine ⟨Eo h.1.1 (by first | (simp (disch := omega) only [vm, seval, h.1]; done) | rfl) (i0 := n) (by simp (disch := omega) only [vm, seval, h.1]) fun n12 hn12 => ?_⟩
 simp (disch := omega) only [vm, seval, h.1]
 refine ⟨hk5 (y11.2.2.addr, y11.2.2.buf, y9.2.2.s, y9.2.2.at_) () _ _ _ _ h.2 slr ?_ ?_ ?_ (by omega)⟩ <;> first | (simp (disch := omega) only [vm, seval, h.1]; done) | rfl
 replace h := AJ h
 rcases h with h | h
 obtain ⟨H, h⟩ := h
 cases h
 simp (disch := omega) only [vm, seval, H]
 refine ⟨(hR _ _ _ _ _ _ (by simp (disch := omega) only [vm, seval, H]; rfl) (.cons _ slr) ?_ (by omega) ?_).1⟩ <;> first | (simp (disch := omega) only [vm, seval, H]; done) | rfl
 replace h := AC h
 obtain ⟨y13, h⟩ := h
 simp (disch := omega) only [vm, seval, h.1]
 refine ⟨La h.1.1 (by first | (simp (disch := omega) only [vm, seval, h.1]; done) | rfl) (i0 := i0) (by simp (disch := omega) only [vm, seval, h.1]) fun n14 hn14 => ?_⟩
 replace h := AJ h
 rcases h with h | h
 obtain ⟨H, h⟩ := h
 cases h
 simp (disch := omega) only [vm, seval, H]
 refine ⟨(hR _ _ _ _ _ _ (by simp (disch := omega) only [vm, seval, H]; rfl) (.cons _ slr) ?_ (by omega) ?_).1⟩ <;> first | (simp (disch := omega) only [vm, seval, H]; done) | rfl
 replace h := AC h
 obtain ⟨y15, h⟩ := h
 simp (disch := omega) only [vm, seval, h.1]
 refine ⟨Eo h.1.1 (by first | (simp (disch := omega) only [vm, seval, h.1]; done) | rfl) (i0 := n) (by simp (disch := omega) only [vm, seval, h.1]) fun n16 hn16 => ?_⟩
 simp (disch := omega) only [vm, seval, h.1]
 refine ⟨hk5 (y15.2.2.addr, y15.2.2.buf, y13.2.2.s, y13.2.2.at_) () _ _ _ _ h.2 slr ?_ ?_ ?_ (by omega)⟩ <;> first | (simp (disch := omega) only [vm, seval, h.1]; done) | rfl
 simp (disch := omega) only [vm, seval, h.1]
 refine ⟨hk2 (bn_addr, bn_buf, bi0_s, bi0_at_) () _ _ _ _ h.2 slr ?_ ?_ ?_ (by omega)⟩ <;> first | (simp (disch := omega) only [vm, seval, h.1]; done) | rfl
theorem OG {a0 r} (h : Fa N a0 = some r) (ha : args = [.str a0]) (hQ : ∀ n', n ≤ n' → Gl (Q (.int .i64 r) ⟨m, n'⟩)) : ACall vE 81 args ⟨m, n⟩ Q := by
 rw [Fa] at h
 subst ha
 refine ent hQ Tryz.func81 rfl Tryz.ntmps81 Tryz.results81 (.q (.r []) (.q (.r []) (.q (.r []) .z))) fun R hR => ?_
 replace h := And.intro trivial h
 replace h := AC h
 obtain ⟨y1, h⟩ := h
 simp (disch := omega) only [vm, seval, h.1]
 refine ⟨I7 h.1.1 (by first | (simp (disch := omega) only [vm, seval, h.1]; done) | rfl) fun n2 hn2 => ?_⟩
 replace h := AC h
 obtain ⟨y3, h⟩ := h
 simp (disch := omega) only [vm, seval, h.1]
 refine ⟨Qg h.1.1 (by first | (simp (disch := omega) only [vm, seval, h.1]; done) | rfl) fun n4 hn4 => ?_⟩
 simp (disch := omega) only [vm, seval, h.1]
 refine ⟨AU (γ := Unit) h [2, 13, 14, 15, 16, 17, 18] [4] (fun j5 g => [.int .u64 j5]) (fun j5 g => m) (.q (.r []) (.c (.q (.r []) .z) (.q (.r []) (.c (.r []) .z)))) ?_ ?_⟩ <;> clear h
 rintro j5 _ n8 hnn8 _ _ h
 refine AB (.q (.q (.r []) (.c (.q (.r []) .z) .z)) (.q (.r []) .z)) ?_
 replace h := AC h
 obtain ⟨y9, h⟩ := h
 simp (disch := omega) only [vm, seval, h.1]
 refine ⟨Lb h.1.1 (by first | (simp (disch := omega) only [vm, seval, h.1]; done) | rfl) fun n10 hn10 => ?_⟩
 replace h := AJ h
 rcases h with h | h
 obtain ⟨H, h⟩ := h
 cases h
 simp (disch := omega) only [vm, seval, H]
 refine ⟨(hR _ _ _ _ _ _ (by simp (disch := omega) only [vm, seval, H]; rfl) slr ?_ (by omega) ?_).1⟩ <;> first | (simp (disch := omega) only [vm, seval, H]; done) | rfl
 obtain ⟨H, h⟩ := h
 cases h
 simp (disch := omega) only [vm, seval, H]
 refine ⟨(hR _ _ _ _ _ _ (by simp (disch := omega) only [vm, seval, H]; rfl) slr ?_ (by omega) ?_).1⟩ <;> first | (simp (disch := omega) only [vm, seval, H]; done) | rfl
 intro k6 Jk6 hk6 h
 replace h := AJ h
 rcases h with h | h
 obtain ⟨H, h⟩ := h
 cases h
 simp (disch := omega) only [vm, seval, H]
 refine ⟨(hR _ _ _ _ _ _ (by simp (disch := omega) only [vm, seval, H]; rfl) slr ?_ (by omega) ?_).1⟩ <;> first | (simp (disch := omega) only [vm, seval, H]; done) | rfl
 replace h := AJ h
 rcases h with h | h
 simp (disch := omega) only [vm, seval, h.1]
 refine ⟨hk6 1099511627776 () _ _ _ _ h.2 slr ?_ ?_ ?_ (by omega)⟩ <;> first | (simp (disch := omega) only [vm, seval, h.1]; done) | rfl
 simp (disch := omega) only [vm, seval, h.1]
 refine ⟨hk6 y3.1 () _ _ _ _ h.2 slr ?_ ?_ ?_ (by omega)⟩ <;> first | (simp (disch := omega) only [vm, seval, h.1]; done) | rfl
theorem PO (N : Nat) : ∀ D : Nat, (∀ {a0 : ApiValue} {r : Bool} (h : DJ N D a0 = some r) {args : List AVal} {n : Nat} {m : MS} (ha : args = [AA a0]) {Q : PQ} (hQ : ∀ n', n ≤ n' → Gl (Q (.bool r) ⟨m, n'⟩)), ACall vE 45 args ⟨m, n⟩ Q) := by
 intro D
 induction D with
 | zero =>
  intro a0 r h
  simp only [DJ, reduceCtorEq] at h
 | succ D ih_ref15_shape =>
  intro a0 r h args n m ha Q hQ
  rw [DJ] at h
  subst ha
  refine Lp hQ Tryz.func45 rfl Tryz.ntmps45 Tryz.results45 (.q (.r []) .z) fun R hR => ?_
  replace h := And.intro trivial h
  simp (disch := omega) only [vm, seval, h.1]
  refine ⟨AU (γ := Unit) h [2, 3, 4, 7, 8, 9, 10, 11, 12, 13, 14, 15, 16, 17, 18, 19, 20, 21, 22, 23, 24, 25, 26, 27, 28, 29, 30, 31, 32, 33, 34, 35, 36, 37, 38, 39, 40, 41, 42, 43, 44, 45, 46, 47, 48, 49, 50, 51, 52, 53, 54, 55, 56, 57, 58, 59, 60, 61, 62, 63, 64, 65, 66, 67, 68, 69, 70, 71, 72, 73, 74, 75, 76, 77, 78, 79, 80, 81, 82, 83, 84, 85, 86, 87, 88, 89, 90, 91, 92, 93, 94, 95, 96, 97, 98, 99, 100, 101, 102, 103] [] (fun j1 g => []) (fun j1 g => (n, [.int .i64 a0.kind, .str a0.text, .slice 1 (List.map AVal.str a0.keys) false, .slice 4 (List.map AA a0.items) false]) :: m) (.q (.r []) .z) ?_ ?_⟩ <;> clear h
  rintro j1 _ n4 hnn4 _ _ h
  refine AB .z ?_
  simp (disch := omega) only [vm, seval, h.1]
  refine ⟨AU (γ := Unit) h [2, 6, 104, 105, 106, 107, 108, 109, 110, 111, 112, 113, 114] [] (fun j23 g => []) (fun j23 g => (n, [.int .i64 a0.kind, .str a0.text, .slice 1 (List.map AVal.str a0.keys) false, .slice 4 (List.map AA a0.items) false]) :: m) (.q (.r []) .z) ?_ ?_⟩ <;> clear h
  rintro j23 _ n26 hnn26 _ _ h
  refine AB (.q (.r []) .z) ?_
  obtain ⟨H, h⟩ := h
  cases h
  simp (disch := omega) only [vm, seval, H]
  refine ⟨(hR _ _ _ _ _ _ (by simp (disch := omega) only [vm, seval, H]; rfl) (.cons _ slr) ?_ (by omega) ?_).1⟩ <;> first | (simp (disch := omega) only [vm, seval, H]; done) | rfl
  intro k24 Jk24 hk24 h
  replace h := Ac h
  obtain ⟨hfk27, h⟩ := h
  simp (disch := omega) only [vm, seval, h.1]
  refine ⟨Da (σ := Unit) (γ := Unit) a0.items hfk27 (fun xs i s => CO N (DJ N D) k24 xs) (fun i s g => [.int .i64 i]) (fun i s g => (n, [.int .i64 a0.kind, .str a0.text, .slice 1 (List.map AVal.str a0.keys) false, .slice 4 (List.map AA a0.items) false]) :: m) [2, 6, 108, 109, 110, 111, 112, 113, 114] [107] () () h (by first | (simp (disch := omega) only [vm, seval, h.1]; done) | rfl) (by first | (simp (disch := omega) only [vm, seval, h.1]; done) | rfl) ?_ ?_⟩ <;> clear h
  rintro s107 _ _ nL0_1 hnL0_1 _ h
  change _ ∧ CO N (DJ N D) k24 [] = _ at h
  rw [CO] at h
  refine AB (.q (.r []) (.q (.c .z .z) (.q (.q (.r []) (.q (.r []) (.c (.q (.r []) .z) .z))) (.r [])))) ?_
  simp (disch := omega) only [vm, seval, h.1]
  refine ⟨hk24 () () _ _ _ _ h.2 slr ?_ ?_ ?_ (by omega)⟩ <;> first | (simp (disch := omega) only [vm, seval, h.1]; done) | rfl
  rintro xk27 xsk27 s107 _ _ nL0_1 hnL0_1 _ h Jk27 hk27
  change _ ∧ CO N (DJ N D) k24 (xk27 :: xsk27) = _ at h
  rw [CO] at h
  refine AB (.q (.r []) (.q (.c .z .z) (.q (.q (.r []) (.q (.r []) (.c (.q (.r []) .z) .z))) (.r [])))) ?_
  replace h := AC h
  obtain ⟨y28, h⟩ := h
  simp (disch := omega) only [vm, seval, h.1]
  refine ⟨ih_ref15_shape h.1.1 (by first | (simp (disch := omega) only [vm, seval, h.1]; done) | rfl) fun n29 hn29 => ?_⟩
  replace h := AJ h
  rcases h with h | h
  simp (disch := omega) only [vm, seval, h.1]
  refine ⟨hk27 () () _ _ _ _ h.2 (.cons _ slr) ?_ ?_ ?_ (by omega)⟩ <;> first | (simp (disch := omega) only [vm, seval, h.1]; done) | rfl
  obtain ⟨H, h⟩ := h
  cases h
  simp (disch := omega) only [vm, seval, H]
  refine ⟨(hR _ _ _ _ _ _ (by simp (disch := omega) only [vm, seval, H]; rfl) (.cons _ (.cons _ slr)) ?_ (by omega) ?_).1⟩ <;> first | (simp (disch := omega) only [vm, seval, H]; done) | rfl
  intro k2 Jk2 hk2 h
  simp (disch := omega) only [vm, seval, h.1]
  refine ⟨AU (γ := Unit) h [10, 11, 12] [9] (fun j5 g => [.bool j5]) (fun j5 g => (n, [.int .i64 a0.kind, .str a0.text, .slice 1 (List.map AVal.str a0.keys) false, .slice 4 (List.map AA a0.items) false]) :: m) (.q (.r []) (.c .z (.q (.r []) (.c .z (.r []))))) ?_ ?_⟩ <;> clear h
  rintro j5 _ n8 hnn8 _ _ h
  refine AB (.c (.q (.r []) .z) (.q (.r []) (.c (.q (.r []) (.q (.r []) .z)) (.q (.r []) (.c (.q (.r []) .z) (.q (.r []) (.c .z (.q (.r []) (.c .z (.q (.r []) .z)))))))))) ?_
  replace h := AJ h
  rcases h with h | h
  replace h := AJ h
  rcases h with h | h
  replace h := AJ h
  rcases h with h | h
  obtain ⟨H, h⟩ := h
  cases h
  simp (disch := omega) only [vm, seval, H]
  refine ⟨(hR _ _ _ _ _ _ (by simp (disch := omega) only [vm, seval, H]; rfl) (.cons _ slr) ?_ (by omega) ?_).1⟩ <;> first | (simp (disch := omega) only [vm, seval, H]; done) | rfl
  obtain ⟨H, h⟩ := h
  cases h
  simp (disch := omega) only [vm, seval, H]
  refine ⟨(hR _ _ _ _ _ _ (by simp (disch := omega) only [vm, seval, H]; rfl) (.cons _ slr) ?_ (by omega) ?_).1⟩ <;> first | (simp (disch := omega) only [vm, seval, H]; done) | rfl
  obtain ⟨H, h⟩ := h
  cases h
  simp (disch := omega) only [vm, seval, H]
  refine ⟨(hR _ _ _ _ _ _ (by simp (disch := omega) only [vm, seval, H]; rfl) (.cons _ slr) ?_ (by omega) ?_).1⟩ <;> first | (simp (disch := omega) only [vm, seval, H]; done) | rfl
  replace h := AJ h
  rcases h with h | h
  replace h := AC h
  obtain ⟨y9, h⟩ := h
  simp (disch := omega) only [vm, seval, h.1]
  refine ⟨Px h.1.1 (by first | (simp (disch := omega) only [vm, seval, h.1]; done) | rfl) fun n10 hn10 => ?_⟩
  replace h := AJ h
  rcases h with h | h
  replace h := AJ h
  rcases h with h | h
  replace h := AJ h
  rcases h with h | h
  obtain ⟨H, h⟩ := h
  cases h
  simp (disch := omega) only [vm, seval, H]
  refine ⟨(hR _ _ _ _ _ _ (by simp (disch := omega) only [vm, seval, H]; rfl) (.cons _ slr) ?_ (by omega) ?_).1⟩ <;> first | (simp (disch := omega) only [vm, seval, H]; done) | rfl
  obtain ⟨H, h⟩ := h
  cases h
  simp (disch := omega) only [vm, seval, H]
  refine ⟨(hR _ _ _ _ _ _ (by simp (disch := omega) only [vm, seval, H]; rfl) (.cons _ slr) ?_ (by omega) ?_).1⟩ <;> first | (simp (disch := omega) only [vm, seval, H]; done) | rfl
  obtain ⟨H, h⟩ := h
  cases h
  simp (disch := omega) only [vm, seval, H]
  refine ⟨(hR _ _ _ _ _ _ (by simp (disch := omega) only [vm, seval, H]; rfl) (.cons _ slr) ?_ (by omega) ?_).1⟩ <;> first | (simp (disch := omega) only [vm, seval, H]; done) | rfl
  obtain ⟨H, h⟩ := h
  cases h
  simp (disch := omega) only [vm, seval, H]
  refine ⟨(hR _ _ _ _ _ _ (by simp (disch := omega) only [vm, seval, H]; rfl) (.cons _ slr) ?_ (by omega) ?_).1⟩ <;> first | (simp (disch := omega) only [vm, seval, H]; done) | rfl
  replace h := AJ h
  rcases h with h | h
  replace h := AC h
  obtain ⟨y11, h⟩ := h
  simp (disch := omega) only [vm, seval, h.1]
  refine ⟨JR h.1.1 (by first | (simp (disch := omega) only [vm, seval, h.1]; done) | rfl) fun n12 hn12 => ?_⟩
  replace h := AJ h
  rcases h with h | h
  replace h := AJ h
  rcases h with h | h
  obtain ⟨H, h⟩ := h
  cases h
  simp (disch := omega) only [vm, seval, H]
  refine ⟨(hR _ _ _ _ _ _ (by simp (disch := omega) only [vm, seval, H]; rfl) (.cons _ slr) ?_ (by omega) ?_).1⟩ <;> first | (simp (disch := omega) only [vm, seval, H]; done) | rfl
  obtain ⟨H, h⟩ := h
  cases h
  simp (disch := omega) only [vm, seval, H]
  refine ⟨(hR _ _ _ _ _ _ (by simp (disch := omega) only [vm, seval, H]; rfl) (.cons _ slr) ?_ (by omega) ?_).1⟩ <;> first | (simp (disch := omega) only [vm, seval, H]; done) | rfl
  obtain ⟨H, h⟩ := h
  cases h
  simp (disch := omega) only [vm, seval, H]
  refine ⟨(hR _ _ _ _ _ _ (by simp (disch := omega) only [vm, seval, H]; rfl) (.cons _ slr) ?_ (by omega) ?_).1⟩ <;> first | (simp (disch := omega) only [vm, seval, H]; done) | rfl
  replace h := AJ h
  rcases h with h | h
  simp (disch := omega) only [vm, seval, h.1]
  refine ⟨AU (γ := Unit) h [75, 76, 77, 78, 79, 80, 81, 82] [83] (fun j13 g => [.bool j13]) (fun j13 g => (n, [.int .i64 a0.kind, .str a0.text, .slice 1 (List.map AVal.str a0.keys) false, .slice 4 (List.map AA a0.items) false]) :: m) (.r []) ?_ ?_⟩ <;> clear h
  rintro j13 _ n16 hnn16 _ _ h
  refine AB (.c (.q (.r []) .z) .z) ?_
  replace h := AJ h
  rcases h with h | h
  obtain ⟨H, h⟩ := h
  cases h
  simp (disch := omega) only [vm, seval, H]
  refine ⟨(hR _ _ _ _ _ _ (by simp (disch := omega) only [vm, seval, H]; rfl) (.cons _ slr) ?_ (by omega) ?_).1⟩ <;> first | (simp (disch := omega) only [vm, seval, H]; done) | rfl
  simp (disch := omega) only [vm, seval, h.1]
  refine ⟨hk2 () () _ _ _ _ h.2 slr ?_ ?_ ?_ (by omega)⟩ <;> first | (simp (disch := omega) only [vm, seval, h.1]; done) | rfl
  intro k14 Jk14 hk14 h
  replace h := AJ h
  rcases h with h | h
  simp (disch := omega) only [vm, seval, h.1]
  refine ⟨hk14 ((a0.keys.length : Int) != 0) () _ _ _ _ h.2 slr ?_ ?_ ?_ (by omega)⟩ <;> first | (simp (disch := omega) only [vm, seval, h.1]; done) | rfl
  simp (disch := omega) only [vm, seval, h.1]
  refine ⟨hk14 true () _ _ _ _ h.2 slr ?_ ?_ ?_ (by omega)⟩ <;> first | (simp (disch := omega) only [vm, seval, h.1]; done) | rfl
  replace h := AJ h
  rcases h with h | h
  simp (disch := omega) only [vm, seval, h.1]
  refine ⟨AU (γ := Unit) h [86, 87, 88, 89, 90, 91, 92, 93, 94, 95, 96, 97, 98, 99, 100, 101, 102] [103] (fun j17 g => [.bool j17]) (fun j17 g => (n, [.int .i64 a0.kind, .str a0.text, .slice 1 (List.map AVal.str a0.keys) false, .slice 4 (List.map AA a0.items) false]) :: m) (.r []) ?_ ?_⟩ <;> clear h
  rintro j17 _ n20 hnn20 _ _ h
  refine AB (.c (.q (.r []) .z) .z) ?_
  replace h := AJ h
  rcases h with h | h
  obtain ⟨H, h⟩ := h
  cases h
  simp (disch := omega) only [vm, seval, H]
  refine ⟨(hR _ _ _ _ _ _ (by simp (disch := omega) only [vm, seval, H]; rfl) (.cons _ slr) ?_ (by omega) ?_).1⟩ <;> first | (simp (disch := omega) only [vm, seval, H]; done) | rfl
  simp (disch := omega) only [vm, seval, h.1]
  refine ⟨hk2 () () _ _ _ _ h.2 slr ?_ ?_ ?_ (by omega)⟩ <;> first | (simp (disch := omega) only [vm, seval, h.1]; done) | rfl
  intro k18 Jk18 hk18 h
  replace h := AJ h
  rcases h with h | h
  replace h := AJ h
  rcases h with h | h
  simp (disch := omega) only [vm, seval, h.1]
  refine ⟨hk18 true () _ _ _ _ h.2 slr ?_ ?_ ?_ (by omega)⟩ <;> first | (simp (disch := omega) only [vm, seval, h.1]; done) | rfl
  replace h := AC h
  obtain ⟨y21, h⟩ := h
  simp (disch := omega) only [vm, seval, h.1]
  refine ⟨Mx h.1.1 (by first | (simp (disch := omega) only [vm, seval, h.1]; done) | rfl) fun n22 hn22 => ?_⟩
  simp (disch := omega) only [vm, seval, h.1]
  refine ⟨hk18 (!y21) () _ _ _ _ h.2 slr ?_ ?_ ?_ (by omega)⟩ <;> first | (simp (disch := omega) only [vm, seval, h.1]; done) | rfl
  simp (disch := omega) only [vm, seval, h.1]
  refine ⟨hk18 true () _ _ _ _ h.2 slr ?_ ?_ ?_ (by omega)⟩ <;> first | (simp (disch := omega) only [vm, seval, h.1]; done) | rfl
  obtain ⟨H, h⟩ := h
  cases h
  simp (disch := omega) only [vm, seval, H]
  refine ⟨(hR _ _ _ _ _ _ (by simp (disch := omega) only [vm, seval, H]; rfl) (.cons _ slr) ?_ (by omega) ?_).1⟩ <;> first | (simp (disch := omega) only [vm, seval, H]; done) | rfl
  intro k6 Jk6 hk6 h
  replace h := AJ h
  rcases h with h | h
  simp (disch := omega) only [vm, seval, h.1]
  refine ⟨hk6 (a0.kind == 1) () _ _ _ _ h.2 slr ?_ ?_ ?_ (by omega)⟩ <;> first | (simp (disch := omega) only [vm, seval, h.1]; done) | rfl
  replace h := AJ h
  rcases h with h | h
  simp (disch := omega) only [vm, seval, h.1]
  refine ⟨hk6 (a0.kind == 3) () _ _ _ _ h.2 slr ?_ ?_ ?_ (by omega)⟩ <;> first | (simp (disch := omega) only [vm, seval, h.1]; done) | rfl
  simp (disch := omega) only [vm, seval, h.1]
  refine ⟨hk6 (a0.kind == 2) () _ _ _ _ h.2 slr ?_ ?_ ?_ (by omega)⟩ <;> first | (simp (disch := omega) only [vm, seval, h.1]; done) | rfl
theorem Ro {a0 r} (h : DJ N N a0 = some r) (ha : args = [AA a0]) (hQ : ∀ n', n ≤ n' → Gl (Q (.bool r) ⟨m, n'⟩)) : ACall vE 45 args ⟨m, n⟩ Q :=
 (PO N N h ha hQ)
theorem PL (N : Nat) : ∀ D : Nat, (∀ {a0 : ApiValue} {r : (List UInt8)} (h : Cs N D a0 = some r) {args : List AVal} {n : Nat} {m : MS} (ha : args = [AA a0]) {Q : PQ} (hQ : ∀ n', n ≤ n' → Gl (Q (.str r) ⟨m, n'⟩)), ACall vE 42 args ⟨m, n⟩ Q) := by
 intro D
 induction D with
 | zero =>
  intro a0 r h
  simp only [Cs, reduceCtorEq] at h
 | succ D ih_ref15_write =>
  intro a0 r h args n m ha Q hQ
  rw [Cs] at h
  subst ha
  refine Lp hQ Tryz.func42 rfl Tryz.ntmps42 Tryz.results42 (.q (.r []) (.q (.q (.r []) (.q (.r []) (.c (.q (.r []) .z) (.q (.r []) (.c (.q (.r []) .z) (.q (.r []) (.c (.q (.r []) .z) (.q (.r []) (.c (.q (.r []) .z) (.q (.r []) (.c (.q (.r []) (.q (.r []) .z)) .z))))))))))) (.q (.r []) .z))) fun R hR => ?_
  replace h := And.intro trivial h
  replace h := AJ h
  rcases h with h | h
  obtain ⟨H, h⟩ := h
  cases h
  simp (disch := omega) only [vm, seval, H]
  refine ⟨(hR _ _ _ _ _ _ (by simp (disch := omega) only [vm, seval, H]; rfl) (.cons _ slr) ?_ (by omega) ?_).1⟩ <;> first | (simp (disch := omega) only [vm, seval, H]; done) | rfl
  replace h := AJ h
  rcases h with h | h
  obtain ⟨H, h⟩ := h
  cases h
  simp (disch := omega) only [vm, seval, H]
  refine ⟨(hR _ _ _ _ _ _ (by simp (disch := omega) only [vm, seval, H]; rfl) (.cons _ slr) ?_ (by omega) ?_).1⟩ <;> first | (simp (disch := omega) only [vm, seval, H]; done) | rfl
  replace h := AJ h
  rcases h with h | h
  obtain ⟨H, h⟩ := h
  cases h
  simp (disch := omega) only [vm, seval, H]
  refine ⟨(hR _ _ _ _ _ _ (by simp (disch := omega) only [vm, seval, H]; rfl) (.cons _ slr) ?_ (by omega) ?_).1⟩ <;> first | (simp (disch := omega) only [vm, seval, H]; done) | rfl
  replace h := AJ h
  rcases h with h | h
  obtain ⟨H, h⟩ := h
  cases h
  simp (disch := omega) only [vm, seval, H]
  refine ⟨(hR _ _ _ _ _ _ (by simp (disch := omega) only [vm, seval, H]; rfl) (.cons _ slr) ?_ (by omega) ?_).1⟩ <;> first | (simp (disch := omega) only [vm, seval, H]; done) | rfl
  replace h := AJ h
  rcases h with h | h
  replace h := AC h
  obtain ⟨y1, h⟩ := h
  simp (disch := omega) only [vm, seval, h.1]
  refine ⟨Lf h.1.1 (by first | (simp (disch := omega) only [vm, seval, h.1]; done) | rfl) fun n2 hn2 => ?_⟩
  obtain ⟨H, h⟩ := h
  cases h
  simp (disch := omega) only [vm, seval, H]
  refine ⟨(hR _ _ _ _ _ _ (by simp (disch := omega) only [vm, seval, H]; rfl) (.cons _ slr) ?_ (by omega) ?_).1⟩ <;> first | (simp (disch := omega) only [vm, seval, H]; done) | rfl
  simp (disch := omega) only [vm, seval, h.1]
  refine ⟨AU (γ := Unit) h [6, 7, 8, 9, 31, 32, 33, 34, 35, 36, 37, 38, 39, 40, 41, 42, 43, 44, 45, 46, 47, 48, 49, 50, 51, 52, 53, 54, 55, 56, 57, 58, 59, 60, 61, 62, 63, 64, 65] [5] (fun j3 g => [.slice 1 (List.map (AVal.int .u8) j3) true]) (fun j3 g => (n, [.int .i64 a0.kind, .str a0.text, .slice 1 (List.map AVal.str a0.keys) false, .slice 4 (List.map AA a0.items) false]) :: m) (.q (.r []) .z) ?_ ?_⟩ <;> clear h
  rintro j3 _ n6 hnn6 _ _ h
  refine AB (.q (.q (.r []) (.c (.q (.r []) .z) .z)) (.q (.r []) .z)) ?_
  replace h := AJ h
  rcases h with h | h
  replace h := Ac h
  obtain ⟨c, h⟩ := h
  try simp only [liE, seval] at c
  replace h := Aa c h
  replace h := Ac h
  obtain ⟨c, h⟩ := h
  try simp only [liE, seval] at c
  replace h := Aa c h
  obtain ⟨H, h⟩ := h
  cases h
  simp (disch := omega) only [vm, seval, H]
  refine ⟨(hR _ _ _ _ _ _ (by simp (disch := omega) only [vm, seval, H]; rfl) (.cons _ slr) ?_ (by omega) ?_).1⟩ <;> first | (simp (disch := omega) only [vm, seval, H]; done) | rfl
  replace h := Ac h
  obtain ⟨c, h⟩ := h
  try simp only [liE, seval] at c
  replace h := Aa c h
  replace h := Ac h
  obtain ⟨c, h⟩ := h
  try simp only [liE, seval] at c
  replace h := Aa c h
  obtain ⟨H, h⟩ := h
  cases h
  simp (disch := omega) only [vm, seval, H]
  refine ⟨(hR _ _ _ _ _ _ (by simp (disch := omega) only [vm, seval, H]; rfl) (.cons _ slr) ?_ (by omega) ?_).1⟩ <;> first | (simp (disch := omega) only [vm, seval, H]; done) | rfl
  intro k4 Jk4 hk4 h
  replace h := Ac h
  obtain ⟨hfk7, h⟩ := h
  simp (disch := omega) only [vm, seval, h.1]
  refine ⟨Da (σ := (List Int)) (γ := Unit) a0.items hfk7 (fun xs i s => BP N a0 (Cs N D) k4 xs i s) (fun i s g => [.slice 1 (List.map (AVal.int .u8) s) true, .int .i64 i]) (fun i s g => (n, [.int .i64 a0.kind, .str a0.text, .slice 1 (List.map AVal.str a0.keys) false, .slice 4 (List.map AA a0.items) false]) :: m) [6, 7, 8, 9, 35, 36, 37, 38, 39, 40, 41, 42, 43, 44, 45, 46, 47, 48, 49, 50, 51, 52, 53, 54, 55, 56, 57, 58, 59, 60, 61, 62, 63, 64, 65] [5, 34] [] () h (by first | (simp (disch := omega) only [vm, seval, h.1]; done) | rfl) (by first | (simp (disch := omega) only [vm, seval, h.1]; done) | rfl) ?_ ?_⟩ <;> clear h
  rintro s34 s5 _ nL0_1 hnL0_1 _ h
  change _ ∧ BP N a0 (Cs N D) k4 [] s34 s5 = _ at h
  rw [BP] at h
  refine AB (.q (.r []) (.q (.c .z .z) (.q (.q (.r []) .z) (.r [])))) ?_
  simp (disch := omega) only [vm, seval, h.1]
  refine ⟨hk4 s5 () _ _ _ _ h.2 slr ?_ ?_ ?_ (by omega)⟩ <;> first | (simp (disch := omega) only [vm, seval, h.1]; done) | rfl
  rintro xk7 xsk7 s34 s5 _ nL0_1 hnL0_1 _ h Jk7 hk7
  change _ ∧ BP N a0 (Cs N D) k4 (xk7 :: xsk7) s34 s5 = _ at h
  rw [BP] at h
  refine AB (.q (.r []) (.q (.c .z .z) (.q (.q (.r []) .z) (.r [])))) ?_
  simp (disch := omega) only [vm, seval, h.1]
  refine ⟨AU (γ := Unit) h [39, 40, 41, 42, 43] [5] (fun j8 g => [.slice 1 (List.map (AVal.int .u8) j8) true]) (fun j8 g => (nL0_1, [.int .i64 xk7.kind, .str xk7.text, .slice 1 (List.map AVal.str xk7.keys) false, .slice 4 (List.map AA xk7.items) false]) :: (n, [.int .i64 a0.kind, .str a0.text, .slice 1 (List.map AVal.str a0.keys) false, .slice 4 (List.map AA a0.items) false]) :: m) (.q (.r []) (.c (.r [41]) .z)) ?_ ?_⟩ <;> clear h
  rintro j8 _ n11 hnn11 _ _ h
  refine AB .z ?_
  simp (disch := omega) only [vm, seval, h.1]
  refine ⟨AU (γ := Unit) h [8, 9, 44, 45, 46, 47, 48, 49, 50, 51, 52, 53, 54, 55, 56, 57, 58, 59, 60] [5] (fun j12 g => [.slice 1 (List.map (AVal.int .u8) j12) true]) (fun j12 g => (nL0_1, [.int .i64 xk7.kind, .str xk7.text, .slice 1 (List.map AVal.str xk7.keys) false, .slice 4 (List.map AA xk7.items) false]) :: (n, [.int .i64 a0.kind, .str a0.text, .slice 1 (List.map AVal.str a0.keys) false, .slice 4 (List.map AA a0.items) false]) :: m) (.q (.r []) (.c (.q (.r []) (.r [56])) .z)) ?_ ?_⟩ <;> clear h
  rintro j12 _ n15 hnn15 _ _ h
  refine AB (.r [61]) ?_
  replace h := AC h
  obtain ⟨y19, h⟩ := h
  simp (disch := omega) only [vm, seval, h.1]
  refine ⟨ih_ref15_write h.1.1 (by first | (simp (disch := omega) only [vm, seval, h.1]; done) | rfl) fun n20 hn20 => ?_⟩
  replace h := Ac h
  obtain ⟨c, h⟩ := h
  try simp only [liE, seval] at c
  replace h := Aa c h
  simp (disch := omega) only [vm, seval, h.1]
  refine ⟨hk7 (j12 ++ (List.map AL y19)) () _ _ _ _ h.2 (.cons _ slr) ?_ ?_ ?_ (by omega)⟩ <;> first | (simp (disch := omega) only [vm, seval, h.1]; done) | rfl
  intro k13 Jk13 hk13 h
  replace h := AJ h
  rcases h with h | h
  replace h := AC h
  obtain ⟨x16, h⟩ := h
  replace h := AC h
  obtain ⟨y17, h⟩ := h
  simp (disch := omega) only [vm, seval, h.1]
  refine ⟨Lf h.1.1 (by first | (simp (disch := omega) only [vm, seval, h.1]; done) | rfl) fun n18 hn18 => ?_⟩
  replace h := Ac h
  obtain ⟨c, h⟩ := h
  try simp only [liE, seval] at c
  replace h := Aa c h
  replace h := Ac h
  obtain ⟨c, h⟩ := h
  try simp only [liE, seval] at c
  replace h := Aa c h
  simp (disch := omega) only [vm, seval, h.1]
  refine ⟨hk13 ((j8 ++ (List.map AL y17.1)) ++ [58]) () _ _ _ _ h.2 slr ?_ ?_ ?_ (by omega)⟩ <;> first | (simp (disch := omega) only [vm, seval, h.1]; done) | rfl
  simp (disch := omega) only [vm, seval, h.1]
  refine ⟨hk13 j8 () _ _ _ _ h.2 slr ?_ ?_ ?_ (by omega)⟩ <;> first | (simp (disch := omega) only [vm, seval, h.1]; done) | rfl
  intro k9 Jk9 hk9 h
  replace h := AJ h
  rcases h with h | h
  replace h := Ac h
  obtain ⟨c, h⟩ := h
  try simp only [liE, seval] at c
  replace h := Aa c h
  simp (disch := omega) only [vm, seval, h.1]
  refine ⟨hk9 (s5 ++ [44]) () _ _ _ _ h.2 slr ?_ ?_ ?_ (by omega)⟩ <;> first | (simp (disch := omega) only [vm, seval, h.1]; done) | rfl
  simp (disch := omega) only [vm, seval, h.1]
  refine ⟨hk9 s5 () _ _ _ _ h.2 slr ?_ ?_ ?_ (by omega)⟩ <;> first | (simp (disch := omega) only [vm, seval, h.1]; done) | rfl
theorem Rc {a0 r} (h : Cs N N a0 = some r) (ha : args = [AA a0]) (hQ : ∀ n', n ≤ n' → Gl (Q (.str r) ⟨m, n'⟩)) : ACall vE 42 args ⟨m, n⟩ Q :=
 (PL N N h ha hQ)
end Go.Proofs.YtbmilkoebhmnnaaGreatDoor
