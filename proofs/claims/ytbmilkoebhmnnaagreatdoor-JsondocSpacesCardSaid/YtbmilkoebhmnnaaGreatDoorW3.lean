import Derived.Test.YtbmilkoebhmnnaaGreatDoorVmFacts
import Derived.Test.YtbmilkoebhmnnaaGreatDoorDefs
import Derived.Test.YtbmilkoebhmnnaaGreatDoorVM2
import Derived.Test.YtbmilkoebhmnnaaGreatDoorW0
set_option linter.unusedVariables false
set_option linter.unusedSimpArgs false
set_option maxHeartbeats 4000000
set_option maxRecDepth 100000
set_option linter.defProp false
namespace Go.Proofs.YtbmilkoebhmnnaaGreatDoor
open Go.VM
variable {N n : Nat} {m : MS} {Q : PQ} {args : List AVal}
theorem Ed {a0 a1 r} (h : strings_IndexByte N a0 a1 = some r) (ha : args = [.str a0, .int .u8 a1]) (hQ : ∀ n', n ≤ n' → Gl (Q (.int .i64 r) ⟨m, n'⟩)) : ACall vE 46 args ⟨m, n⟩ Q := by
 rw [strings_IndexByte] at h
 subst ha
 refine ent hQ Tryz.func46 rfl Tryz.ntmps46 Tryz.results46 (.q (.r []) (.q (.r []) .z)) fun R hR => ?_
 replace h := And.intro trivial h
 replace h := AC h
 obtain ⟨y1, h⟩ := h
 simp (disch := omega) only [vm, seval, h.1]
 refine ⟨ES h.1.1 (by first | (simp (disch := omega) only [vm, seval, h.1]; done) | rfl) fun n2 hn2 => ?_⟩
 obtain ⟨H, h⟩ := h
 cases h
 simp (disch := omega) only [vm, seval, H]
 refine ⟨(hR _ _ _ _ _ _ (by simp (disch := omega) only [vm, seval, H]; rfl) slr ?_ (by omega) ?_).1⟩ <;> first | (simp (disch := omega) only [vm, seval, H]; done) | rfl
theorem Mf {a0 a1 r} (h : FD N a0 a1 = some r) (ha : args = [.str a0, .int .i64 a1]) (hQ : ∀ n', n ≤ n' → Gl (Q (.tuple [.int .i64 r.1, .int .i64 r.2.1, .int .i64 r.2.2]) ⟨m, n'⟩)) : ACall vE 88 args ⟨m, n⟩ Q := by
 rw [FD] at h
 subst ha
 refine ent hQ Tryz.func88 rfl Tryz.ntmps88 Tryz.results88 (.q (.r []) (.q .z .z)) fun R hR => ?_
 replace h := And.intro trivial h
 simp (disch := omega) only [vm, seval, h.1]
 refine ⟨AU (γ := Unit) h [11, 12, 13, 14, 15, 16, 17] [18] (fun j1 g => [.bool j1]) (fun j1 g => m) (.r []) ?_ ?_⟩ <;> clear h
 rintro j1 _ n4 hnn4 _ _ h
 refine AB (.c (.q (.r []) .z) .z) ?_
 replace h := AJ h
 rcases h with h | h
 obtain ⟨H, h⟩ := h
 cases h
 simp (disch := omega) only [vm, seval, H]
 refine ⟨(hR _ _ _ _ _ _ (by simp (disch := omega) only [vm, seval, H]; rfl) slr ?_ (by omega) ?_).1⟩ <;> first | (simp (disch := omega) only [vm, seval, H]; done) | rfl
 simp (disch := omega) only [vm, seval, h.1]
 refine ⟨AU (γ := Unit) h [4, 5, 6, 7, 8, 9, 10, 19, 20, 21, 22, 23, 24, 25, 26, 27, 28, 29, 30, 31, 32, 33, 34, 35, 36, 37, 38, 39, 40, 41, 42, 43, 44, 45, 46, 47, 48, 49, 50, 51, 52, 53, 54, 55, 56, 57, 58, 59, 60, 61, 62, 63, 64, 65, 66, 67, 68, 69, 70, 71, 72, 73, 74, 75, 76, 77, 78, 79, 80, 81, 82, 83] [] (fun j5 g => []) (fun j5 g => m) (.q (.r []) .z) ?_ ?_⟩ <;> clear h
 rintro j5 _ n8 hnn8 _ _ h
 refine AB (.q (.r []) .z) ?_
 obtain ⟨H, h⟩ := h
 cases h
 simp (disch := omega) only [vm, seval, H]
 refine ⟨(hR _ _ _ _ _ _ (by simp (disch := omega) only [vm, seval, H]; rfl) slr ?_ (by omega) ?_).1⟩ <;> first | (simp (disch := omega) only [vm, seval, H]; done) | rfl
 intro k6 Jk6 hk6 h
 replace h := Ac h
 obtain ⟨hfk9, h⟩ := h
 simp (disch := omega) only [vm, seval, h.1]
 refine ⟨Qt (σ := Unit) (γ := Unit) 0 4 hfk9 (fun xs i s => BA N a0 a1 k6 xs i) (fun i s g => [.int .i64 i]) (fun i s g => m) [4, 5, 6, 7, 8, 9, 10, 21, 22, 23, 24, 25, 26, 27, 28, 29, 30, 31, 32, 33, 34, 35, 36, 37, 38, 39, 40, 41, 42, 43, 44, 45, 46, 47, 48, 49, 50, 51, 52, 53, 54, 55, 56, 57, 58, 59, 60, 61, 62, 63, 64, 65, 66, 67, 68, 69, 70, 71, 72, 73, 74, 75, 76, 77, 78, 79, 80, 81, 82, 83] [20] () () h (by first | (simp (disch := omega) only [vm, seval, h.1]; done) | rfl) (by first | (simp (disch := omega) only [vm, seval, h.1]; done) | rfl) ?_ ?_⟩ <;> clear h
 rintro s20 _ _ nL0_1 hnL0_1 _ h
 change _ ∧ BA N a0 a1 k6 0 s20 = _ at h
 rw [BA] at h
 refine AB (.q (.r []) (.q (.c .z .z) (.q (.q (.r []) (.q (.q .z (.c .z .z)) (.q .z (.q (.q (.r []) (.c .z .z)) .z)))) (.r [])))) ?_
 simp (disch := omega) only [vm, seval, h.1]
 refine ⟨hk6 () () _ _ _ _ h.2 slr ?_ ?_ ?_ (by omega)⟩ <;> first | (simp (disch := omega) only [vm, seval, h.1]; done) | rfl
 rintro xsk9 s20 _ _ nL0_1 hnL0_1 _ h Jk9 hk9
 change _ ∧ BA N a0 a1 k6 (xsk9 + 1) s20 = _ at h
 rw [BA] at h
 refine AB (.q (.r []) (.q (.c .z .z) (.q (.q (.r []) (.q (.q .z (.c .z .z)) (.q .z (.q (.q (.r []) (.c .z .z)) .z)))) (.r [])))) ?_
 replace h := AC h
 obtain ⟨x10, h⟩ := h
 replace h := Aa (KR (k := .i64) h.1.1) h
 replace h := AC h
 obtain ⟨x11, h⟩ := h
 simp (disch := omega) only [vm, seval, h.1]
 refine ⟨Au [] (.take 0 (.take 1 (.take 2 (.take 3 (.take 4 (.take 5 (.take 6 (.take 7 (.take 8 (.done)))))))))) Ah (by kernel_rfl) ?_⟩
 replace h := AJ h
 rcases h with h | h
 simp (disch := omega) only [vm, seval, h.1]
 refine ⟨hk9 () () _ _ _ _ h.2 (.cons _ slr) ?_ ?_ ?_ (by omega)⟩ <;> first | (simp (disch := omega) only [vm, seval, h.1]; done) | rfl
 simp (disch := omega) only [vm, seval, h.1]
 refine ⟨Au [] (.take 0 (.take 1 (.take 2 (.take 3 (.take 4 (.take 5 (.take 6 (.alt 7 [] (.done) (.stop))))))))) Ah (by kernel_rfl) ?_⟩
 replace h := AJ h
 rcases h with h | h
 simp (disch := omega) only [vm, seval, h.1]
 refine ⟨hk6 () () _ _ _ _ h.2 (.cons _ slr) ?_ ?_ ?_ (by omega)⟩ <;> first | (simp (disch := omega) only [vm, seval, h.1]; done) | rfl
 simp (disch := omega) only [vm, seval, h.1]
 refine ⟨AU (γ := Unit) h [4, 5, 6, 10, 47, 48, 49, 50, 51, 52, 53, 54, 55, 56, 57, 58, 59, 60, 61, 62, 63, 64, 65, 66, 67, 68] [9] (fun j12 g => [.int .i64 j12]) (fun j12 g => (nL0_1, [.int .u8 x10.mark, .int .u8 x10.mask, .int .i64 x10.least]) :: m) (.q (.r []) .z) ?_ ?_⟩ <;> clear h
 rintro j12 _ n15 hnn15 _ _ h
 refine AB (.q .z (.q (.r []) .z)) ?_
 simp (disch := omega) only [vm, seval, h.1]
 refine ⟨AU (γ := Unit) h [69, 70, 71, 72, 73, 74, 75, 76] [77] (fun j18 g => [.bool j18]) (fun j18 g => (nL0_1, [.int .u8 x10.mark, .int .u8 x10.mask, .int .i64 x10.least]) :: m) (.r []) ?_ ?_⟩ <;> clear h
 rintro j18 _ n21 hnn21 _ _ h
 refine AB (.c .z .z) ?_
 replace h := AJ h
 rcases h with h | h
 simp (disch := omega) only [vm, seval, h.1]
 refine ⟨hk6 () () _ _ _ _ h.2 (.cons _ slr) ?_ ?_ ?_ (by omega)⟩ <;> first | (simp (disch := omega) only [vm, seval, h.1]; done) | rfl
 obtain ⟨H, h⟩ := h
 cases h
 simp (disch := omega) only [vm, seval, H]
 refine ⟨(hR _ _ _ _ _ _ (by simp (disch := omega) only [vm, seval, H]; rfl) (.cons _ slr) ?_ (by omega) ?_).1⟩ <;> first | (simp (disch := omega) only [vm, seval, H]; done) | rfl
 intro k19 Jk19 hk19 h
 replace h := AJ h
 rcases h with h | h
 simp (disch := omega) only [vm, seval, h.1]
 refine ⟨hk19 true () _ _ _ _ h.2 slr ?_ ?_ ?_ (by omega)⟩ <;> first | (simp (disch := omega) only [vm, seval, h.1]; done) | rfl
 replace h := AC h
 obtain ⟨y22, h⟩ := h
 simp (disch := omega) only [vm, seval, h.1]
 refine ⟨Jh h.1.1 (by first | (simp (disch := omega) only [vm, seval, h.1]; done) | rfl) fun n23 hn23 => ?_⟩
 simp (disch := omega) only [vm, seval, h.1]
 refine ⟨hk19 (!y22) () _ _ _ _ h.2 slr ?_ ?_ ?_ (by omega)⟩ <;> first | (simp (disch := omega) only [vm, seval, h.1]; done) | rfl
 intro k13 Jk13 hk13 h
 simp (disch := omega) only [vm, seval, h.1]
 refine ⟨Fz (σ := Int × Int) (γ := Unit) (fun k s => Ai N a0 a1 s20 k13 k s.1 s.2) (fun s g => [.int .i64 s.1, .int .i64 s.2]) (fun s g => (nL0_1, [.int .u8 x10.mark, .int .u8 x10.mask, .int .i64 x10.least]) :: m) [4, 5, 6, 47, 48, 49, 50, 51, 52, 53, 54, 55, 56, 57, 58, 59, 60, 61, 62, 63, 64, 65, 66, 67, 68] [9, 10] ((wr .i64 (BM .u8 (AL x11) x10.mask)), 1) () h (fun _ => rfl) (by first | (simp (disch := omega) only [vm, seval, h.1]; done) | rfl) (by first | (simp (disch := omega) only [vm, seval, h.1]; done) | rfl) ?_⟩
 clear h
 rintro k16 ⟨s9, s10⟩ _ nL1_2 hnL1_2 _ h Jk16 hk16
 change _ ∧ Ai N a0 a1 s20 k13 (k16 + 1) s9 s10 = _ at h
 rw [Ai] at h
 refine AB (.q (.q (.r []) (.c .z .z)) (.q (.q (.q (.r []) (.c (.q (.r []) .z) .z)) (.r [])) (.r []))) ?_
 replace h := AJ h
 rcases h with h | h
 replace h := AC h
 obtain ⟨x17, h⟩ := h
 replace h := AJ h
 rcases h with h | h
 obtain ⟨H, h⟩ := h
 cases h
 simp (disch := omega) only [vm, seval, H]
 refine ⟨(hR _ _ _ _ _ _ (by simp (disch := omega) only [vm, seval, H]; rfl) (.cons _ slr) ?_ (by omega) ?_).1⟩ <;> first | (simp (disch := omega) only [vm, seval, H]; done) | rfl
 simp (disch := omega) only [vm, seval, h.1]
 refine ⟨hk16 ((El .i64 (MM .i64 s9 6) (wr .i64 (BM .u8 (AL x17) 63))), (wr .i64 (s10 + 1))) () _ _ _ _ h.2 slr ?_ ?_ ?_ (by omega)⟩ <;> first | (simp (disch := omega) only [vm, seval, h.1]; done) | rfl
 simp (disch := omega) only [vm, seval, h.1]
 refine ⟨hk13 s9 () _ _ _ _ h.2 slr ?_ ?_ ?_ (by omega)⟩ <;> first | (simp (disch := omega) only [vm, seval, h.1]; done) | rfl
 intro k2 Jk2 hk2 h
 replace h := AJ h
 rcases h with h | h
 simp (disch := omega) only [vm, seval, h.1]
 refine ⟨hk2 true () _ _ _ _ h.2 slr ?_ ?_ ?_ (by omega)⟩ <;> first | (simp (disch := omega) only [vm, seval, h.1]; done) | rfl
 simp (disch := omega) only [vm, seval, h.1]
 refine ⟨hk2 (decide (a1 ≥ (a0.length : Int))) () _ _ _ _ h.2 slr ?_ ?_ ?_ (by omega)⟩ <;> first | (simp (disch := omega) only [vm, seval, h.1]; done) | rfl
theorem Kl {a0 r} (h : Fv N a0 = some r) (ha : args = [.int .u8 a0]) (hQ : ∀ n', n ≤ n' → Gl (Q (.int .u64 r) ⟨m, n'⟩)) : ACall vE 125 args ⟨m, n⟩ Q := by
 rw [Fv] at h
 subst ha
 refine ent hQ Tryz.func125 rfl Tryz.ntmps125 Tryz.results125 (.q (.r []) (.q (.q (.r []) (.c (.q (.r []) .z) .z)) (.q (.r []) .z))) fun R hR => ?_
 replace h := And.intro trivial h
 replace h := AC h
 obtain ⟨y1, h⟩ := h
 simp (disch := omega) only [vm, seval, h.1]
 refine ⟨E8 h.1.1 (by first | (simp (disch := omega) only [vm, seval, h.1]; done) | rfl) fun n2 hn2 => ?_⟩
 replace h := AJ h
 rcases h with h | h
 obtain ⟨H, h⟩ := h
 cases h
 simp (disch := omega) only [vm, seval, H]
 refine ⟨(hR _ _ _ _ _ _ (by simp (disch := omega) only [vm, seval, H]; rfl) slr ?_ (by omega) ?_).1⟩ <;> first | (simp (disch := omega) only [vm, seval, H]; done) | rfl
 obtain ⟨H, h⟩ := h
 cases h
 simp (disch := omega) only [vm, seval, H]
 refine ⟨(hR _ _ _ _ _ _ (by simp (disch := omega) only [vm, seval, H]; rfl) slr ?_ (by omega) ?_).1⟩ <;> first | (simp (disch := omega) only [vm, seval, H]; done) | rfl
theorem Rm {a0 r} (h : H8 N a0 = some r) (ha : args = [.int .u8 a0]) (hQ : ∀ n', n ≤ n' → Gl (Q (.bool r) ⟨m, n'⟩)) : ACall vE 118 args ⟨m, n⟩ Q := by
 rw [H8] at h
 subst ha
 refine ent hQ Tryz.func118 rfl Tryz.ntmps118 Tryz.results118 (.q (.r []) (.q (.r []) .z)) fun R hR => ?_
 replace h := And.intro trivial h
 replace h := AC h
 obtain ⟨y1, h⟩ := h
 simp (disch := omega) only [vm, seval, h.1]
 refine ⟨E8 h.1.1 (by first | (simp (disch := omega) only [vm, seval, h.1]; done) | rfl) fun n2 hn2 => ?_⟩
 replace h := AJ h
 rcases h with h | h
 obtain ⟨H, h⟩ := h
 cases h
 simp (disch := omega) only [vm, seval, H]
 refine ⟨(hR _ _ _ _ _ _ (by simp (disch := omega) only [vm, seval, H]; rfl) slr ?_ (by omega) ?_).1⟩ <;> first | (simp (disch := omega) only [vm, seval, H]; done) | rfl
 replace h := AJ h
 rcases h with h | h
 obtain ⟨H, h⟩ := h
 cases h
 simp (disch := omega) only [vm, seval, H]
 refine ⟨(hR _ _ _ _ _ _ (by simp (disch := omega) only [vm, seval, H]; rfl) slr ?_ (by omega) ?_).1⟩ <;> first | (simp (disch := omega) only [vm, seval, H]; done) | rfl
 obtain ⟨H, h⟩ := h
 cases h
 simp (disch := omega) only [vm, seval, H]
 refine ⟨(hR _ _ _ _ _ _ (by simp (disch := omega) only [vm, seval, H]; rfl) slr ?_ (by omega) ?_).1⟩ <;> first | (simp (disch := omega) only [vm, seval, H]; done) | rfl
theorem M7 {a0 r} (h : FC N a0 = some r) (ha : args = [.int .i64 a0]) (hQ : ∀ n', n ≤ n' → Gl (Q (.tuple [.str r.1, .int .i64 r.2]) ⟨m, n'⟩)) : ACall vE 90 args ⟨m, n⟩ Q := by
 rw [FC] at h
 subst ha
 refine ent hQ Tryz.func90 rfl Tryz.ntmps90 Tryz.results90 (.q (.r []) (.q (.q (.r []) (.c (.q (.r []) .z) .z)) (.q (.r []) .z))) fun R hR => ?_
 replace h := And.intro trivial h
 replace h := AC h
 obtain ⟨y1, h⟩ := h
 simp (disch := omega) only [vm, seval, h.1]
 refine ⟨Jh h.1.1 (by first | (simp (disch := omega) only [vm, seval, h.1]; done) | rfl) fun n2 hn2 => ?_⟩
 replace h := AJ h
 rcases h with h | h
 simp (disch := omega) only [vm, seval, h.1]
 refine ⟨AU (γ := Unit) h [10, 11, 12, 13, 14, 15, 16, 17, 18, 19, 20, 21, 22] [4] (fun j3 g => [.int .i64 j3]) (fun j3 g => m) .z ?_ ?_⟩ <;> clear h
 rintro j3 _ n6 hnn6 _ _ h
 refine AB (.q (.r []) .z) ?_
 replace h := Ac h
 obtain ⟨c, h⟩ := h
 try simp only [liE, seval] at c
 replace h := Aa c h
 simp (disch := omega) only [vm, seval, h.1]
 refine ⟨AU (γ := Unit) h [6, 26, 27, 28, 29, 30, 31, 32, 33, 34, 35, 36, 37, 38, 39] [0] (fun j13 g => [.int .i64 j13.1]) (fun j13 g => (n6, List.map (AVal.int .u8) j13.2) :: m) (.q (.r []) .z) ?_ ?_⟩ <;> clear h
 rintro j13 _ n16 hnn16 _ _ h
 refine AB (.q (.r []) (.q (.r []) .z)) ?_
 replace h := AC h
 obtain ⟨x18, h⟩ := h
 replace h := Aa (G7 (k := .i64) h.1.1) h
 replace h := Ac h
 obtain ⟨c, h⟩ := h
 try simp only [liE, seval] at c
 replace h := Aa c h
 replace h := Ac h
 obtain ⟨c, h⟩ := h
 try simp only [liE, seval] at c
 replace h := Aa c h
 replace h := Ac h
 obtain ⟨c, h⟩ := h
 try simp only [liE, seval] at c
 replace h := Aa c h
 obtain ⟨H, h⟩ := h
 cases h
 simp (disch := omega) only [vm, seval, H]
 refine ⟨(hR _ _ _ _ _ _ (by simp (disch := omega) only [vm, seval, H]; rfl) (.cons _ slr) ?_ (by omega) ?_).1⟩ <;> first | (simp (disch := omega) only [vm, seval, H]; done) | rfl
 intro k14 Jk14 hk14 h
 simp (disch := omega) only [vm, seval, h.1]
 refine ⟨Fz (σ := Int × Int × (List Int)) (γ := Unit) (fun k s => Aj N j3 k14 k s.1 s.2.1 s.2.2) (fun s g => [.int .i64 s.1, .int .i64 s.2.1]) (fun s g => (n6, List.map (AVal.int .u8) s.2.2) :: m) [27, 28, 29, 30, 31, 32, 33, 34, 35, 36, 37, 38, 39] [0, 6] (a0, j3, (List.replicate (wr .i64 (j3 + 1)).toNat 0)) () h (fun _ => rfl) (by first | (simp (disch := omega) only [vm, seval, h.1]; done) | rfl) (by first | (simp (disch := omega) only [vm, seval, h.1]; done) | rfl) ?_⟩
 clear h
 rintro k17 ⟨s0, s6, bn6⟩ _ nL1_1 hnL1_1 _ h Jk17 hk17
 change _ ∧ Aj N j3 k14 (k17 + 1) s0 s6 bn6 = _ at h
 rw [Aj] at h
 refine AB (.q (.q (.r []) (.c .z .z)) (.q (.q (.r []) (.r [])) (.r []))) ?_
 replace h := AJ h
 rcases h with h | h
 replace h := Ac h
 obtain ⟨c, h⟩ := h
 try simp only [liE, seval] at c
 replace h := Aa c h
 replace h := Ac h
 obtain ⟨c, h⟩ := h
 try simp only [liE, seval] at c
 replace h := Aa c h
 simp (disch := omega) only [vm, seval, h.1]
 refine ⟨hk17 ((H9 .i64 s0 6), (wr .i64 (s6 - 1)), (bn6.set s6.toNat (El .u8 128 (wr .u8 (BM .i64 s0 63))))) () _ _ _ _ h.2 slr ?_ ?_ ?_ (by omega)⟩ <;> first | (simp (disch := omega) only [vm, seval, h.1]; done) | rfl
 simp (disch := omega) only [vm, seval, h.1]
 refine ⟨hk14 (s0, bn6) () _ _ _ _ h.2 slr ?_ ?_ ?_ (by omega)⟩ <;> first | (simp (disch := omega) only [vm, seval, h.1]; done) | rfl
 intro k4 Jk4 hk4 h
 simp (disch := omega) only [vm, seval, h.1]
 refine ⟨Fz (σ := Int) (γ := Unit) (fun k s => Bd N a0 k4 k s) (fun s g => [.int .i64 s]) (fun s g => m) [10, 11, 12, 13, 14, 15, 16, 17, 18, 19, 20, 21, 22] [4] 0 () h (fun _ => rfl) (by first | (simp (disch := omega) only [vm, seval, h.1]; done) | rfl) (by first | (simp (disch := omega) only [vm, seval, h.1]; done) | rfl) ?_⟩
 clear h
 rintro k7 s4 _ nL0_1 hnL0_1 _ h Jk7 hk7
 change _ ∧ Bd N a0 k4 (k7 + 1) s4 = _ at h
 rw [Bd] at h
 refine AB (.q .z (.r [])) ?_
 simp (disch := omega) only [vm, seval, h.1]
 refine ⟨AU (γ := Unit) h [10, 11, 12, 13, 14, 15, 16, 17, 18, 19] [20] (fun j8 g => [.bool j8]) (fun j8 g => m) (.r []) ?_ ?_⟩ <;> clear h
 rintro j8 _ n11 hnn11 _ _ h
 refine AB (.c .z .z) ?_
 replace h := AJ h
 rcases h with h | h
 simp (disch := omega) only [vm, seval, h.1]
 refine ⟨hk7 (wr .i64 (s4 + 1)) () _ _ _ _ h.2 slr ?_ ?_ ?_ (by omega)⟩ <;> first | (simp (disch := omega) only [vm, seval, h.1]; done) | rfl
 simp (disch := omega) only [vm, seval, h.1]
 refine ⟨hk4 s4 () _ _ _ _ h.2 slr ?_ ?_ ?_ (by omega)⟩ <;> first | (simp (disch := omega) only [vm, seval, h.1]; done) | rfl
 intro k9 Jk9 hk9 h
 replace h := AJ h
 rcases h with h | h
 replace h := AC h
 obtain ⟨x12, h⟩ := h
 replace h := Aa (G7 (k := .i64) h.1.1) h
 simp (disch := omega) only [vm, seval, h.1]
 refine ⟨hk9 (decide (a0 ≥ x12.least)) () _ _ _ _ h.2 slr ?_ ?_ ?_ (by omega)⟩ <;> first | (simp (disch := omega) only [vm, seval, h.1]; done) | rfl
 simp (disch := omega) only [vm, seval, h.1]
 refine ⟨hk9 false () _ _ _ _ h.2 slr ?_ ?_ ?_ (by omega)⟩ <;> first | (simp (disch := omega) only [vm, seval, h.1]; done) | rfl
 obtain ⟨H, h⟩ := h
 cases h
 simp (disch := omega) only [vm, seval, H]
 refine ⟨(hR _ _ _ _ _ _ (by simp (disch := omega) only [vm, seval, H]; rfl) slr ?_ (by omega) ?_).1⟩ <;> first | (simp (disch := omega) only [vm, seval, H]; done) | rfl
theorem Eo {a0 a1 r} {i0 : Nat} (h : Be N a0 a1 = some r) (ha : args = [.ptr i0 0, .str a1]) (hi0 : Ao m i0 = some ([Hy i0 102 2 a0.addr, .buf 5 a0.buf true])) (hQ : ∀ n', n ≤ n' → Gl (Q (.tuple [.int .i64 r.1, .nilIface]) ⟨BH m i0 ([Hy i0 102 2 r.2.2.addr, .buf 5 r.2.2.buf true]), n'⟩)) : ACall vE 74 args ⟨m, n⟩ Q := by
 rw [Be] at h
 subst ha
 refine ACall.front hi0 fun hin => ent (fun n' k => ⟨_, rfl, (hQ n' k).go⟩) Tryz.func74 rfl Tryz.ntmps74 Tryz.results74 (.q (.r []) (.q (.r []) (.q (.r [12]) (.q (.r []) .z)))) fun R hR => ?_
 replace h := And.intro trivial h
 replace h := AC h
 obtain ⟨y1, h⟩ := h
 simp (disch := omega) only [vm, seval, h.1]
 refine ⟨IZ h.1.1 (by first | (simp (disch := omega) only [vm, seval, h.1]; done) | rfl) (i0 := i0) (by simp (disch := omega) only [vm, seval, h.1]) fun n2 hn2 => ?_⟩
 replace h := Ac h
 obtain ⟨c, h⟩ := h
 try simp only [liE, seval] at c
 replace h := Aa c h
 obtain ⟨H, h⟩ := h
 cases h
 simp (disch := omega) only [vm, seval, H]
 refine ⟨(hR _ _ _ _ _ _ (by simp (disch := omega) only [vm, seval, H]; rfl) slr ?_ (by omega) ?_).1⟩ <;> first | (simp (disch := omega) only [vm, seval, H]; done) | rfl
theorem D5 {a0 r} {i0 : Nat} (h : BB N a0 = some r) (ha : args = [.ptr i0 0, .fn (.func 48) [] []]) (hi0 : Ao m i0 = some ([.str a0.s, .int .i64 a0.at_])) (hQ : ∀ n', n ≤ n' → Gl (Q (.str r.1) ⟨BH m i0 ([.str r.2.s, .int .i64 r.2.at_]), n'⟩)) : ACall vE 28 args ⟨m, n⟩ Q := by
 rw [BB] at h
 subst ha
 refine ACall.front hi0 fun hin => ent (fun n' k => ⟨_, rfl, (hQ n' k).go⟩) Tryz.func28 rfl Tryz.ntmps28 Tryz.results28 (.q (.r []) (.q (.r []) .z)) fun R hR => ?_
 replace h := And.intro trivial h
 simp (disch := omega) only [vm, seval, h.1]
 refine ⟨AU (γ := Unit) h [10, 11, 12, 13, 14, 15, 16, 17, 18, 19, 20, 21, 22, 23, 24, 25, 26, 27, 28, 29, 30, 31, 32, 33, 34, 35, 36, 37, 38, 39] [] (fun j1 g => []) (fun j1 g => (i0, [.str a0.s, .int .i64 j1]) :: Ck m i0) .z ?_ ?_⟩ <;> clear h
 rintro j1 _ n4 hnn4 _ _ h
 refine AB (.q .z .z) ?_
 replace h := AC h
 obtain ⟨x9, h⟩ := h
 simp (disch := omega) only [vm, seval, h.1]
 refine ⟨Au [] (.take 0 (.take 1 (.take 2 (.take 3 (.take 4 (.take 5 (.take 6 (.take 7 (.take 8 (.take 9 (.alt 10 [] (.done) (.stop)))))))))))) Ah (by kernel_rfl) ?_⟩
 obtain ⟨H, h⟩ := h
 cases h
 simp (disch := omega) only [vm, seval, H]
 refine ⟨(hR _ _ _ _ _ _ (by simp (disch := omega) only [vm, seval, H]; rfl) slr ?_ (by omega) ?_).1⟩ <;> first | (simp (disch := omega) only [vm, seval, H]; done) | rfl
 intro k2 Jk2 hk2 h
 replace h := Ac h
 obtain ⟨hfk5, h⟩ := h
 simp (disch := omega) only [vm, seval, h.1]
 refine ⟨Qt (σ := Unit) (γ := Unit) a0.at_ (a0.s.length : Int) hfk5 (fun xs i s => AX N a0 k2 xs i) (fun i s g => []) (fun i s g => (i0, [.str a0.s, .int .i64 i]) :: Ck m i0) [10, 11, 12, 13, 14, 15, 16, 17, 18, 19, 20, 21, 22, 23, 24, 25, 26, 27, 28, 29, 30, 31, 32, 33, 34, 35, 36, 37, 38, 39] [] () () h (by first | (simp (disch := omega) only [vm, seval, h.1]; done) | rfl) (by first | (simp (disch := omega) only [vm, seval, h.1]; done) | rfl) ?_ ?_⟩ <;> clear h
 rintro bi0_at_ _ _ nL0_1 hnL0_1 _ h
 change _ ∧ AX N a0 k2 0 bi0_at_ = _ at h
 rw [AX] at h
 refine AB (.q (.q .z (.c .z .z)) (.r [])) ?_
 simp (disch := omega) only [vm, seval, h.1]
 refine ⟨Au [] (.take 0 (.take 1 (.take 2 (.take 3 (.take 4 (.take 5 (.take 6 (.take 7 (.take 8 (.take 9 (.take 10 (.take 11 (.take 12 (.take 13 (.take 14 (.take 15 (.take 16 (.take 17 (.take 18 (.take 19 (.take 20 (.alt 21 [19, 18, 17, 16, 15, 14, 13, 12, 9, 8, 7, 6, 5, 4, 3, 2, 1, 0] (.take 22 (.done)) (.stop))))))))))))))))))))))) Ah (by kernel_rfl) ?_⟩
 simp (disch := omega) only [vm, seval, h.1]
 refine ⟨hk2 bi0_at_ () _ _ _ _ h.2 slr ?_ ?_ ?_ (by omega)⟩ <;> first | (simp (disch := omega) only [vm, seval, h.1]; done) | rfl
 rintro xsk5 bi0_at_ _ _ nL0_1 hnL0_1 _ h Jk5 hk5
 change _ ∧ AX N a0 k2 (xsk5 + 1) bi0_at_ = _ at h
 rw [AX] at h
 refine AB (.q (.q .z (.c .z .z)) (.r [])) ?_
 replace h := AC h
 obtain ⟨x6, h⟩ := h
 replace h := AC h
 obtain ⟨y7, h⟩ := h
 have cy7 := h.1.1
 simp (disch := omega) only [vm, seval, h.1]
 refine ⟨Au [] (.take 0 (.take 1 (.take 2 (.take 3 (.take 4 (.take 5 (.take 6 (.take 7 (.take 8 (.take 9 (.take 10 (.take 11 (.take 12 (.take 13 (.take 14 (.take 15 (.take 16 (.take 17 (.take 18 (.take 19 (.take 20 (.alt 21 [19, 18, 17, 16, 15, 14, 13, 12, 9, 8, 7, 6, 5, 4, 3, 2, 1, 0] (.take 22 (.done)) (.stop))))))))))))))))))))))) Ah (by kernel_rfl) ?_⟩
 simp (disch := omega) only [vm, seval, h.1]
 refine ⟨E8 cy7 (by first | (simp (disch := omega) only [vm, seval, h.1]; done) | rfl) fun n8 hn8 => ?_⟩
 replace h := AJ h
 rcases h with h | h
 simp (disch := omega) only [vm, seval, h.1]
 refine ⟨hk5 () () _ _ _ _ h.2 slr ?_ ?_ ?_ (by omega)⟩ <;> first | (simp (disch := omega) only [vm, seval, h.1]; done) | rfl
 simp (disch := omega) only [vm, seval, h.1]
 refine ⟨hk2 bi0_at_ () _ _ _ _ h.2 slr ?_ ?_ ?_ (by omega)⟩ <;> first | (simp (disch := omega) only [vm, seval, h.1]; done) | rfl
theorem F9 {a0 r} {i0 : Nat} (h : BC N a0 = some r) (ha : args = [.ptr i0 0, .fn (.func 50) [] []]) (hi0 : Ao m i0 = some ([.str a0.s, .int .i64 a0.at_])) (hQ : ∀ n', n ≤ n' → Gl (Q (.str r.1) ⟨BH m i0 ([.str r.2.s, .int .i64 r.2.at_]), n'⟩)) : ACall vE 28 args ⟨m, n⟩ Q := by
 rw [BC] at h
 subst ha
 refine ACall.front hi0 fun hin => ent (fun n' k => ⟨_, rfl, (hQ n' k).go⟩) Tryz.func28 rfl Tryz.ntmps28 Tryz.results28 (.q (.r []) (.q (.r []) .z)) fun R hR => ?_
 replace h := And.intro trivial h
 simp (disch := omega) only [vm, seval, h.1]
 refine ⟨AU (γ := Unit) h [10, 11, 12, 13, 14, 15, 16, 17, 18, 19, 20, 21, 22, 23, 24, 25, 26, 27, 28, 29, 30, 31, 32, 33, 34, 35, 36, 37, 38, 39] [] (fun j1 g => []) (fun j1 g => (i0, [.str a0.s, .int .i64 j1]) :: Ck m i0) .z ?_ ?_⟩ <;> clear h
 rintro j1 _ n4 hnn4 _ _ h
 refine AB (.q .z .z) ?_
 replace h := AC h
 obtain ⟨x9, h⟩ := h
 simp (disch := omega) only [vm, seval, h.1]
 refine ⟨Au [] (.take 0 (.take 1 (.take 2 (.take 3 (.take 4 (.take 5 (.take 6 (.take 7 (.take 8 (.take 9 (.alt 10 [] (.done) (.stop)))))))))))) Ah (by kernel_rfl) ?_⟩
 obtain ⟨H, h⟩ := h
 cases h
 simp (disch := omega) only [vm, seval, H]
 refine ⟨(hR _ _ _ _ _ _ (by simp (disch := omega) only [vm, seval, H]; rfl) slr ?_ (by omega) ?_).1⟩ <;> first | (simp (disch := omega) only [vm, seval, H]; done) | rfl
 intro k2 Jk2 hk2 h
 replace h := Ac h
 obtain ⟨hfk5, h⟩ := h
 simp (disch := omega) only [vm, seval, h.1]
 refine ⟨Qt (σ := Unit) (γ := Unit) a0.at_ (a0.s.length : Int) hfk5 (fun xs i s => AV N a0 k2 xs i) (fun i s g => []) (fun i s g => (i0, [.str a0.s, .int .i64 i]) :: Ck m i0) [10, 11, 12, 13, 14, 15, 16, 17, 18, 19, 20, 21, 22, 23, 24, 25, 26, 27, 28, 29, 30, 31, 32, 33, 34, 35, 36, 37, 38, 39] [] () () h (by first | (simp (disch := omega) only [vm, seval, h.1]; done) | rfl) (by first | (simp (disch := omega) only [vm, seval, h.1]; done) | rfl) ?_ ?_⟩ <;> clear h
 rintro bi0_at_ _ _ nL0_1 hnL0_1 _ h
 change _ ∧ AV N a0 k2 0 bi0_at_ = _ at h
 rw [AV] at h
 refine AB (.q (.q .z (.c .z .z)) (.r [])) ?_
 simp (disch := omega) only [vm, seval, h.1]
 refine ⟨Au [] (.take 0 (.take 1 (.take 2 (.take 3 (.take 4 (.take 5 (.take 6 (.take 7 (.take 8 (.take 9 (.take 10 (.take 11 (.take 12 (.take 13 (.take 14 (.take 15 (.take 16 (.take 17 (.take 18 (.take 19 (.take 20 (.alt 21 [19, 18, 17, 16, 15, 14, 13, 12, 9, 8, 7, 6, 5, 4, 3, 2, 1, 0] (.take 22 (.done)) (.stop))))))))))))))))))))))) Ah (by kernel_rfl) ?_⟩
 simp (disch := omega) only [vm, seval, h.1]
 refine ⟨hk2 bi0_at_ () _ _ _ _ h.2 slr ?_ ?_ ?_ (by omega)⟩ <;> first | (simp (disch := omega) only [vm, seval, h.1]; done) | rfl
 rintro xsk5 bi0_at_ _ _ nL0_1 hnL0_1 _ h Jk5 hk5
 change _ ∧ AV N a0 k2 (xsk5 + 1) bi0_at_ = _ at h
 rw [AV] at h
 refine AB (.q (.q .z (.c .z .z)) (.r [])) ?_
 replace h := AC h
 obtain ⟨x6, h⟩ := h
 replace h := AC h
 obtain ⟨y7, h⟩ := h
 have cy7 := h.1.1
 simp (disch := omega) only [vm, seval, h.1]
 refine ⟨Au [] (.take 0 (.take 1 (.take 2 (.take 3 (.take 4 (.take 5 (.take 6 (.take 7 (.take 8 (.take 9 (.take 10 (.take 11 (.take 12 (.take 13 (.take 14 (.take 15 (.take 16 (.take 17 (.take 18 (.take 19 (.take 20 (.alt 21 [19, 18, 17, 16, 15, 14, 13, 12, 9, 8, 7, 6, 5, 4, 3, 2, 1, 0] (.take 22 (.done)) (.stop))))))))))))))))))))))) Ah (by kernel_rfl) ?_⟩
 simp (disch := omega) only [vm, seval, h.1]
 refine ⟨KJ cy7 (by first | (simp (disch := omega) only [vm, seval, h.1]; done) | rfl) fun n8 hn8 => ?_⟩
 replace h := AJ h
 rcases h with h | h
 simp (disch := omega) only [vm, seval, h.1]
 refine ⟨hk5 () () _ _ _ _ h.2 slr ?_ ?_ ?_ (by omega)⟩ <;> first | (simp (disch := omega) only [vm, seval, h.1]; done) | rfl
 simp (disch := omega) only [vm, seval, h.1]
 refine ⟨hk2 bi0_at_ () _ _ _ _ h.2 slr ?_ ?_ ?_ (by omega)⟩ <;> first | (simp (disch := omega) only [vm, seval, h.1]; done) | rfl
theorem GY {a0 r} {i0 : Nat} (h : Bg N a0 = some r) (ha : args = [.ptr i0 0, .fn (.func 29) [] []]) (hi0 : Ao m i0 = some ([.str a0.s, .int .i64 a0.at_])) (hQ : ∀ n', n ≤ n' → Gl (Q (.str r.1) ⟨BH m i0 ([.str r.2.s, .int .i64 r.2.at_]), n'⟩)) : ACall vE 28 args ⟨m, n⟩ Q := by
 rw [Bg] at h
 subst ha
 refine ACall.front hi0 fun hin => ent (fun n' k => ⟨_, rfl, (hQ n' k).go⟩) Tryz.func28 rfl Tryz.ntmps28 Tryz.results28 (.q (.r []) (.q (.r []) .z)) fun R hR => ?_
 replace h := And.intro trivial h
 simp (disch := omega) only [vm, seval, h.1]
 refine ⟨AU (γ := Unit) h [10, 11, 12, 13, 14, 15, 16, 17, 18, 19, 20, 21, 22, 23, 24, 25, 26, 27, 28, 29, 30, 31, 32, 33, 34, 35, 36, 37, 38, 39] [] (fun j1 g => []) (fun j1 g => (i0, [.str a0.s, .int .i64 j1]) :: Ck m i0) .z ?_ ?_⟩ <;> clear h
 rintro j1 _ n4 hnn4 _ _ h
 refine AB (.q .z .z) ?_
 replace h := AC h
 obtain ⟨x9, h⟩ := h
 simp (disch := omega) only [vm, seval, h.1]
 refine ⟨Au [] (.take 0 (.take 1 (.take 2 (.take 3 (.take 4 (.take 5 (.take 6 (.take 7 (.take 8 (.take 9 (.alt 10 [] (.done) (.stop)))))))))))) Ah (by kernel_rfl) ?_⟩
 obtain ⟨H, h⟩ := h
 cases h
 simp (disch := omega) only [vm, seval, H]
 refine ⟨(hR _ _ _ _ _ _ (by simp (disch := omega) only [vm, seval, H]; rfl) slr ?_ (by omega) ?_).1⟩ <;> first | (simp (disch := omega) only [vm, seval, H]; done) | rfl
 intro k2 Jk2 hk2 h
 replace h := Ac h
 obtain ⟨hfk5, h⟩ := h
 simp (disch := omega) only [vm, seval, h.1]
 refine ⟨Qt (σ := Unit) (γ := Unit) a0.at_ (a0.s.length : Int) hfk5 (fun xs i s => AZ N a0 k2 xs i) (fun i s g => []) (fun i s g => (i0, [.str a0.s, .int .i64 i]) :: Ck m i0) [10, 11, 12, 13, 14, 15, 16, 17, 18, 19, 20, 21, 22, 23, 24, 25, 26, 27, 28, 29, 30, 31, 32, 33, 34, 35, 36, 37, 38, 39] [] () () h (by first | (simp (disch := omega) only [vm, seval, h.1]; done) | rfl) (by first | (simp (disch := omega) only [vm, seval, h.1]; done) | rfl) ?_ ?_⟩ <;> clear h
 rintro bi0_at_ _ _ nL0_1 hnL0_1 _ h
 change _ ∧ AZ N a0 k2 0 bi0_at_ = _ at h
 rw [AZ] at h
 refine AB (.q (.q .z (.c .z .z)) (.r [])) ?_
 simp (disch := omega) only [vm, seval, h.1]
 refine ⟨Au [] (.take 0 (.take 1 (.take 2 (.take 3 (.take 4 (.take 5 (.take 6 (.take 7 (.take 8 (.take 9 (.take 10 (.take 11 (.take 12 (.take 13 (.take 14 (.take 15 (.take 16 (.take 17 (.take 18 (.take 19 (.take 20 (.alt 21 [19, 18, 17, 16, 15, 14, 13, 12, 9, 8, 7, 6, 5, 4, 3, 2, 1, 0] (.take 22 (.done)) (.stop))))))))))))))))))))))) Ah (by kernel_rfl) ?_⟩
 simp (disch := omega) only [vm, seval, h.1]
 refine ⟨hk2 bi0_at_ () _ _ _ _ h.2 slr ?_ ?_ ?_ (by omega)⟩ <;> first | (simp (disch := omega) only [vm, seval, h.1]; done) | rfl
 rintro xsk5 bi0_at_ _ _ nL0_1 hnL0_1 _ h Jk5 hk5
 change _ ∧ AZ N a0 k2 (xsk5 + 1) bi0_at_ = _ at h
 rw [AZ] at h
 refine AB (.q (.q .z (.c .z .z)) (.r [])) ?_
 replace h := AC h
 obtain ⟨x6, h⟩ := h
 replace h := AC h
 obtain ⟨y7, h⟩ := h
 have cy7 := h.1.1
 simp (disch := omega) only [vm, seval, h.1]
 refine ⟨Au [] (.take 0 (.take 1 (.take 2 (.take 3 (.take 4 (.take 5 (.take 6 (.take 7 (.take 8 (.take 9 (.take 10 (.take 11 (.take 12 (.take 13 (.take 14 (.take 15 (.take 16 (.take 17 (.take 18 (.take 19 (.take 20 (.alt 21 [19, 18, 17, 16, 15, 14, 13, 12, 9, 8, 7, 6, 5, 4, 3, 2, 1, 0] (.take 22 (.done)) (.stop))))))))))))))))))))))) Ah (by kernel_rfl) ?_⟩
 simp (disch := omega) only [vm, seval, h.1]
 refine ⟨R6 cy7 (by first | (simp (disch := omega) only [vm, seval, h.1]; done) | rfl) fun n8 hn8 => ?_⟩
 replace h := AJ h
 rcases h with h | h
 simp (disch := omega) only [vm, seval, h.1]
 refine ⟨hk5 () () _ _ _ _ h.2 slr ?_ ?_ ?_ (by omega)⟩ <;> first | (simp (disch := omega) only [vm, seval, h.1]; done) | rfl
 simp (disch := omega) only [vm, seval, h.1]
 refine ⟨hk2 bi0_at_ () _ _ _ _ h.2 slr ?_ ?_ ?_ (by omega)⟩ <;> first | (simp (disch := omega) only [vm, seval, h.1]; done) | rfl
theorem II {a0 a1 r} (h : DC N a0 a1 = some r) (ha : args = [.str a0, .str a1]) (hQ : ∀ n', n ≤ n' → Gl (Q (.int .i64 r) ⟨m, n'⟩)) : ACall vE 109 args ⟨m, n⟩ Q := by
 rw [DC] at h
 subst ha
 refine ent hQ Tryz.func109 rfl Tryz.ntmps109 Tryz.results109 (.q (.r []) (.q (.r []) (.q .z (.q (.r []) (.q (.r []) (.q (.r []) (.q (.r []) (.q (.r []) .z)))))))) fun R hR => ?_
 replace h := And.intro trivial h
 simp (disch := omega) only [vm, seval, h.1]
 refine ⟨AU (γ := Unit) h [17, 18, 19, 20, 21, 22, 23] [16] (fun j1 g => [.bool j1]) (fun j1 g => m) (.r []) ?_ ?_⟩ <;> clear h
 rintro j1 _ n4 hnn4 _ _ h
 refine AB (.c (.q (.r []) .z) (.q (.r []) (.c (.q (.r []) .z) (.q (.r []) (.c (.q (.r []) .z) (.q (.r []) (.c (.q (.r []) .z) .z))))))) ?_
 replace h := AJ h
 rcases h with h | h
 obtain ⟨H, h⟩ := h
 cases h
 simp (disch := omega) only [vm, seval, H]
 refine ⟨(hR _ _ _ _ _ _ (by simp (disch := omega) only [vm, seval, H]; rfl) slr ?_ (by omega) ?_).1⟩ <;> first | (simp (disch := omega) only [vm, seval, H]; done) | rfl
 replace h := AJ h
 rcases h with h | h
 replace h := AC h
 obtain ⟨x5, h⟩ := h
 replace h := AC h
 obtain ⟨y6, h⟩ := h
 simp (disch := omega) only [vm, seval, h.1]
 refine ⟨ES h.1.1 (by first | (simp (disch := omega) only [vm, seval, h.1]; done) | rfl) fun n7 hn7 => ?_⟩
 obtain ⟨H, h⟩ := h
 cases h
 simp (disch := omega) only [vm, seval, H]
 refine ⟨(hR _ _ _ _ _ _ (by simp (disch := omega) only [vm, seval, H]; rfl) slr ?_ (by omega) ?_).1⟩ <;> first | (simp (disch := omega) only [vm, seval, H]; done) | rfl
 replace h := AJ h
 rcases h with h | h
 obtain ⟨H, h⟩ := h
 cases h
 simp (disch := omega) only [vm, seval, H]
 refine ⟨(hR _ _ _ _ _ _ (by simp (disch := omega) only [vm, seval, H]; rfl) slr ?_ (by omega) ?_).1⟩ <;> first | (simp (disch := omega) only [vm, seval, H]; done) | rfl
 cases h.2
 intro k2 Jk2 hk2 h
 replace h := AJ h
 rcases h with h | h
 simp (disch := omega) only [vm, seval, h.1]
 refine ⟨hk2 true () _ _ _ _ h.2 slr ?_ ?_ ?_ (by omega)⟩ <;> first | (simp (disch := omega) only [vm, seval, h.1]; done) | rfl
 simp (disch := omega) only [vm, seval, h.1]
 refine ⟨hk2 (a1 == a0) () _ _ _ _ h.2 slr ?_ ?_ ?_ (by omega)⟩ <;> first | (simp (disch := omega) only [vm, seval, h.1]; done) | rfl
theorem Jl {a0 a1 r} {i1 : Nat} (h : strings_trimLeftASCII N a0 a1 = some r) (ha : args = [.str a0, .ptr i1 0]) (hi1 : Ao m i1 = some (List.map AVal.bool a1)) (hQ : ∀ n', n ≤ n' → Gl (Q (.str r.1) ⟨BH m i1 (List.map AVal.bool r.2), n'⟩)) : ACall vE 96 args ⟨m, n⟩ Q := by
 rw [strings_trimLeftASCII] at h
 subst ha
 refine ACall.front hi1 fun hin => ent (fun n' k => ⟨_, rfl, (hQ n' k).go⟩) Tryz.func96 rfl Tryz.ntmps96 Tryz.results96 (.q (.r []) .z) fun R hR => ?_
 replace h := And.intro trivial h
 simp (disch := omega) only [vm, seval, h.1]
 refine ⟨AU (γ := Unit) h [5, 6, 7, 8, 9, 10, 11, 12, 13, 14] [0] (fun j1 g => [.str j1.1]) (fun j1 g => (i1, List.map AVal.bool j1.2) :: Ck m i1) .z ?_ ?_⟩ <;> clear h
 rintro j1 _ n4 hnn4 _ _ h
 refine AB (.q (.r []) .z) ?_
 obtain ⟨H, h⟩ := h
 cases h
 simp (disch := omega) only [vm, seval, H]
 refine ⟨(hR _ _ _ _ _ _ (by simp (disch := omega) only [vm, seval, H]; rfl) slr ?_ (by omega) ?_).1⟩ <;> first | (simp (disch := omega) only [vm, seval, H]; done) | rfl
 intro k2 Jk2 hk2 h
 simp (disch := omega) only [vm, seval, h.1]
 refine ⟨Fz (σ := (List UInt8) × (List Bool)) (γ := Unit) (fun k s => BL N k2 k s.1 s.2) (fun s g => [.str s.1]) (fun s g => (i1, List.map AVal.bool s.2) :: Ck m i1) [5, 6, 7, 8, 9, 10, 11, 12, 13, 14] [0] (a0, a1) () h (fun _ => rfl) (by first | (simp (disch := omega) only [vm, seval, h.1]; done) | rfl) (by first | (simp (disch := omega) only [vm, seval, h.1]; done) | rfl) ?_⟩
 clear h
 rintro k5 ⟨s0, bi1⟩ _ nL0_1 hnL0_1 _ h Jk5 hk5
 change _ ∧ BL N k2 (k5 + 1) s0 bi1 = _ at h
 rw [BL] at h
 refine AB (.q (.q (.r []) (.c .z .z)) (.q (.q (.r []) (.c .z .z)) (.r []))) ?_
 replace h := AJ h
 rcases h with h | h
 replace h := AC h
 obtain ⟨x6, h⟩ := h
 replace h := AC h
 obtain ⟨y7, h⟩ := h
 simp (disch := omega) only [vm, seval, h.1]
 refine ⟨FV h.1.1 (by first | (simp (disch := omega) only [vm, seval, h.1]; done) | rfl) (i0 := i1) (by simp (disch := omega) only [vm, seval, h.1]) fun n8 hn8 => ?_⟩
 replace h := AJ h
 rcases h with h | h
 replace h := AC h
 obtain ⟨x9, h⟩ := h
 simp (disch := omega) only [vm, seval, h.1]
 refine ⟨hk5 (x9, y7.2) () _ _ _ _ h.2 slr ?_ ?_ ?_ (by omega)⟩ <;> first | (simp (disch := omega) only [vm, seval, h.1]; done) | rfl
 simp (disch := omega) only [vm, seval, h.1]
 refine ⟨hk2 (s0, y7.2) () _ _ _ _ h.2 slr ?_ ?_ ?_ (by omega)⟩ <;> first | (simp (disch := omega) only [vm, seval, h.1]; done) | rfl
 simp (disch := omega) only [vm, seval, h.1]
 refine ⟨hk2 (s0, bi1) () _ _ _ _ h.2 slr ?_ ?_ ?_ (by omega)⟩ <;> first | (simp (disch := omega) only [vm, seval, h.1]; done) | rfl
theorem EL {a0 r} (h : CB N a0 = some r) (ha : args = [.str a0]) (hQ : ∀ n', n ≤ n' → Gl (Q (.tuple [.int .i32 r.1, .int .i64 r.2]) ⟨m, n'⟩)) : ACall vE 111 args ⟨m, n⟩ Q := by
 rw [CB] at h
 subst ha
 refine ent hQ Tryz.func111 rfl Tryz.ntmps111 Tryz.results111 (.q (.r []) (.q .z .z)) fun R hR => ?_
 replace h := And.intro trivial h
 simp (disch := omega) only [vm, seval, h.1]
 refine ⟨AU (γ := Unit) h [4, 5, 6, 7, 8, 9] [10] (fun j1 g => [.bool j1]) (fun j1 g => m) (.r []) ?_ ?_⟩ <;> clear h
 rintro j1 _ n4 hnn4 _ _ h
 refine AB (.c (.q (.r []) .z) (.r [])) ?_
 replace h := AJ h
 rcases h with h | h
 replace h := AC h
 obtain ⟨x6, h⟩ := h
 obtain ⟨H, h⟩ := h
 cases h
 simp (disch := omega) only [vm, seval, H]
 refine ⟨(hR _ _ _ _ _ _ (by simp (disch := omega) only [vm, seval, H]; rfl) slr ?_ (by omega) ?_).1⟩ <;> first | (simp (disch := omega) only [vm, seval, H]; done) | rfl
 replace h := AC h
 obtain ⟨y7, h⟩ := h
 simp (disch := omega) only [vm, seval, h.1]
 refine ⟨Fy h.1.1 (by first | (simp (disch := omega) only [vm, seval, h.1]; done) | rfl) fun n8 hn8 => ?_⟩
 obtain ⟨H, h⟩ := h
 cases h
 simp (disch := omega) only [vm, seval, H]
 refine ⟨(hR _ _ _ _ _ _ (by simp (disch := omega) only [vm, seval, H]; rfl) slr ?_ (by omega) ?_).1⟩ <;> first | (simp (disch := omega) only [vm, seval, H]; done) | rfl
 intro k2 Jk2 hk2 h
 replace h := AJ h
 rcases h with h | h
 simp (disch := omega) only [vm, seval, h.1]
 refine ⟨hk2 false () _ _ _ _ h.2 slr ?_ ?_ ?_ (by omega)⟩ <;> first | (simp (disch := omega) only [vm, seval, h.1]; done) | rfl
 replace h := AC h
 obtain ⟨x5, h⟩ := h
 simp (disch := omega) only [vm, seval, h.1]
 refine ⟨hk2 (decide ((AL x5) < 128)) () _ _ _ _ h.2 slr ?_ ?_ ?_ (by omega)⟩ <;> first | (simp (disch := omega) only [vm, seval, h.1]; done) | rfl
theorem JY {a0 a1 r} {i1 : Nat} (h : strings_trimRightASCII N a0 a1 = some r) (ha : args = [.str a0, .ptr i1 0]) (hi1 : Ao m i1 = some (List.map AVal.bool a1)) (hQ : ∀ n', n ≤ n' → Gl (Q (.str r.1) ⟨BH m i1 (List.map AVal.bool r.2), n'⟩)) : ACall vE 99 args ⟨m, n⟩ Q := by
 rw [strings_trimRightASCII] at h
 subst ha
 refine ACall.front hi1 fun hin => ent (fun n' k => ⟨_, rfl, (hQ n' k).go⟩) Tryz.func99 rfl Tryz.ntmps99 Tryz.results99 (.q (.r []) .z) fun R hR => ?_
 replace h := And.intro trivial h
 simp (disch := omega) only [vm, seval, h.1]
 refine ⟨AU (γ := Unit) h [5, 6, 7, 8, 9, 10, 11, 12, 13, 14, 15, 16, 17, 18, 19, 20] [0] (fun j1 g => [.str j1.1]) (fun j1 g => (i1, List.map AVal.bool j1.2) :: Ck m i1) .z ?_ ?_⟩ <;> clear h
 rintro j1 _ n4 hnn4 _ _ h
 refine AB (.q (.r []) .z) ?_
 obtain ⟨H, h⟩ := h
 cases h
 simp (disch := omega) only [vm, seval, H]
 refine ⟨(hR _ _ _ _ _ _ (by simp (disch := omega) only [vm, seval, H]; rfl) slr ?_ (by omega) ?_).1⟩ <;> first | (simp (disch := omega) only [vm, seval, H]; done) | rfl
 intro k2 Jk2 hk2 h
 simp (disch := omega) only [vm, seval, h.1]
 refine ⟨Fz (σ := (List UInt8) × (List Bool)) (γ := Unit) (fun k s => CZ N k2 k s.1 s.2) (fun s g => [.str s.1]) (fun s g => (i1, List.map AVal.bool s.2) :: Ck m i1) [5, 6, 7, 8, 9, 10, 11, 12, 13, 14, 15, 16, 17, 18, 19, 20] [0] (a0, a1) () h (fun _ => rfl) (by first | (simp (disch := omega) only [vm, seval, h.1]; done) | rfl) (by first | (simp (disch := omega) only [vm, seval, h.1]; done) | rfl) ?_⟩
 clear h
 rintro k5 ⟨s0, bi1⟩ _ nL0_1 hnL0_1 _ h Jk5 hk5
 change _ ∧ CZ N k2 (k5 + 1) s0 bi1 = _ at h
 rw [CZ] at h
 refine AB (.q (.q (.r []) (.c .z .z)) (.q (.q (.r []) (.c .z .z)) (.r []))) ?_
 replace h := AJ h
 rcases h with h | h
 replace h := AC h
 obtain ⟨x6, h⟩ := h
 replace h := AC h
 obtain ⟨y7, h⟩ := h
 simp (disch := omega) only [vm, seval, h.1]
 refine ⟨FV h.1.1 (by first | (simp (disch := omega) only [vm, seval, h.1]; done) | rfl) (i0 := i1) (by simp (disch := omega) only [vm, seval, h.1]) fun n8 hn8 => ?_⟩
 replace h := AJ h
 rcases h with h | h
 replace h := AC h
 obtain ⟨x9, h⟩ := h
 simp (disch := omega) only [vm, seval, h.1]
 refine ⟨hk5 (x9, y7.2) () _ _ _ _ h.2 slr ?_ ?_ ?_ (by omega)⟩ <;> first | (simp (disch := omega) only [vm, seval, h.1]; done) | rfl
 simp (disch := omega) only [vm, seval, h.1]
 refine ⟨hk2 (s0, y7.2) () _ _ _ _ h.2 slr ?_ ?_ ?_ (by omega)⟩ <;> first | (simp (disch := omega) only [vm, seval, h.1]; done) | rfl
 simp (disch := omega) only [vm, seval, h.1]
 refine ⟨hk2 (s0, bi1) () _ _ _ _ h.2 slr ?_ ?_ ?_ (by omega)⟩ <;> first | (simp (disch := omega) only [vm, seval, h.1]; done) | rfl
theorem Lb {a0 a1 r} (h : strings_HasPrefix N a0 a1 = some r) (ha : args = [.str a0, .str a1]) (hQ : ∀ n', n ≤ n' → Gl (Q (.bool r) ⟨m, n'⟩)) : ACall vE 102 args ⟨m, n⟩ Q := by
 rw [strings_HasPrefix] at h
 subst ha
 refine ent hQ Tryz.func102 rfl Tryz.ntmps102 Tryz.results102 (.q (.r []) (.q (.r []) .z)) fun R hR => ?_
 replace h := And.intro trivial h
 replace h := AC h
 obtain ⟨y1, h⟩ := h
 simp (disch := omega) only [vm, seval, h.1]
 refine ⟨Gg h.1.1 (by first | (simp (disch := omega) only [vm, seval, h.1]; done) | rfl) fun n2 hn2 => ?_⟩
 obtain ⟨H, h⟩ := h
 cases h
 simp (disch := omega) only [vm, seval, H]
 refine ⟨(hR _ _ _ _ _ _ (by simp (disch := omega) only [vm, seval, H]; rfl) slr ?_ (by omega) ?_).1⟩ <;> first | (simp (disch := omega) only [vm, seval, H]; done) | rfl
theorem Kr {a0 r} (h : GR N a0 = some r) (ha : args = [.str a0]) (hQ : ∀ n', n ≤ n' → Gl (Q (.int .i64 r) ⟨m, n'⟩)) : ACall vE 83 args ⟨m, n⟩ Q := by
 rw [GR] at h
 subst ha
 refine ent hQ Tryz.func83 rfl Tryz.ntmps83 Tryz.results83 (.q (.r []) (.q (.r []) .z)) fun R hR => ?_
 replace h := And.intro trivial h
 simp (disch := omega) only [vm, seval, h.1]
 refine ⟨AU (γ := Unit) h [4, 5, 6, 7, 8, 9, 10, 11, 12, 13, 14, 15] [3] (fun j1 g => [.int .i64 j1]) (fun j1 g => m) .z ?_ ?_⟩ <;> clear h
 rintro j1 _ n4 hnn4 _ _ h
 refine AB (.q (.r []) .z) ?_
 obtain ⟨H, h⟩ := h
 cases h
 simp (disch := omega) only [vm, seval, H]
 refine ⟨(hR _ _ _ _ _ _ (by simp (disch := omega) only [vm, seval, H]; rfl) slr ?_ (by omega) ?_).1⟩ <;> first | (simp (disch := omega) only [vm, seval, H]; done) | rfl
 intro k2 Jk2 hk2 h
 simp (disch := omega) only [vm, seval, h.1]
 refine ⟨Fz (σ := Int) (γ := Unit) (fun k s => EQ N a0 k2 k s) (fun s g => [.int .i64 s]) (fun s g => m) [4, 5, 6, 7, 8, 9, 10, 11, 12, 13, 14, 15] [3] 0 () h (fun _ => rfl) (by first | (simp (disch := omega) only [vm, seval, h.1]; done) | rfl) (by first | (simp (disch := omega) only [vm, seval, h.1]; done) | rfl) ?_⟩
 clear h
 rintro k5 s3 _ nL0_1 hnL0_1 _ h Jk5 hk5
 change _ ∧ EQ N a0 k2 (k5 + 1) s3 = _ at h
 rw [EQ] at h
 refine AB (.q .z (.r [])) ?_
 simp (disch := omega) only [vm, seval, h.1]
 refine ⟨AU (γ := Unit) h [4, 5, 6, 7, 8, 9, 10, 11, 12] [13] (fun j6 g => [.bool j6]) (fun j6 g => m) (.r []) ?_ ?_⟩ <;> clear h
 rintro j6 _ n9 hnn9 _ _ h
 refine AB (.c .z .z) ?_
 replace h := AJ h
 rcases h with h | h
 simp (disch := omega) only [vm, seval, h.1]
 refine ⟨hk5 (wr .i64 (s3 + 1)) () _ _ _ _ h.2 slr ?_ ?_ ?_ (by omega)⟩ <;> first | (simp (disch := omega) only [vm, seval, h.1]; done) | rfl
 simp (disch := omega) only [vm, seval, h.1]
 refine ⟨hk2 s3 () _ _ _ _ h.2 slr ?_ ?_ ?_ (by omega)⟩ <;> first | (simp (disch := omega) only [vm, seval, h.1]; done) | rfl
 intro k7 Jk7 hk7 h
 replace h := AJ h
 rcases h with h | h
 replace h := AC h
 obtain ⟨x10, h⟩ := h
 replace h := AC h
 obtain ⟨y11, h⟩ := h
 simp (disch := omega) only [vm, seval, h.1]
 refine ⟨KL h.1.1 (by first | (simp (disch := omega) only [vm, seval, h.1]; done) | rfl) fun n12 hn12 => ?_⟩
 simp (disch := omega) only [vm, seval, h.1]
 refine ⟨hk7 y11 () _ _ _ _ h.2 slr ?_ ?_ ?_ (by omega)⟩ <;> first | (simp (disch := omega) only [vm, seval, h.1]; done) | rfl
 simp (disch := omega) only [vm, seval, h.1]
 refine ⟨hk7 false () _ _ _ _ h.2 slr ?_ ?_ ?_ (by omega)⟩ <;> first | (simp (disch := omega) only [vm, seval, h.1]; done) | rfl
theorem Li {a0 a1 r} (h : GU N a0 a1 = some r) (ha : args = [.str a0, .str a1]) (hQ : ∀ n', n ≤ n' → Gl (Q (.int .i64 r) ⟨m, n'⟩)) : ACall vE 57 args ⟨m, n⟩ Q := by
 rw [GU] at h
 subst ha
 refine ent hQ Tryz.func57 rfl Tryz.ntmps57 Tryz.results57 (.q (.r []) .z) fun R hR => ?_
 replace h := And.intro trivial h
 simp (disch := omega) only [vm, seval, h.1]
 refine ⟨AU (γ := Unit) h [4, 5, 6, 7, 8, 9, 10, 11, 12, 13, 14, 15, 16, 17] [] (fun j1 g => []) (fun j1 g => m) (.q (.r []) .z) ?_ ?_⟩ <;> clear h
 rintro j1 _ n4 hnn4 _ _ h
 refine AB (.q (.r []) .z) ?_
 obtain ⟨H, h⟩ := h
 cases h
 simp (disch := omega) only [vm, seval, H]
 refine ⟨(hR _ _ _ _ _ _ (by simp (disch := omega) only [vm, seval, H]; rfl) slr ?_ (by omega) ?_).1⟩ <;> first | (simp (disch := omega) only [vm, seval, H]; done) | rfl
 intro k2 Jk2 hk2 h
 replace h := Ac h
 obtain ⟨hfk5, h⟩ := h
 simp (disch := omega) only [vm, seval, h.1]
 refine ⟨Da (σ := Unit) (γ := Unit) a0 hfk5 (fun xs i s => Cg N a1 k2 xs i) (fun i s g => [.int .i64 i]) (fun i s g => m) [4, 6, 7, 8, 9, 10, 11, 12, 13, 14, 15, 16, 17] [5] () () h (by first | (simp (disch := omega) only [vm, seval, h.1]; done) | rfl) (by first | (simp (disch := omega) only [vm, seval, h.1]; done) | rfl) ?_ ?_⟩ <;> clear h
 rintro s5 _ _ nL0_1 hnL0_1 _ h
 change _ ∧ Cg N a1 k2 [] s5 = _ at h
 rw [Cg] at h
 refine AB (.q (.q (.r []) (.c .z .z)) (.q (.q (.r []) (.c (.q (.r []) .z) .z)) (.r []))) ?_
 simp (disch := omega) only [vm, seval, h.1]
 refine ⟨hk2 () () _ _ _ _ h.2 slr ?_ ?_ ?_ (by omega)⟩ <;> first | (simp (disch := omega) only [vm, seval, h.1]; done) | rfl
 rintro xk5 xsk5 s5 _ _ nL0_1 hnL0_1 _ h Jk5 hk5
 change _ ∧ Cg N a1 k2 (xk5 :: xsk5) s5 = _ at h
 rw [Cg] at h
 refine AB (.q (.q (.r []) (.c .z .z)) (.q (.q (.r []) (.c (.q (.r []) .z) .z)) (.r []))) ?_
 replace h := AC h
 obtain ⟨y6, h⟩ := h
 simp (disch := omega) only [vm, seval, h.1]
 refine ⟨Jv h.1.1 (by first | (simp (disch := omega) only [vm, seval, h.1]; done) | rfl) fun n7 hn7 => ?_⟩
 replace h := AJ h
 rcases h with h | h
 obtain ⟨H, h⟩ := h
 cases h
 simp (disch := omega) only [vm, seval, H]
 refine ⟨(hR _ _ _ _ _ _ (by simp (disch := omega) only [vm, seval, H]; rfl) slr ?_ (by omega) ?_).1⟩ <;> first | (simp (disch := omega) only [vm, seval, H]; done) | rfl
 simp (disch := omega) only [vm, seval, h.1]
 refine ⟨hk5 () () _ _ _ _ h.2 slr ?_ ?_ ?_ (by omega)⟩ <;> first | (simp (disch := omega) only [vm, seval, h.1]; done) | rfl
end Go.Proofs.YtbmilkoebhmnnaaGreatDoor
