import Derived.Test.YtbmilkoebhmnnaaGreatDoorVmFacts
import Derived.Test.YtbmilkoebhmnnaaGreatDoorDefs
import Derived.Test.YtbmilkoebhmnnaaGreatDoorVM2
set_option linter.unusedVariables false
set_option linter.unusedSimpArgs false
set_option maxHeartbeats 4000000
set_option maxRecDepth 100000
set_option linter.defProp false
namespace Go.Proofs.YtbmilkoebhmnnaaGreatDoor
open Go.VM
variable {N n : Nat} {m : MS} {Q : PQ} {args : List AVal}
theorem R6 {a0 r} (h : H5 N a0 = some r) (ha : args = [.int .u8 a0]) (hQ : ∀ n', n ≤ n' → Gl (Q (.bool r) ⟨m, n'⟩)) : ACall vE 29 args ⟨m, n⟩ Q := by
 rw [H5] at h
 subst ha
 refine ent hQ Tryz.func29 rfl Tryz.ntmps29 Tryz.results29 (.q (.r []) (.q (.r []) .z)) fun R hR => ?_
 replace h := And.intro trivial h
 replace h := AJ h
 rcases h with h | h
 obtain ⟨H, h⟩ := h
 cases h
 simp (disch := omega) only [vm, seval, H]
 refine ⟨(hR _ _ _ _ _ _ (by simp (disch := omega) only [vm, seval, H]; rfl) slr ?_ (by omega) ?_).1⟩ <;> first | (simp (disch := omega) only [vm, seval, H]; done) | rfl
 replace h := AJ h
 rcases h with h | h
 obtain ⟨H, h⟩ := h
 cases h
 simp (disch := omega) only [vm, seval, H]
 refine ⟨(hR _ _ _ _ _ _ (by simp (disch := omega) only [vm, seval, H]; rfl) slr ?_ (by omega) ?_).1⟩ <;> first | (simp (disch := omega) only [vm, seval, H]; done) | rfl
 replace h := AJ h
 rcases h with h | h
 obtain ⟨H, h⟩ := h
 cases h
 simp (disch := omega) only [vm, seval, H]
 refine ⟨(hR _ _ _ _ _ _ (by simp (disch := omega) only [vm, seval, H]; rfl) slr ?_ (by omega) ?_).1⟩ <;> first | (simp (disch := omega) only [vm, seval, H]; done) | rfl
 obtain ⟨H, h⟩ := h
 cases h
 simp (disch := omega) only [vm, seval, H]
 refine ⟨(hR _ _ _ _ _ _ (by simp (disch := omega) only [vm, seval, H]; rfl) slr ?_ (by omega) ?_).1⟩ <;> first | (simp (disch := omega) only [vm, seval, H]; done) | rfl
theorem ES {a0 a1 r} (h : Ag N a0 a1 = some r) (ha : args = [.str a0, .int .u8 a1]) (hQ : ∀ n', n ≤ n' → Gl (Q (.int .i64 r) ⟨m, n'⟩)) : ACall vE 70 args ⟨m, n⟩ Q := by
 rw [Ag] at h
 subst ha
 refine ent hQ Tryz.func70 rfl Tryz.ntmps70 Tryz.results70 (.q (.r []) (.q (.r []) .z)) fun R hR => ?_
 replace h := And.intro trivial h
 simp (disch := omega) only [vm, seval, h.1]
 refine ⟨ALI ?_⟩
 obtain ⟨H, h⟩ := h
 cases h
 simp (disch := omega) only [vm, seval, H]
 refine ⟨(hR _ _ _ _ _ _ (by simp (disch := omega) only [vm, seval, H]; rfl) slr ?_ (by omega) ?_).1⟩ <;> first | (simp (disch := omega) only [vm, seval, H]; done) | rfl
theorem Jh {a0 r} (h : EC N a0 = some r) (ha : args = [.int .i64 a0]) (hQ : ∀ n', n ≤ n' → Gl (Q (.bool r) ⟨m, n'⟩)) : ACall vE 106 args ⟨m, n⟩ Q := by
 rw [EC] at h
 subst ha
 refine ent hQ Tryz.func106 rfl Tryz.ntmps106 Tryz.results106 (.q (.r []) (.q (.r []) .z)) fun R hR => ?_
 replace h := And.intro trivial h
 replace h := AJ h
 rcases h with h | h
 replace h := AJ h
 rcases h with h | h
 replace h := AJ h
 rcases h with h | h
 obtain ⟨H, h⟩ := h
 cases h
 simp (disch := omega) only [vm, seval, H]
 refine ⟨(hR _ _ _ _ _ _ (by simp (disch := omega) only [vm, seval, H]; rfl) slr ?_ (by omega) ?_).1⟩ <;> first | (simp (disch := omega) only [vm, seval, H]; done) | rfl
 obtain ⟨H, h⟩ := h
 cases h
 simp (disch := omega) only [vm, seval, H]
 refine ⟨(hR _ _ _ _ _ _ (by simp (disch := omega) only [vm, seval, H]; rfl) slr ?_ (by omega) ?_).1⟩ <;> first | (simp (disch := omega) only [vm, seval, H]; done) | rfl
 obtain ⟨H, h⟩ := h
 cases h
 simp (disch := omega) only [vm, seval, H]
 refine ⟨(hR _ _ _ _ _ _ (by simp (disch := omega) only [vm, seval, H]; rfl) slr ?_ (by omega) ?_).1⟩ <;> first | (simp (disch := omega) only [vm, seval, H]; done) | rfl
 obtain ⟨H, h⟩ := h
 cases h
 simp (disch := omega) only [vm, seval, H]
 refine ⟨(hR _ _ _ _ _ _ (by simp (disch := omega) only [vm, seval, H]; rfl) slr ?_ (by omega) ?_).1⟩ <;> first | (simp (disch := omega) only [vm, seval, H]; done) | rfl
theorem JZ {a0 r} {i0 : Nat} (h : Ew N a0 = some r) (ha : args = [.ptr i0 0]) (hi0 : Ao m i0 = some ([Hy i0 102 2 a0.addr, .buf 5 a0.buf true])) (hQ : ∀ n', n ≤ n' → Gl (Q (.str r.1) ⟨BH m i0 ([Hy i0 102 2 r.2.addr, .buf 5 r.2.buf false]), n'⟩)) : ACall vE 72 args ⟨m, n⟩ Q := by
 rw [Ew] at h
 subst ha
 refine ACall.front hi0 fun hin => ent (fun n' k => ⟨_, rfl, (hQ n' k).go⟩) Tryz.func72 rfl Tryz.ntmps72 Tryz.results72 (.q (.r []) (.q .z .z)) fun R hR => ?_
 replace h := And.intro trivial h
 simp (disch := omega) only [vm, seval, h.1]
 refine ⟨Au [6] (.take 0 (.take 1 (.take 2 (.take 5 (.take 6 (.take 7 (.take 8 (.take 9 (.alt 3 [9, 8, 7, 6, 5, 1, 0] (.alt 4 [9, 8, 7, 6, 5, 2, 1, 0] (.alt 10 [8, 7, 6, 5, 2, 1, 0] (.alt 11 [] (.done) (.stop)) (.stop)) (.stop)) (.stop)))))))))) Ah (by kernel_rfl) ?_⟩
 obtain ⟨H, h⟩ := h
 cases h
 simp (disch := omega) only [vm, seval, H]
 refine ⟨(hR _ _ _ _ _ _ (by simp (disch := omega) only [vm, seval, H]; rfl) slr ?_ (by omega) ?_).1⟩ <;> first | (simp (disch := omega) only [vm, seval, H]; done) | rfl
theorem E8 {a0 r} (h : DX N a0 = some r) (ha : args = [.int .u8 a0]) (hQ : ∀ n', n ≤ n' → Gl (Q (.bool r) ⟨m, n'⟩)) : ACall vE 48 args ⟨m, n⟩ Q := by
 rw [DX] at h
 subst ha
 refine ent hQ Tryz.func48 rfl Tryz.ntmps48 Tryz.results48 (.q (.r []) (.q (.r []) .z)) fun R hR => ?_
 replace h := And.intro trivial h
 replace h := AJ h
 rcases h with h | h
 obtain ⟨H, h⟩ := h
 cases h
 simp (disch := omega) only [vm, seval, H]
 refine ⟨(hR _ _ _ _ _ _ (by simp (disch := omega) only [vm, seval, H]; rfl) slr ?_ (by omega) ?_).1⟩ <;> first | (simp (disch := omega) only [vm, seval, H]; done) | rfl
 obtain ⟨H, h⟩ := h
 cases h
 simp (disch := omega) only [vm, seval, H]
 refine ⟨(hR _ _ _ _ _ _ (by simp (disch := omega) only [vm, seval, H]; rfl) slr ?_ (by omega) ?_).1⟩ <;> first | (simp (disch := omega) only [vm, seval, H]; done) | rfl
theorem LX {a0 r} {i0 : Nat} (h : FU N a0 = some r) (ha : args = [.ptr i0 0]) (hi0 : Ao m i0 = some ([.str a0.s, .int .i64 a0.at_])) (hQ : ∀ n', n ≤ n' → Gl (Q (.int .u8 r.1) ⟨BH m i0 ([.str r.2.s, .int .i64 r.2.at_]), n'⟩)) : ACall vE 91 args ⟨m, n⟩ Q := by
 rw [FU] at h
 subst ha
 refine ACall.front hi0 fun hin => ent (fun n' k => ⟨_, rfl, (hQ n' k).go⟩) Tryz.func91 rfl Tryz.ntmps91 Tryz.results91 (.q (.r []) (.q (.q .z (.c (.q .z .z) .z)) (.q (.r []) .z))) fun R hR => ?_
 replace h := And.intro trivial h
 simp (disch := omega) only [vm, seval, h.1]
 refine ⟨Au [] (.take 0 (.take 1 (.take 2 (.take 3 (.take 4 (.take 5 (.take 6 (.take 7 (.take 8 (.take 9 (.done))))))))))) Ah (by kernel_rfl) ?_⟩
 replace h := AJ h
 rcases h with h | h
 replace h := AC h
 obtain ⟨x1, h⟩ := h
 simp (disch := omega) only [vm, seval, h.1]
 refine ⟨Au [] (.take 0 (.take 1 (.take 2 (.take 3 (.take 4 (.take 5 (.take 6 (.take 7 (.take 8 (.alt 9 [] (.done) (.stop))))))))))) Ah (by kernel_rfl) ?_⟩
 obtain ⟨H, h⟩ := h
 cases h
 simp (disch := omega) only [vm, seval, H]
 refine ⟨(hR _ _ _ _ _ _ (by simp (disch := omega) only [vm, seval, H]; rfl) slr ?_ (by omega) ?_).1⟩ <;> first | (simp (disch := omega) only [vm, seval, H]; done) | rfl
 obtain ⟨H, h⟩ := h
 cases h
 simp (disch := omega) only [vm, seval, H]
 refine ⟨(hR _ _ _ _ _ _ (by simp (disch := omega) only [vm, seval, H]; rfl) slr ?_ (by omega) ?_).1⟩ <;> first | (simp (disch := omega) only [vm, seval, H]; done) | rfl
theorem IZ {a0 r} {i0 : Nat} (h : DR N a0 = some r) (ha : args = [.ptr i0 0]) (hi0 : Ao m i0 = some ([Hy i0 102 2 a0.addr, .buf 5 a0.buf true])) (hQ : ∀ n', n ≤ n' → Gl (Q (.tuple []) ⟨BH m i0 ([Hy i0 102 2 r.addr, .buf 5 r.buf true]), n'⟩)) : ACall vE 92 args ⟨m, n⟩ Q := by
 rw [DR] at h
 subst ha
 refine ACall.front hi0 fun hin => ent (fun n' k => ⟨_, rfl, (hQ n' k).go⟩) Tryz.func92 rfl Tryz.ntmps92 Tryz.results92 (.q (.r []) (.c (.r []) (.q (.r []) (.c .z .z)))) fun R hR => ?_
 replace h := And.intro trivial h
 replace h := AJ h
 rcases h with h | h
 obtain ⟨H, h⟩ := h
 cases h
 simp (disch := omega) only [vm, seval, H]
 refine ⟨(hR _ _ _ _ _ _ (by simp (disch := omega) only [vm, seval, H]; rfl) slr ?_ (by omega) ?_).2⟩ <;> first | (simp (disch := omega) only [vm, seval, H]; done) | rfl
 simp (disch := omega) only [vm, seval, h.1]
 refine ⟨AH1 ?_⟩
 obtain ⟨H, h⟩ := h
 cases h
 simp (disch := omega) only [vm, seval, H]
 refine ⟨(hR _ _ _ _ _ _ (by simp (disch := omega) only [vm, seval, H]; rfl) slr ?_ (by omega) ?_).2⟩ <;> first | (simp (disch := omega) only [vm, seval, H]; done) | rfl
theorem KJ {a0 r} (h : FJ N a0 = some r) (ha : args = [.int .u8 a0]) (hQ : ∀ n', n ≤ n' → Gl (Q (.bool r) ⟨m, n'⟩)) : ACall vE 50 args ⟨m, n⟩ Q := by
 rw [FJ] at h
 subst ha
 refine ent hQ Tryz.func50 rfl Tryz.ntmps50 Tryz.results50 (.q (.r []) (.q (.r []) .z)) fun R hR => ?_
 replace h := And.intro trivial h
 replace h := AJ h
 rcases h with h | h
 obtain ⟨H, h⟩ := h
 cases h
 simp (disch := omega) only [vm, seval, H]
 refine ⟨(hR _ _ _ _ _ _ (by simp (disch := omega) only [vm, seval, H]; rfl) slr ?_ (by omega) ?_).1⟩ <;> first | (simp (disch := omega) only [vm, seval, H]; done) | rfl
 obtain ⟨H, h⟩ := h
 cases h
 simp (disch := omega) only [vm, seval, H]
 refine ⟨(hR _ _ _ _ _ _ (by simp (disch := omega) only [vm, seval, H]; rfl) slr ?_ (by omega) ?_).1⟩ <;> first | (simp (disch := omega) only [vm, seval, H]; done) | rfl
theorem PI {a0 r} (h : Hq N a0 = some r) (ha : args = [Er a0]) (hQ : ∀ n', n ≤ n' → Gl (Q (.bool r) ⟨m, n'⟩)) : ACall vE 52 args ⟨m, n⟩ Q := by
 rw [Hq] at h
 subst ha
 refine ent hQ Tryz.func52 rfl Tryz.ntmps52 Tryz.results52 (.q (.r []) (.q (.q (.r []) .z) (.q (.r []) .z))) fun R hR => ?_
 replace h := And.intro trivial h
 simp (disch := omega) only [vm, seval, h.1]
 refine ⟨AU (γ := Unit) h [6, 7, 8] [5] (fun j1 g => [.bool j1]) (fun j1 g => (n, [.int .i64 a0.kind, .str a0.text, .int .i64 a0.at_]) :: m) (.q (.r []) (.c .z (.q (.r []) (.c .z (.r []))))) ?_ ?_⟩ <;> clear h
 rintro j1 _ n4 hnn4 _ _ h
 refine AB (.c (.q (.r []) .z) .z) ?_
 replace h := AJ h
 rcases h with h | h
 obtain ⟨H, h⟩ := h
 cases h
 simp (disch := omega) only [vm, seval, H]
 refine ⟨(hR _ _ _ _ _ _ (by simp (disch := omega) only [vm, seval, H]; rfl) (.cons _ slr) ?_ (by omega) ?_).1⟩ <;> first | (simp (disch := omega) only [vm, seval, H]; done) | rfl
 replace h := AJ h
 rcases h with h | h
 replace h := AJ h
 rcases h with h | h
 obtain ⟨H, h⟩ := h
 cases h
 simp (disch := omega) only [vm, seval, H]
 refine ⟨(hR _ _ _ _ _ _ (by simp (disch := omega) only [vm, seval, H]; rfl) (.cons _ slr) ?_ (by omega) ?_).1⟩ <;> first | (simp (disch := omega) only [vm, seval, H]; done) | rfl
 obtain ⟨H, h⟩ := h
 cases h
 simp (disch := omega) only [vm, seval, H]
 refine ⟨(hR _ _ _ _ _ _ (by simp (disch := omega) only [vm, seval, H]; rfl) (.cons _ slr) ?_ (by omega) ?_).1⟩ <;> first | (simp (disch := omega) only [vm, seval, H]; done) | rfl
 obtain ⟨H, h⟩ := h
 cases h
 simp (disch := omega) only [vm, seval, H]
 refine ⟨(hR _ _ _ _ _ _ (by simp (disch := omega) only [vm, seval, H]; rfl) (.cons _ slr) ?_ (by omega) ?_).1⟩ <;> first | (simp (disch := omega) only [vm, seval, H]; done) | rfl
 intro k2 Jk2 hk2 h
 replace h := AJ h
 rcases h with h | h
 simp (disch := omega) only [vm, seval, h.1]
 refine ⟨hk2 (a0.kind == 3) () _ _ _ _ h.2 slr ?_ ?_ ?_ (by omega)⟩ <;> first | (simp (disch := omega) only [vm, seval, h.1]; done) | rfl
 replace h := AJ h
 rcases h with h | h
 simp (disch := omega) only [vm, seval, h.1]
 refine ⟨hk2 (a0.kind == 4) () _ _ _ _ h.2 slr ?_ ?_ ?_ (by omega)⟩ <;> first | (simp (disch := omega) only [vm, seval, h.1]; done) | rfl
 simp (disch := omega) only [vm, seval, h.1]
 refine ⟨hk2 (a0.kind == 5) () _ _ _ _ h.2 slr ?_ ?_ ?_ (by omega)⟩ <;> first | (simp (disch := omega) only [vm, seval, h.1]; done) | rfl
theorem Rt {a0 r} (h : H7 N a0 = some r) (ha : args = [.str a0]) (hQ : ∀ n', n ≤ n' → Gl (Q (.str r) ⟨m, n'⟩)) : ACall vE 78 args ⟨m, n⟩ Q := by
 rw [H7] at h
 subst ha
 refine ent hQ Tryz.func78 rfl Tryz.ntmps78 Tryz.results78 (.q (.r []) (.q (.r []) .z)) fun R hR => ?_
 replace h := And.intro trivial h
 simp (disch := omega) only [vm, seval, h.1]
 refine ⟨AU (γ := Unit) h [4, 5, 8, 9, 10, 11, 12, 13, 14, 15, 16, 17, 18, 19, 20, 21, 22, 23, 24, 25, 26] [] (fun j1 g => []) (fun j1 g => (n, List.map (AVal.int .u8) j1) :: m) (.q (.r []) .z) ?_ ?_⟩ <;> clear h
 rintro j1 _ n4 hnn4 _ _ h
 refine AB (.q (.r []) .z) ?_
 replace h := Ac h
 obtain ⟨c, h⟩ := h
 try simp only [liE, seval] at c
 replace h := Aa c h
 obtain ⟨H, h⟩ := h
 cases h
 simp (disch := omega) only [vm, seval, H]
 refine ⟨(hR _ _ _ _ _ _ (by simp (disch := omega) only [vm, seval, H]; rfl) (.cons _ slr) ?_ (by omega) ?_).1⟩ <;> first | (simp (disch := omega) only [vm, seval, H]; done) | rfl
 intro k2 Jk2 hk2 h
 replace h := Ac h
 obtain ⟨hfk5, h⟩ := h
 simp (disch := omega) only [vm, seval, h.1]
 refine ⟨Da (σ := (List Int)) (γ := Unit) a0 hfk5 (fun xs i s => Cf N a0 k2 xs i s) (fun i s g => [.int .i64 i]) (fun i s g => (n, List.map (AVal.int .u8) s) :: m) [4, 5, 11, 12, 13, 14, 15, 16, 17, 18, 19, 20, 21, 22, 23, 24, 25, 26] [10] (List.map AL a0) () h (by first | (simp (disch := omega) only [vm, seval, h.1]; done) | rfl) (by first | (simp (disch := omega) only [vm, seval, h.1]; done) | rfl) ?_ ?_⟩ <;> clear h
 rintro s10 bn _ nL0_1 hnL0_1 _ h
 change _ ∧ Cf N a0 k2 [] s10 bn = _ at h
 rw [Cf] at h
 refine AB (.q (.r []) (.q (.c .z .z) .z)) ?_
 simp (disch := omega) only [vm, seval, h.1]
 refine ⟨hk2 bn () _ _ _ _ h.2 slr ?_ ?_ ?_ (by omega)⟩ <;> first | (simp (disch := omega) only [vm, seval, h.1]; done) | rfl
 rintro xk5 xsk5 s10 bn _ nL0_1 hnL0_1 _ h Jk5 hk5
 change _ ∧ Cf N a0 k2 (xk5 :: xsk5) s10 bn = _ at h
 rw [Cf] at h
 refine AB (.q (.r []) (.q (.c .z .z) .z)) ?_
 simp (disch := omega) only [vm, seval, h.1]
 refine ⟨AU (γ := Unit) h [4, 5, 12, 13, 14, 15, 16, 17, 18, 19, 20, 21, 22, 23, 24, 25] [] (fun j6 g => []) (fun j6 g => (n, List.map (AVal.int .u8) j6) :: m) (.q (.r []) .z) ?_ ?_⟩ <;> clear h
 rintro j6 _ n9 hnn9 _ _ h
 refine AB (.r []) ?_
 simp (disch := omega) only [vm, seval, h.1]
 refine ⟨hk5 j6 () _ _ _ _ h.2 slr ?_ ?_ ?_ (by omega)⟩ <;> first | (simp (disch := omega) only [vm, seval, h.1]; done) | rfl
 intro k7 Jk7 hk7 h
 replace h := Ac h
 obtain ⟨c, h⟩ := h
 try simp only [liE, seval] at c
 replace h := Aa c h
 replace h := AC h
 obtain ⟨x10, h⟩ := h
 simp (disch := omega) only [vm, seval, h.1]
 refine ⟨AU (γ := Unit) h [15, 16, 17, 18, 19] [20] (fun j11 g => [.bool j11]) (fun j11 g => (n, List.map (AVal.int .u8) bn) :: m) (.r []) ?_ ?_⟩ <;> clear h
 rintro j11 _ n14 hnn14 _ _ h
 refine AB (.c (.r []) .z) ?_
 replace h := AJ h
 rcases h with h | h
 replace h := Ac h
 obtain ⟨c, h⟩ := h
 try simp only [liE, seval] at c
 replace h := Aa c h
 simp (disch := omega) only [vm, seval, h.1]
 refine ⟨hk7 (bn.set s10.toNat (wr .u8 (x10 + 32))) () _ _ _ _ h.2 slr ?_ ?_ ?_ (by omega)⟩ <;> first | (simp (disch := omega) only [vm, seval, h.1]; done) | rfl
 simp (disch := omega) only [vm, seval, h.1]
 refine ⟨hk7 bn () _ _ _ _ h.2 slr ?_ ?_ ?_ (by omega)⟩ <;> first | (simp (disch := omega) only [vm, seval, h.1]; done) | rfl
 intro k12 Jk12 hk12 h
 replace h := AJ h
 rcases h with h | h
 simp (disch := omega) only [vm, seval, h.1]
 refine ⟨hk12 (decide (x10 ≤ 90)) () _ _ _ _ h.2 slr ?_ ?_ ?_ (by omega)⟩ <;> first | (simp (disch := omega) only [vm, seval, h.1]; done) | rfl
 simp (disch := omega) only [vm, seval, h.1]
 refine ⟨hk12 false () _ _ _ _ h.2 slr ?_ ?_ ?_ (by omega)⟩ <;> first | (simp (disch := omega) only [vm, seval, h.1]; done) | rfl
theorem J2 {a0 a1 r} (h : strings_trimLeftByte N a0 a1 = some r) (ha : args = [.str a0, .int .u8 a1]) (hQ : ∀ n', n ≤ n' → Gl (Q (.str r) ⟨m, n'⟩)) : ACall vE 94 args ⟨m, n⟩ Q := by
 rw [strings_trimLeftByte] at h
 subst ha
 refine ent hQ Tryz.func94 rfl Tryz.ntmps94 Tryz.results94 (.q (.r []) .z) fun R hR => ?_
 replace h := And.intro trivial h
 simp (disch := omega) only [vm, seval, h.1]
 refine ⟨AU (γ := Unit) h [5, 6, 7, 8, 9, 10, 11, 12, 13, 14, 15] [0] (fun j1 g => [.str j1]) (fun j1 g => m) .z ?_ ?_⟩ <;> clear h
 rintro j1 _ n4 hnn4 _ _ h
 refine AB (.q (.r []) .z) ?_
 obtain ⟨H, h⟩ := h
 cases h
 simp (disch := omega) only [vm, seval, H]
 refine ⟨(hR _ _ _ _ _ _ (by simp (disch := omega) only [vm, seval, H]; rfl) slr ?_ (by omega) ?_).1⟩ <;> first | (simp (disch := omega) only [vm, seval, H]; done) | rfl
 intro k2 Jk2 hk2 h
 simp (disch := omega) only [vm, seval, h.1]
 refine ⟨Fz (σ := (List UInt8)) (γ := Unit) (fun k s => BR N a1 k2 k s) (fun s g => [.str s]) (fun s g => m) [5, 6, 7, 8, 9, 10, 11, 12, 13, 14, 15] [0] a0 () h (fun _ => rfl) (by first | (simp (disch := omega) only [vm, seval, h.1]; done) | rfl) (by first | (simp (disch := omega) only [vm, seval, h.1]; done) | rfl) ?_⟩
 clear h
 rintro k5 s0 _ nL0_1 hnL0_1 _ h Jk5 hk5
 change _ ∧ BR N a1 k2 (k5 + 1) s0 = _ at h
 rw [BR] at h
 refine AB (.q .z (.r [])) ?_
 simp (disch := omega) only [vm, seval, h.1]
 refine ⟨AU (γ := Unit) h [5, 6, 7, 8, 9, 10, 11, 12] [13] (fun j6 g => [.bool j6]) (fun j6 g => m) (.r []) ?_ ?_⟩ <;> clear h
 rintro j6 _ n9 hnn9 _ _ h
 refine AB (.c .z .z) ?_
 replace h := AJ h
 rcases h with h | h
 replace h := AC h
 obtain ⟨x11, h⟩ := h
 simp (disch := omega) only [vm, seval, h.1]
 refine ⟨hk5 x11 () _ _ _ _ h.2 slr ?_ ?_ ?_ (by omega)⟩ <;> first | (simp (disch := omega) only [vm, seval, h.1]; done) | rfl
 simp (disch := omega) only [vm, seval, h.1]
 refine ⟨hk2 s0 () _ _ _ _ h.2 slr ?_ ?_ ?_ (by omega)⟩ <;> first | (simp (disch := omega) only [vm, seval, h.1]; done) | rfl
 intro k7 Jk7 hk7 h
 replace h := AJ h
 rcases h with h | h
 replace h := AC h
 obtain ⟨x10, h⟩ := h
 simp (disch := omega) only [vm, seval, h.1]
 refine ⟨hk7 ((AL x10) == a1) () _ _ _ _ h.2 slr ?_ ?_ ?_ (by omega)⟩ <;> first | (simp (disch := omega) only [vm, seval, h.1]; done) | rfl
 simp (disch := omega) only [vm, seval, h.1]
 refine ⟨hk7 false () _ _ _ _ h.2 slr ?_ ?_ ?_ (by omega)⟩ <;> first | (simp (disch := omega) only [vm, seval, h.1]; done) | rfl
theorem Gn {a0 r} (h : strings_makeASCIISet N a0 = some r) (ha : args = [.str a0]) (hQ : ∀ n', n ≤ n' → Gl (Q (.tuple [.agg (List.map AVal.bool r.1), .bool r.2]) ⟨m, n'⟩)) : ACall vE 95 args ⟨m, n⟩ Q := by
 rw [strings_makeASCIISet] at h
 subst ha
 refine ent hQ Tryz.func95 rfl Tryz.ntmps95 Tryz.results95 (.q (.r []) .z) fun R hR => ?_
 replace h := And.intro trivial h
 simp (disch := omega) only [vm, seval, h.1]
 refine ⟨AU (γ := Unit) h [3, 4, 5, 6, 7, 8, 9, 10, 11, 12, 13, 14, 15, 16, 17, 18, 19] [] (fun j1 g => []) (fun j1 g => (n, List.map AVal.bool j1) :: m) (.q (.r []) .z) ?_ ?_⟩ <;> clear h
 rintro j1 _ n4 hnn4 _ _ h
 refine AB (.q (.r []) .z) ?_
 replace h := Ac h
 obtain ⟨c, h⟩ := h
 try simp only [liE, seval] at c
 replace h := Aa c h
 obtain ⟨H, h⟩ := h
 cases h
 simp (disch := omega) only [vm, seval, H]
 refine ⟨(hR _ _ _ _ _ _ (by simp (disch := omega) only [vm, seval, H]; rfl) (.cons _ slr) ?_ (by omega) ?_).1⟩ <;> first | (simp (disch := omega) only [vm, seval, H]; done) | rfl
 intro k2 Jk2 hk2 h
 replace h := Ac h
 obtain ⟨hfk5, h⟩ := h
 simp (disch := omega) only [vm, seval, h.1]
 refine ⟨Da (σ := (List Bool)) (γ := Unit) a0 hfk5 (fun xs i s => A7 N k2 xs s) (fun i s g => [.int .i64 i]) (fun i s g => (n, List.map AVal.bool s) :: m) [3, 5, 6, 7, 8, 9, 10, 11, 12, 13, 14, 15, 16, 17, 18, 19] [4] (Vd 256) () h (by first | (simp (disch := omega) only [vm, seval, h.1]; done) | rfl) (by first | (simp (disch := omega) only [vm, seval, h.1]; done) | rfl) ?_ ?_⟩ <;> clear h
 rintro s4 bn _ nL0_1 hnL0_1 _ h
 change _ ∧ A7 N k2 [] bn = _ at h
 rw [A7] at h
 refine AB (.q (.q (.r []) (.c .z .z)) (.q (.q (.r []) (.q (.q (.r []) (.c (.q (.r []) .z) .z)) (.r []))) (.r []))) ?_
 simp (disch := omega) only [vm, seval, h.1]
 refine ⟨hk2 bn () _ _ _ _ h.2 slr ?_ ?_ ?_ (by omega)⟩ <;> first | (simp (disch := omega) only [vm, seval, h.1]; done) | rfl
 rintro xk5 xsk5 s4 bn _ nL0_1 hnL0_1 _ h Jk5 hk5
 change _ ∧ A7 N k2 (xk5 :: xsk5) bn = _ at h
 rw [A7] at h
 refine AB (.q (.q (.r []) (.c .z .z)) (.q (.q (.r []) (.q (.q (.r []) (.c (.q (.r []) .z) .z)) (.r []))) (.r []))) ?_
 replace h := AJ h
 rcases h with h | h
 replace h := Ac h
 obtain ⟨c, h⟩ := h
 try simp only [liE, seval] at c
 replace h := Aa c h
 obtain ⟨H, h⟩ := h
 cases h
 simp (disch := omega) only [vm, seval, H]
 refine ⟨(hR _ _ _ _ _ _ (by simp (disch := omega) only [vm, seval, H]; rfl) (.cons _ slr) ?_ (by omega) ?_).1⟩ <;> first | (simp (disch := omega) only [vm, seval, H]; done) | rfl
 replace h := Ac h
 obtain ⟨c, h⟩ := h
 try simp only [liE, seval] at c
 replace h := Aa c h
 replace h := Ac h
 obtain ⟨c, h⟩ := h
 try simp only [liE, seval] at c
 replace h := Aa c h
 simp (disch := omega) only [vm, seval, h.1]
 refine ⟨hk5 (bn.set ((AL xk5).toNat) true) () _ _ _ _ h.2 slr ?_ ?_ ?_ (by omega)⟩ <;> first | (simp (disch := omega) only [vm, seval, h.1]; done) | rfl
theorem FV {a0 a1 r} {i0 : Nat} (h : Bq N a0 a1 = some r) (ha : args = [.ptr i0 0, .int .u8 a1]) (hi0 : Ao m i0 = some (List.map AVal.bool a0)) (hQ : ∀ n', n ≤ n' → Gl (Q (.bool r.1) ⟨BH m i0 (List.map AVal.bool r.2), n'⟩)) : ACall vE 110 args ⟨m, n⟩ Q := by
 rw [Bq] at h
 subst ha
 refine ACall.front hi0 fun hin => ent (fun n' k => ⟨_, rfl, (hQ n' k).go⟩) Tryz.func110 rfl Tryz.ntmps110 Tryz.results110 (.q (.r []) (.q (.r []) .z)) fun R hR => ?_
 replace h := And.intro trivial h
 replace h := Ac h
 obtain ⟨c, h⟩ := h
 try simp only [liE, seval] at c
 replace h := Aa c h
 replace h := AC h
 obtain ⟨x1, h⟩ := h
 obtain ⟨H, h⟩ := h
 cases h
 simp (disch := omega) only [vm, seval, H]
 refine ⟨(hR _ _ _ _ _ _ (by simp (disch := omega) only [vm, seval, H]; rfl) slr ?_ (by omega) ?_).1⟩ <;> first | (simp (disch := omega) only [vm, seval, H]; done) | rfl
theorem Fy {a0 r} (h : Ch N a0 = some r) (ha : args = [.str a0]) (hQ : ∀ n', n ≤ n' → Gl (Q (.tuple [.int .i32 r.1, .int .i64 r.2]) ⟨m, n'⟩)) : ACall vE 122 args ⟨m, n⟩ Q := by
 rw [Ch] at h
 subst ha
 refine ent hQ Tryz.func122 rfl Tryz.ntmps122 Tryz.results122 (.q (.r []) (.q (.r []) (.q (.q (.r []) (.c (.q (.r []) .z) .z)) (.q (.r []) (.q (.r []) (.q (.q (.r []) (.c (.q (.r []) (.q (.r []) .z)) .z)) (.q (.r []) (.q (.r []) (.q (.q (.r []) (.c (.q (.r []) .z) .z)) (.q (.r []) (.q .z (.q (.q (.r []) (.c (.q (.r []) .z) .z)) (.q (.r []) (.q .z (.q (.q (.r []) (.c (.q (.r []) .z) .z)) (.q (.r []) (.q .z (.q (.r []) .z)))))))))))))))))) fun R hR => ?_
 replace h := And.intro trivial h
 replace h := AJ h
 rcases h with h | h
 obtain ⟨H, h⟩ := h
 cases h
 simp (disch := omega) only [vm, seval, H]
 refine ⟨(hR _ _ _ _ _ _ (by simp (disch := omega) only [vm, seval, H]; rfl) slr ?_ (by omega) ?_).1⟩ <;> first | (simp (disch := omega) only [vm, seval, H]; done) | rfl
 replace h := AC h
 obtain ⟨x1, h⟩ := h
 cases h.2
theorem JX {a0 r} (h : Ey N a0 = some r) (ha : args = [.int .i32 a0]) (hQ : ∀ n', n ≤ n' → Gl (Q (.bool r) ⟨m, n'⟩)) : ACall vE 128 args ⟨m, n⟩ Q := by
 rw [Ey] at h
 subst ha
 refine ent hQ Tryz.func128 rfl Tryz.ntmps128 Tryz.results128 (.q (.r []) (.q .z (.q (.r []) .z))) fun R hR => ?_
 replace h := And.intro trivial h
 simp (disch := omega) only [vm, seval, h.1]
 refine ⟨AU (γ := Unit) h [4, 5, 6, 7, 8, 9] [3] (fun j1 g => [.bool j1]) (fun j1 g => m) (.r []) ?_ ?_⟩ <;> clear h
 rintro j1 _ n4 hnn4 _ _ h
 refine AB (.c (.q (.r []) .z) .z) ?_
 replace h := AJ h
 rcases h with h | h
 obtain ⟨H, h⟩ := h
 cases h
 simp (disch := omega) only [vm, seval, H]
 refine ⟨(hR _ _ _ _ _ _ (by simp (disch := omega) only [vm, seval, H]; rfl) slr ?_ (by omega) ?_).1⟩ <;> first | (simp (disch := omega) only [vm, seval, H]; done) | rfl
 simp (disch := omega) only [vm, seval, h.1]
 refine ⟨AU (γ := Unit) h [11, 12, 13, 14, 15, 16] [10] (fun j5 g => [.bool j5]) (fun j5 g => m) (.r []) ?_ ?_⟩ <;> clear h
 rintro j5 _ n8 hnn8 _ _ h
 refine AB (.c (.q (.r []) .z) .z) ?_
 replace h := AJ h
 rcases h with h | h
 obtain ⟨H, h⟩ := h
 cases h
 simp (disch := omega) only [vm, seval, H]
 refine ⟨(hR _ _ _ _ _ _ (by simp (disch := omega) only [vm, seval, H]; rfl) slr ?_ (by omega) ?_).1⟩ <;> first | (simp (disch := omega) only [vm, seval, H]; done) | rfl
 obtain ⟨H, h⟩ := h
 cases h
 simp (disch := omega) only [vm, seval, H]
 refine ⟨(hR _ _ _ _ _ _ (by simp (disch := omega) only [vm, seval, H]; rfl) slr ?_ (by omega) ?_).1⟩ <;> first | (simp (disch := omega) only [vm, seval, H]; done) | rfl
 intro k6 Jk6 hk6 h
 replace h := AJ h
 rcases h with h | h
 simp (disch := omega) only [vm, seval, h.1]
 refine ⟨hk6 (decide (a0 ≤ 1114111)) () _ _ _ _ h.2 slr ?_ ?_ ?_ (by omega)⟩ <;> first | (simp (disch := omega) only [vm, seval, h.1]; done) | rfl
 simp (disch := omega) only [vm, seval, h.1]
 refine ⟨hk6 false () _ _ _ _ h.2 slr ?_ ?_ ?_ (by omega)⟩ <;> first | (simp (disch := omega) only [vm, seval, h.1]; done) | rfl
 intro k2 Jk2 hk2 h
 replace h := AJ h
 rcases h with h | h
 simp (disch := omega) only [vm, seval, h.1]
 refine ⟨hk2 (decide (a0 < 55296)) () _ _ _ _ h.2 slr ?_ ?_ ?_ (by omega)⟩ <;> first | (simp (disch := omega) only [vm, seval, h.1]; done) | rfl
 simp (disch := omega) only [vm, seval, h.1]
 refine ⟨hk2 false () _ _ _ _ h.2 slr ?_ ?_ ?_ (by omega)⟩ <;> first | (simp (disch := omega) only [vm, seval, h.1]; done) | rfl
theorem Je {a0 a1 r} (h : strings_trimRightByte N a0 a1 = some r) (ha : args = [.str a0, .int .u8 a1]) (hQ : ∀ n', n ≤ n' → Gl (Q (.str r) ⟨m, n'⟩)) : ACall vE 98 args ⟨m, n⟩ Q := by
 rw [strings_trimRightByte] at h
 subst ha
 refine ent hQ Tryz.func98 rfl Tryz.ntmps98 Tryz.results98 (.q (.r []) .z) fun R hR => ?_
 replace h := And.intro trivial h
 simp (disch := omega) only [vm, seval, h.1]
 refine ⟨AU (γ := Unit) h [5, 6, 7, 8, 9, 10, 11, 12, 13, 14, 15, 16, 17, 18, 19, 20, 21] [0] (fun j1 g => [.str j1]) (fun j1 g => m) .z ?_ ?_⟩ <;> clear h
 rintro j1 _ n4 hnn4 _ _ h
 refine AB (.q (.r []) .z) ?_
 obtain ⟨H, h⟩ := h
 cases h
 simp (disch := omega) only [vm, seval, H]
 refine ⟨(hR _ _ _ _ _ _ (by simp (disch := omega) only [vm, seval, H]; rfl) slr ?_ (by omega) ?_).1⟩ <;> first | (simp (disch := omega) only [vm, seval, H]; done) | rfl
 intro k2 Jk2 hk2 h
 simp (disch := omega) only [vm, seval, h.1]
 refine ⟨Fz (σ := (List UInt8)) (γ := Unit) (fun k s => BK N a1 k2 k s) (fun s g => [.str s]) (fun s g => m) [5, 6, 7, 8, 9, 10, 11, 12, 13, 14, 15, 16, 17, 18, 19, 20, 21] [0] a0 () h (fun _ => rfl) (by first | (simp (disch := omega) only [vm, seval, h.1]; done) | rfl) (by first | (simp (disch := omega) only [vm, seval, h.1]; done) | rfl) ?_⟩
 clear h
 rintro k5 s0 _ nL0_1 hnL0_1 _ h Jk5 hk5
 change _ ∧ BK N a1 k2 (k5 + 1) s0 = _ at h
 rw [BK] at h
 refine AB (.q .z (.r [])) ?_
 simp (disch := omega) only [vm, seval, h.1]
 refine ⟨AU (γ := Unit) h [5, 6, 7, 8, 9, 10, 11, 12, 13, 14, 15] [16] (fun j6 g => [.bool j6]) (fun j6 g => m) (.r []) ?_ ?_⟩ <;> clear h
 rintro j6 _ n9 hnn9 _ _ h
 refine AB (.c .z .z) ?_
 replace h := AJ h
 rcases h with h | h
 replace h := AC h
 obtain ⟨x11, h⟩ := h
 simp (disch := omega) only [vm, seval, h.1]
 refine ⟨hk5 x11 () _ _ _ _ h.2 slr ?_ ?_ ?_ (by omega)⟩ <;> first | (simp (disch := omega) only [vm, seval, h.1]; done) | rfl
 simp (disch := omega) only [vm, seval, h.1]
 refine ⟨hk2 s0 () _ _ _ _ h.2 slr ?_ ?_ ?_ (by omega)⟩ <;> first | (simp (disch := omega) only [vm, seval, h.1]; done) | rfl
 intro k7 Jk7 hk7 h
 replace h := AJ h
 rcases h with h | h
 replace h := AC h
 obtain ⟨x10, h⟩ := h
 simp (disch := omega) only [vm, seval, h.1]
 refine ⟨hk7 ((AL x10) == a1) () _ _ _ _ h.2 slr ?_ ?_ ?_ (by omega)⟩ <;> first | (simp (disch := omega) only [vm, seval, h.1]; done) | rfl
 simp (disch := omega) only [vm, seval, h.1]
 refine ⟨hk7 false () _ _ _ _ h.2 slr ?_ ?_ ?_ (by omega)⟩ <;> first | (simp (disch := omega) only [vm, seval, h.1]; done) | rfl
theorem JV {a0 r} (h : Ez N a0 = some r) (ha : args = [.int .u8 a0]) (hQ : ∀ n', n ≤ n' → Gl (Q (.bool r) ⟨m, n'⟩)) : ACall vE 124 args ⟨m, n⟩ Q := by
 rw [Ez] at h
 subst ha
 refine ent hQ Tryz.func124 rfl Tryz.ntmps124 Tryz.results124 (.q (.r []) (.q (.r []) .z)) fun R hR => ?_
 replace h := And.intro trivial h
 obtain ⟨H, h⟩ := h
 cases h
 simp (disch := omega) only [vm, seval, H]
 refine ⟨(hR _ _ _ _ _ _ (by simp (disch := omega) only [vm, seval, H]; rfl) slr ?_ (by omega) ?_).1⟩ <;> first | (simp (disch := omega) only [vm, seval, H]; done) | rfl
theorem Gg {a0 a1 r} (h : CV N a0 a1 = some r) (ha : args = [.str a0, .str a1]) (hQ : ∀ n', n ≤ n' → Gl (Q (.bool r) ⟨m, n'⟩)) : ACall vE 115 args ⟨m, n⟩ Q := by
 rw [CV] at h
 subst ha
 refine ent hQ Tryz.func115 rfl Tryz.ntmps115 Tryz.results115 (.q (.r []) (.q (.r []) .z)) fun R hR => ?_
 replace h := And.intro trivial h
 replace h := AJ h
 rcases h with h | h
 replace h := AC h
 obtain ⟨x1, h⟩ := h
 obtain ⟨H, h⟩ := h
 cases h
 simp (disch := omega) only [vm, seval, H]
 refine ⟨(hR _ _ _ _ _ _ (by simp (disch := omega) only [vm, seval, H]; rfl) slr ?_ (by omega) ?_).1⟩ <;> first | (simp (disch := omega) only [vm, seval, H]; done) | rfl
 obtain ⟨H, h⟩ := h
 cases h
 simp (disch := omega) only [vm, seval, H]
 refine ⟨(hR _ _ _ _ _ _ (by simp (disch := omega) only [vm, seval, H]; rfl) slr ?_ (by omega) ?_).1⟩ <;> first | (simp (disch := omega) only [vm, seval, H]; done) | rfl
theorem KO {a0 r} (h : FI N a0 = some r) (ha : args = [.int .u64 a0]) (hQ : ∀ n', n ≤ n' → Gl (Q (.str r) ⟨m, n'⟩)) : ACall vE 82 args ⟨m, n⟩ Q := by
 rw [FI] at h
 subst ha
 refine ent hQ Tryz.func82 rfl Tryz.ntmps82 Tryz.results82 (.q (.r []) (.q (.r []) (.q (.r []) .z))) fun R hR => ?_
 replace h := And.intro trivial h
 simp (disch := omega) only [vm, seval, h.1]
 refine ⟨AU (γ := Unit) h [5, 6, 7, 8, 9, 10, 11, 12, 13, 14, 15, 16] [0, 4] (fun j1 g => [.int .u64 j1.1, .int .i64 j1.2.1]) (fun j1 g => (n, List.map (AVal.int .u8) j1.2.2) :: m) .z ?_ ?_⟩ <;> clear h
 rintro j1 _ n4 hnn4 _ _ h
 refine AB (.q (.r []) (.q (.r []) .z)) ?_
 replace h := Ac h
 obtain ⟨c, h⟩ := h
 try simp only [liE, seval] at c
 replace h := Aa c h
 replace h := Ac h
 obtain ⟨c, h⟩ := h
 try simp only [liE, seval] at c
 replace h := Aa c h
 replace h := Ac h
 obtain ⟨c, h⟩ := h
 try simp only [liE, seval] at c
 replace h := Aa c h
 replace h := Ac h
 obtain ⟨c, h⟩ := h
 try simp only [liE, seval] at c
 replace h := Aa c h
 obtain ⟨H, h⟩ := h
 cases h
 simp (disch := omega) only [vm, seval, H]
 refine ⟨(hR _ _ _ _ _ _ (by simp (disch := omega) only [vm, seval, H]; rfl) (.cons _ slr) ?_ (by omega) ?_).1⟩ <;> first | (simp (disch := omega) only [vm, seval, H]; done) | rfl
 intro k2 Jk2 hk2 h
 simp (disch := omega) only [vm, seval, h.1]
 refine ⟨Fz (σ := Int × Int × (List Int)) (γ := Unit) (fun k s => DU N k2 k s.1 s.2.1 s.2.2) (fun s g => [.int .u64 s.1, .int .i64 s.2.1]) (fun s g => (n, List.map (AVal.int .u8) s.2.2) :: m) [5, 6, 7, 8, 9, 10, 11, 12, 13, 14, 15, 16] [0, 4] (a0, 19, (List.replicate 20 0)) () h (fun _ => rfl) (by first | (simp (disch := omega) only [vm, seval, h.1]; done) | rfl) (by first | (simp (disch := omega) only [vm, seval, h.1]; done) | rfl) ?_⟩
 clear h
 rintro k5 ⟨s0, s4, bn⟩ _ nL0_1 hnL0_1 _ h Jk5 hk5
 change _ ∧ DU N k2 (k5 + 1) s0 s4 bn = _ at h
 rw [DU] at h
 refine AB (.q (.q (.r []) (.c .z .z)) (.q (.q (.r []) (.r [])) (.r []))) ?_
 replace h := AJ h
 rcases h with h | h
 replace h := Ac h
 obtain ⟨c, h⟩ := h
 try simp only [liE, seval] at c
 replace h := Aa c h
 replace h := Ac h
 obtain ⟨c, h⟩ := h
 try simp only [liE, seval] at c
 replace h := Aa c h
 simp (disch := omega) only [vm, seval, h.1]
 refine ⟨hk5 ((wr .u64 (s0.tdiv 10)), (wr .i64 (s4 - 1)), (bn.set s4.toNat (wr .u8 (wr .u64 (48 + (s0.tmod 10)))))) () _ _ _ _ h.2 slr ?_ ?_ ?_ (by omega)⟩ <;> first | (simp (disch := omega) only [vm, seval, h.1]; done) | rfl
 simp (disch := omega) only [vm, seval, h.1]
 refine ⟨hk2 (s0, s4, bn) () _ _ _ _ h.2 slr ?_ ?_ ?_ (by omega)⟩ <;> first | (simp (disch := omega) only [vm, seval, h.1]; done) | rfl
theorem Jy {a0 a1 r} (h : GJ N a0 a1 = some r) (ha : args = [.str a0, .int .i64 a1]) (hQ : ∀ n', n ≤ n' → Gl (Q (.str r) ⟨m, n'⟩)) : ACall vE 59 args ⟨m, n⟩ Q := by
 rw [GJ] at h
 subst ha
 refine ent hQ Tryz.func59 rfl Tryz.ntmps59 Tryz.results59 (.q (.r []) (.q (.q (.r []) (.c (.q (.r []) .z) .z)) (.q (.r []) .z))) fun R hR => ?_
 replace h := And.intro trivial h
 replace h := AJ h
 rcases h with h | h
 obtain ⟨H, h⟩ := h
 cases h
 simp (disch := omega) only [vm, seval, H]
 refine ⟨(hR _ _ _ _ _ _ (by simp (disch := omega) only [vm, seval, H]; rfl) slr ?_ (by omega) ?_).1⟩ <;> first | (simp (disch := omega) only [vm, seval, H]; done) | rfl
 replace h := AC h
 obtain ⟨x1, h⟩ := h
 obtain ⟨H, h⟩ := h
 cases h
 simp (disch := omega) only [vm, seval, H]
 refine ⟨(hR _ _ _ _ _ _ (by simp (disch := omega) only [vm, seval, H]; rfl) slr ?_ (by omega) ?_).1⟩ <;> first | (simp (disch := omega) only [vm, seval, H]; done) | rfl
theorem Jv {a0 a1 r} (h : Gt N a0 a1 = some r) (ha : args = [.int .u8 a0, .str a1]) (hQ : ∀ n', n ≤ n' → Gl (Q (.bool r) ⟨m, n'⟩)) : ACall vE 62 args ⟨m, n⟩ Q := by
 rw [Gt] at h
 subst ha
 refine ent hQ Tryz.func62 rfl Tryz.ntmps62 Tryz.results62 (.q (.r []) .z) fun R hR => ?_
 replace h := And.intro trivial h
 simp (disch := omega) only [vm, seval, h.1]
 refine ⟨AU (γ := Unit) h [4, 5, 6, 7, 8, 9, 10, 11, 12, 13, 14, 15, 16] [] (fun j1 g => []) (fun j1 g => m) (.q (.r []) .z) ?_ ?_⟩ <;> clear h
 rintro j1 _ n4 hnn4 _ _ h
 refine AB (.q (.r []) .z) ?_
 obtain ⟨H, h⟩ := h
 cases h
 simp (disch := omega) only [vm, seval, H]
 refine ⟨(hR _ _ _ _ _ _ (by simp (disch := omega) only [vm, seval, H]; rfl) slr ?_ (by omega) ?_).1⟩ <;> first | (simp (disch := omega) only [vm, seval, H]; done) | rfl
 intro k2 Jk2 hk2 h
 replace h := Ac h
 obtain ⟨hfk5, h⟩ := h
 simp (disch := omega) only [vm, seval, h.1]
 refine ⟨Da (σ := Unit) (γ := Unit) a1 hfk5 (fun xs i s => D6 N a0 k2 xs) (fun i s g => [.int .i64 i]) (fun i s g => m) [4, 6, 7, 8, 9, 10, 11, 12, 13, 14, 15, 16] [5] () () h (by first | (simp (disch := omega) only [vm, seval, h.1]; done) | rfl) (by first | (simp (disch := omega) only [vm, seval, h.1]; done) | rfl) ?_ ?_⟩ <;> clear h
 rintro s5 _ _ nL0_1 hnL0_1 _ h
 change _ ∧ D6 N a0 k2 [] = _ at h
 rw [D6] at h
 refine AB (.q (.q (.r []) (.c .z .z)) (.q (.q (.r []) (.c (.q (.r []) .z) .z)) (.r []))) ?_
 simp (disch := omega) only [vm, seval, h.1]
 refine ⟨hk2 () () _ _ _ _ h.2 slr ?_ ?_ ?_ (by omega)⟩ <;> first | (simp (disch := omega) only [vm, seval, h.1]; done) | rfl
 rintro xk5 xsk5 s5 _ _ nL0_1 hnL0_1 _ h Jk5 hk5
 change _ ∧ D6 N a0 k2 (xk5 :: xsk5) = _ at h
 rw [D6] at h
 refine AB (.q (.q (.r []) (.c .z .z)) (.q (.q (.r []) (.c (.q (.r []) .z) .z)) (.r []))) ?_
 replace h := AJ h
 rcases h with h | h
 obtain ⟨H, h⟩ := h
 cases h
 simp (disch := omega) only [vm, seval, H]
 refine ⟨(hR _ _ _ _ _ _ (by simp (disch := omega) only [vm, seval, H]; rfl) slr ?_ (by omega) ?_).1⟩ <;> first | (simp (disch := omega) only [vm, seval, H]; done) | rfl
 simp (disch := omega) only [vm, seval, h.1]
 refine ⟨hk5 () () _ _ _ _ h.2 slr ?_ ?_ ?_ (by omega)⟩ <;> first | (simp (disch := omega) only [vm, seval, h.1]; done) | rfl
theorem KL {a0 r} (h : FL N a0 = some r) (ha : args = [.int .u8 a0]) (hQ : ∀ n', n ≤ n' → Gl (Q (.bool r) ⟨m, n'⟩)) : ACall vE 64 args ⟨m, n⟩ Q := by
 rw [FL] at h
 subst ha
 refine ent hQ Tryz.func64 rfl Tryz.ntmps64 Tryz.results64 (.q (.r []) (.q (.r []) .z)) fun R hR => ?_
 replace h := And.intro trivial h
 replace h := AJ h
 rcases h with h | h
 obtain ⟨H, h⟩ := h
 cases h
 simp (disch := omega) only [vm, seval, H]
 refine ⟨(hR _ _ _ _ _ _ (by simp (disch := omega) only [vm, seval, H]; rfl) slr ?_ (by omega) ?_).1⟩ <;> first | (simp (disch := omega) only [vm, seval, H]; done) | rfl
 obtain ⟨H, h⟩ := h
 cases h
 simp (disch := omega) only [vm, seval, H]
 refine ⟨(hR _ _ _ _ _ _ (by simp (disch := omega) only [vm, seval, H]; rfl) slr ?_ (by omega) ?_).1⟩ <;> first | (simp (disch := omega) only [vm, seval, H]; done) | rfl
theorem KY {a0 r} (h : Fx N a0 = some r) (ha : args = [.int .u64 a0]) (hQ : ∀ n', n ≤ n' → Gl (Q (.str r) ⟨m, n'⟩)) : ACall vE 60 args ⟨m, n⟩ Q := by
 rw [Fx] at h
 subst ha
 refine ent hQ Tryz.func60 rfl Tryz.ntmps60 Tryz.results60 (.q (.r []) (.q (.r []) .z)) fun R hR => ?_
 replace h := And.intro trivial h
 simp (disch := omega) only [vm, seval, h.1]
 refine ⟨Fz (σ := Int × (List UInt8)) (γ := Unit) (fun k s => Dp N k s.1 s.2) (fun s g => [.int .u64 s.1, .str s.2]) (fun s g => m) [2, 4, 5, 6, 7, 8, 9, 10, 11, 12, 13, 14, 15, 16] [0, 3] (a0, []) () h (fun _ => rfl) (by first | (simp (disch := omega) only [vm, seval, h.1]; done) | rfl) (by first | (simp (disch := omega) only [vm, seval, h.1]; done) | rfl) ?_⟩
 clear h
 rintro k1 ⟨s0, s3⟩ _ nL0_1 hnL0_1 _ h Jk1 hk1
 change _ ∧ Dp N (k1 + 1) s0 s3 = _ at h
 rw [Dp] at h
 refine AB (.q (.r []) (.q (.r []) (.q (.r []) (.c (.q (.r []) .z) .z)))) ?_
 replace h := Ac h
 obtain ⟨c, h⟩ := h
 try simp only [liE, seval] at c
 replace h := Aa c h
 replace h := AJ h
 rcases h with h | h
 obtain ⟨H, h⟩ := h
 cases h
 simp (disch := omega) only [vm, seval, H]
 refine ⟨(hR _ _ _ _ _ _ (by simp (disch := omega) only [vm, seval, H]; rfl) slr ?_ (by omega) ?_).1⟩ <;> first | (simp (disch := omega) only [vm, seval, H]; done) | rfl
 simp (disch := omega) only [vm, seval, h.1]
 refine ⟨hk1 ((wr .u64 (s0.tdiv 10)), ((List.map EN [(wr .u8 (wr .u64 (48 + (s0.tmod 10))))]) ++ s3)) () _ _ _ _ h.2 slr ?_ ?_ ?_ (by omega)⟩ <;> first | (simp (disch := omega) only [vm, seval, h.1]; done) | rfl
theorem Ra {a0 r} (h : IA N a0 = some r) (ha : args = [.int .i64 a0]) (hQ : ∀ n', n ≤ n' → Gl (Q (.bool r) ⟨m, n'⟩)) : ACall vE 117 args ⟨m, n⟩ Q := by
 rw [IA] at h
 subst ha
 refine ent hQ Tryz.func117 rfl Tryz.ntmps117 Tryz.results117 (.q (.r []) (.q (.r []) .z)) fun R hR => ?_
 replace h := And.intro trivial h
 replace h := AJ h
 rcases h with h | h
 replace h := AJ h
 rcases h with h | h
 replace h := AJ h
 rcases h with h | h
 obtain ⟨H, h⟩ := h
 cases h
 simp (disch := omega) only [vm, seval, H]
 refine ⟨(hR _ _ _ _ _ _ (by simp (disch := omega) only [vm, seval, H]; rfl) slr ?_ (by omega) ?_).1⟩ <;> first | (simp (disch := omega) only [vm, seval, H]; done) | rfl
 obtain ⟨H, h⟩ := h
 cases h
 simp (disch := omega) only [vm, seval, H]
 refine ⟨(hR _ _ _ _ _ _ (by simp (disch := omega) only [vm, seval, H]; rfl) slr ?_ (by omega) ?_).1⟩ <;> first | (simp (disch := omega) only [vm, seval, H]; done) | rfl
 obtain ⟨H, h⟩ := h
 cases h
 simp (disch := omega) only [vm, seval, H]
 refine ⟨(hR _ _ _ _ _ _ (by simp (disch := omega) only [vm, seval, H]; rfl) slr ?_ (by omega) ?_).1⟩ <;> first | (simp (disch := omega) only [vm, seval, H]; done) | rfl
 obtain ⟨H, h⟩ := h
 cases h
 simp (disch := omega) only [vm, seval, H]
 refine ⟨(hR _ _ _ _ _ _ (by simp (disch := omega) only [vm, seval, H]; rfl) slr ?_ (by omega) ?_).1⟩ <;> first | (simp (disch := omega) only [vm, seval, H]; done) | rfl
theorem RV {a0 r} (h : Es N a0 = some r) (ha : args = [.str a0]) (hQ : ∀ n', n ≤ n' → Gl (Q (.int .i64 r) ⟨m, n'⟩)) : ACall vE 105 args ⟨m, n⟩ Q := by
 rw [Es] at h
 subst ha
 refine ent hQ Tryz.func105 rfl Tryz.ntmps105 Tryz.results105 (.q (.r []) (.q (.q (.r []) (.c (.q (.r []) .z) .z)) (.q .z .z))) fun R hR => ?_
 replace h := And.intro trivial h
 replace h := AJ h
 rcases h with h | h
 replace h := AC h
 obtain ⟨x1, h⟩ := h
 obtain ⟨H, h⟩ := h
 cases h
 simp (disch := omega) only [vm, seval, H]
 refine ⟨(hR _ _ _ _ _ _ (by simp (disch := omega) only [vm, seval, H]; rfl) slr ?_ (by omega) ?_).1⟩ <;> first | (simp (disch := omega) only [vm, seval, H]; done) | rfl
 replace h := AC h
 obtain ⟨x2, h⟩ := h
 replace h := Ac h
 obtain ⟨c, h⟩ := h
 try simp only [liE, seval] at c
 replace h := Aa c h
 simp (disch := omega) only [vm, seval, h.1]
 refine ⟨Au [] (.take 0 (.take 1 (.take 2 (.take 3 (.take 4 (.take 5 (.take 6 (.take 7 (.take 8 (.alt 9 [] (.done) (.stop))))))))))) Ah (by kernel_rfl) ?_⟩
 simp (disch := omega) only [vm, seval, h.1]
 refine ⟨AU (γ := Unit) h [4, 20, 21, 22, 23, 24, 25, 26, 27, 28, 29, 30, 31, 32, 33] [3] (fun j3 g => [.int .i64 j3]) (fun j3 g => m) (.q (.r []) .z) ?_ ?_⟩ <;> clear h
 rintro j3 _ n6 hnn6 _ _ h
 refine AB (.q (.r []) .z) ?_
 obtain ⟨H, h⟩ := h
 cases h
 simp (disch := omega) only [vm, seval, H]
 refine ⟨(hR _ _ _ _ _ _ (by simp (disch := omega) only [vm, seval, H]; rfl) slr ?_ (by omega) ?_).1⟩ <;> first | (simp (disch := omega) only [vm, seval, H]; done) | rfl
 intro k4 Jk4 hk4 h
 replace h := Ac h
 obtain ⟨hfk7, h⟩ := h
 simp (disch := omega) only [vm, seval, h.1]
 refine ⟨Qt (σ := Int) (γ := Unit) 1 (a0.length : Int) hfk7 (fun xs i s => Bj N a0 k4 xs i s) (fun i s g => [.int .i64 s, .int .i64 i]) (fun i s g => m) [20, 21, 22, 23, 24, 25, 26, 27, 28, 29, 30, 31, 32, 33] [3, 4] (BM .i64 (wr .i64 (AL x2)) (wr .i64 ((MM .i64 1 (wr .i64 (7 - (a0.length : Int)))) - 1))) () h (by first | (simp (disch := omega) only [vm, seval, h.1]; done) | rfl) (by first | (simp (disch := omega) only [vm, seval, h.1]; done) | rfl) ?_ ?_⟩ <;> clear h
 rintro s4 s3 _ nL0_1 hnL0_1 _ h
 change _ ∧ Bj N a0 k4 0 s4 s3 = _ at h
 rw [Bj] at h
 refine AB (.q (.q (.r []) (.c .z .z)) (.q (.r []) (.r []))) ?_
 simp (disch := omega) only [vm, seval, h.1]
 refine ⟨hk4 s3 () _ _ _ _ h.2 slr ?_ ?_ ?_ (by omega)⟩ <;> first | (simp (disch := omega) only [vm, seval, h.1]; done) | rfl
 rintro xsk7 s4 s3 _ nL0_1 hnL0_1 _ h Jk7 hk7
 change _ ∧ Bj N a0 k4 (xsk7 + 1) s4 s3 = _ at h
 rw [Bj] at h
 refine AB (.q (.q (.r []) (.c .z .z)) (.q (.r []) (.r []))) ?_
 replace h := AC h
 obtain ⟨x8, h⟩ := h
 simp (disch := omega) only [vm, seval, h.1]
 refine ⟨hk7 (El .i64 (MM .i64 s3 6) (BM .i64 (wr .i64 (AL x8)) 63)) () _ _ _ _ h.2 slr ?_ ?_ ?_ (by omega)⟩ <;> first | (simp (disch := omega) only [vm, seval, h.1]; done) | rfl
end Go.Proofs.YtbmilkoebhmnnaaGreatDoor
