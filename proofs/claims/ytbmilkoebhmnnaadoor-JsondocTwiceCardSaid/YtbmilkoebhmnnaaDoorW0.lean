import Derived.Test.YtbmilkoebhmnnaaDoorVmFacts
import Derived.Test.YtbmilkoebhmnnaaDoorDefs
import Derived.Test.YtbmilkoebhmnnaaDoorVM2
set_option linter.unusedVariables false
set_option linter.unusedSimpArgs false
set_option maxHeartbeats 4000000
set_option maxRecDepth 100000
set_option linter.defProp false
namespace Go.Proofs.YtbmilkoebhmnnaaDoor
open Go.VM
variable {N n : Nat} {m : MS} {Q : PQ} {args : List AVal}
theorem Q8 {a0 r} (h : Hz N a0 = some r) (ha : args = [.int .u8 a0]) (hQ : ∀ n', n ≤ n' → Gl (Q (.bool r) ⟨m, n'⟩)) : ACall vE 19 args ⟨m, n⟩ Q := by
 rw [Hz] at h
 subst ha
 refine ent hQ Tryd.func19 rfl Tryd.ntmps19 Tryd.results19 (.q (.r []) (.q (.r []) .z)) fun R hR => ?_
 replace h := And.intro trivial h
 replace h := AC h
 rcases h with h | h
 obtain ⟨H, h⟩ := h
 cases h
 simp (disch := omega) only [vm, seval, H]
 refine ⟨(hR _ _ _ _ _ _ (by simp (disch := omega) only [vm, seval, H]; rfl) slr ?_ (by omega) ?_).1⟩ <;> first | (simp (disch := omega) only [vm, seval, H]; done) | rfl
 replace h := AC h
 rcases h with h | h
 obtain ⟨H, h⟩ := h
 cases h
 simp (disch := omega) only [vm, seval, H]
 refine ⟨(hR _ _ _ _ _ _ (by simp (disch := omega) only [vm, seval, H]; rfl) slr ?_ (by omega) ?_).1⟩ <;> first | (simp (disch := omega) only [vm, seval, H]; done) | rfl
 replace h := AC h
 rcases h with h | h
 obtain ⟨H, h⟩ := h
 cases h
 simp (disch := omega) only [vm, seval, H]
 refine ⟨(hR _ _ _ _ _ _ (by simp (disch := omega) only [vm, seval, H]; rfl) slr ?_ (by omega) ?_).1⟩ <;> first | (simp (disch := omega) only [vm, seval, H]; done) | rfl
 obtain ⟨H, h⟩ := h
 cases h
 simp (disch := omega) only [vm, seval, H]
 refine ⟨(hR _ _ _ _ _ _ (by simp (disch := omega) only [vm, seval, H]; rfl) slr ?_ (by omega) ?_).1⟩ <;> first | (simp (disch := omega) only [vm, seval, H]; done) | rfl
theorem EI {a0 a1 r} (h : Ae N a0 a1 = some r) (ha : args = [.str a0, .int .u8 a1]) (hQ : ∀ n', n ≤ n' → Gl (Q (.int .i64 r) ⟨m, n'⟩)) : ACall vE 43 args ⟨m, n⟩ Q := by
 rw [Ae] at h
 subst ha
 refine ent hQ Tryd.func43 rfl Tryd.ntmps43 Tryd.results43 (.q (.r []) (.q (.r []) .z)) fun R hR => ?_
 replace h := And.intro trivial h
 simp (disch := omega) only [vm, seval, h.1]
 refine ⟨AIv ?_⟩
 obtain ⟨H, h⟩ := h
 cases h
 simp (disch := omega) only [vm, seval, H]
 refine ⟨(hR _ _ _ _ _ _ (by simp (disch := omega) only [vm, seval, H]; rfl) slr ?_ (by omega) ?_).1⟩ <;> first | (simp (disch := omega) only [vm, seval, H]; done) | rfl
theorem JN {a0 r} (h : D7 N a0 = some r) (ha : args = [.int .i64 a0]) (hQ : ∀ n', n ≤ n' → Gl (Q (.bool r) ⟨m, n'⟩)) : ACall vE 81 args ⟨m, n⟩ Q := by
 rw [D7] at h
 subst ha
 refine ent hQ Tryd.func81 rfl Tryd.ntmps81 Tryd.results81 (.q (.r []) (.q (.r []) .z)) fun R hR => ?_
 replace h := And.intro trivial h
 replace h := AC h
 rcases h with h | h
 replace h := AC h
 rcases h with h | h
 replace h := AC h
 rcases h with h | h
 obtain ⟨H, h⟩ := h
 cases h
 simp (disch := omega) only [vm, seval, H]
 refine ⟨(hR _ _ _ _ _ _ (by simp (disch := omega) only [vm, seval, H]; rfl) slr ?_ (by omega) ?_).1⟩ <;> first | (simp (disch := omega) only [vm, seval, H]; done) | rfl
 obtain ⟨H, h⟩ := h
 cases h
 simp (disch := omega) only [vm, seval, H]
 refine ⟨(hR _ _ _ _ _ _ (by simp (disch := omega) only [vm, seval, H]; rfl) slr ?_ (by omega) ?_).1⟩ <;> first | (simp (disch := omega) only [vm, seval, H]; done) | rfl
 obtain ⟨H, h⟩ := h
 cases h
 simp (disch := omega) only [vm, seval, H]
 refine ⟨(hR _ _ _ _ _ _ (by simp (disch := omega) only [vm, seval, H]; rfl) slr ?_ (by omega) ?_).1⟩ <;> first | (simp (disch := omega) only [vm, seval, H]; done) | rfl
 obtain ⟨H, h⟩ := h
 cases h
 simp (disch := omega) only [vm, seval, H]
 refine ⟨(hR _ _ _ _ _ _ (by simp (disch := omega) only [vm, seval, H]; rfl) slr ?_ (by omega) ?_).1⟩ <;> first | (simp (disch := omega) only [vm, seval, H]; done) | rfl
theorem JF {a0 r} {i0 : Nat} (h : Eu N a0 = some r) (ha : args = [.ptr i0 0]) (hi0 : Ap m i0 = some ([Hw i0 80 2 a0.addr, .buf 5 a0.buf true])) (hQ : ∀ n', n ≤ n' → Gl (Q (.str r.1) ⟨BH m i0 ([Hw i0 80 2 r.2.addr, .buf 5 r.2.buf false]), n'⟩)) : ACall vE 45 args ⟨m, n⟩ Q := by
 rw [Eu] at h
 subst ha
 refine ACall.front hi0 fun hin => ent (fun n' k => ⟨_, rfl, (hQ n' k).go⟩) Tryd.func45 rfl Tryd.ntmps45 Tryd.results45 (.q (.r []) (.q .z .z)) fun R hR => ?_
 replace h := And.intro trivial h
 simp (disch := omega) only [vm, seval, h.1]
 refine ⟨Ar [6] (.take 0 (.take 1 (.take 2 (.take 5 (.take 6 (.take 7 (.take 8 (.take 9 (.alt 3 [9, 8, 7, 6, 5, 1, 0] (.alt 4 [9, 8, 7, 6, 5, 2, 1, 0] (.alt 10 [8, 7, 6, 5, 2, 1, 0] (.alt 11 [] (.done) (.stop)) (.stop)) (.stop)) (.stop)))))))))) Ah (by kernel_rfl) ?_⟩
 obtain ⟨H, h⟩ := h
 cases h
 simp (disch := omega) only [vm, seval, H]
 refine ⟨(hR _ _ _ _ _ _ (by simp (disch := omega) only [vm, seval, H]; rfl) slr ?_ (by omega) ?_).1⟩ <;> first | (simp (disch := omega) only [vm, seval, H]; done) | rfl
theorem Ey {a0 r} (h : DL N a0 = some r) (ha : args = [.int .u8 a0]) (hQ : ∀ n', n ≤ n' → Gl (Q (.bool r) ⟨m, n'⟩)) : ACall vE 31 args ⟨m, n⟩ Q := by
 rw [DL] at h
 subst ha
 refine ent hQ Tryd.func31 rfl Tryd.ntmps31 Tryd.results31 (.q (.r []) (.q (.r []) .z)) fun R hR => ?_
 replace h := And.intro trivial h
 replace h := AC h
 rcases h with h | h
 obtain ⟨H, h⟩ := h
 cases h
 simp (disch := omega) only [vm, seval, H]
 refine ⟨(hR _ _ _ _ _ _ (by simp (disch := omega) only [vm, seval, H]; rfl) slr ?_ (by omega) ?_).1⟩ <;> first | (simp (disch := omega) only [vm, seval, H]; done) | rfl
 obtain ⟨H, h⟩ := h
 cases h
 simp (disch := omega) only [vm, seval, H]
 refine ⟨(hR _ _ _ _ _ _ (by simp (disch := omega) only [vm, seval, H]; rfl) slr ?_ (by omega) ?_).1⟩ <;> first | (simp (disch := omega) only [vm, seval, H]; done) | rfl
theorem LG {a0 r} {i0 : Nat} (h : FU N a0 = some r) (ha : args = [.ptr i0 0]) (hi0 : Ap m i0 = some ([.str a0.s, .int .i64 a0.at_])) (hQ : ∀ n', n ≤ n' → Gl (Q (.int .u8 r.1) ⟨BH m i0 ([.str r.2.s, .int .i64 r.2.at_]), n'⟩)) : ACall vE 63 args ⟨m, n⟩ Q := by
 rw [FU] at h
 subst ha
 refine ACall.front hi0 fun hin => ent (fun n' k => ⟨_, rfl, (hQ n' k).go⟩) Tryd.func63 rfl Tryd.ntmps63 Tryd.results63 (.q (.r []) (.q (.q .z (.c (.q .z .z) .z)) (.q (.r []) .z))) fun R hR => ?_
 replace h := And.intro trivial h
 simp (disch := omega) only [vm, seval, h.1]
 refine ⟨Ar [] (.take 0 (.take 1 (.take 2 (.take 3 (.take 4 (.take 5 (.take 6 (.take 7 (.take 8 (.take 9 (.done))))))))))) Ah (by kernel_rfl) ?_⟩
 replace h := AC h
 rcases h with h | h
 replace h := AB h
 obtain ⟨x1, h⟩ := h
 simp (disch := omega) only [vm, seval, h.1]
 refine ⟨Ar [] (.take 0 (.take 1 (.take 2 (.take 3 (.take 4 (.take 5 (.take 6 (.take 7 (.take 8 (.alt 9 [] (.done) (.stop))))))))))) Ah (by kernel_rfl) ?_⟩
 obtain ⟨H, h⟩ := h
 cases h
 simp (disch := omega) only [vm, seval, H]
 refine ⟨(hR _ _ _ _ _ _ (by simp (disch := omega) only [vm, seval, H]; rfl) slr ?_ (by omega) ?_).1⟩ <;> first | (simp (disch := omega) only [vm, seval, H]; done) | rfl
 obtain ⟨H, h⟩ := h
 cases h
 simp (disch := omega) only [vm, seval, H]
 refine ⟨(hR _ _ _ _ _ _ (by simp (disch := omega) only [vm, seval, H]; rfl) slr ?_ (by omega) ?_).1⟩ <;> first | (simp (disch := omega) only [vm, seval, H]; done) | rfl
theorem IQ {a0 r} {i0 : Nat} (h : DF N a0 = some r) (ha : args = [.ptr i0 0]) (hi0 : Ap m i0 = some ([Hw i0 80 2 a0.addr, .buf 5 a0.buf true])) (hQ : ∀ n', n ≤ n' → Gl (Q (.tuple []) ⟨BH m i0 ([Hw i0 80 2 r.addr, .buf 5 r.buf true]), n'⟩)) : ACall vE 64 args ⟨m, n⟩ Q := by
 rw [DF] at h
 subst ha
 refine ACall.front hi0 fun hin => ent (fun n' k => ⟨_, rfl, (hQ n' k).go⟩) Tryd.func64 rfl Tryd.ntmps64 Tryd.results64 (.q (.r []) (.c (.r []) (.q (.r []) (.c .z .z)))) fun R hR => ?_
 replace h := And.intro trivial h
 replace h := AC h
 rcases h with h | h
 obtain ⟨H, h⟩ := h
 cases h
 simp (disch := omega) only [vm, seval, H]
 refine ⟨(hR _ _ _ _ _ _ (by simp (disch := omega) only [vm, seval, H]; rfl) slr ?_ (by omega) ?_).2⟩ <;> first | (simp (disch := omega) only [vm, seval, H]; done) | rfl
 simp (disch := omega) only [vm, seval, h.1]
 refine ⟨AIm ?_⟩
 obtain ⟨H, h⟩ := h
 cases h
 simp (disch := omega) only [vm, seval, H]
 refine ⟨(hR _ _ _ _ _ _ (by simp (disch := omega) only [vm, seval, H]; rfl) slr ?_ (by omega) ?_).2⟩ <;> first | (simp (disch := omega) only [vm, seval, H]; done) | rfl
theorem J2 {a0 r} (h : FK N a0 = some r) (ha : args = [.int .u8 a0]) (hQ : ∀ n', n ≤ n' → Gl (Q (.bool r) ⟨m, n'⟩)) : ACall vE 33 args ⟨m, n⟩ Q := by
 rw [FK] at h
 subst ha
 refine ent hQ Tryd.func33 rfl Tryd.ntmps33 Tryd.results33 (.q (.r []) (.q (.r []) .z)) fun R hR => ?_
 replace h := And.intro trivial h
 replace h := AC h
 rcases h with h | h
 obtain ⟨H, h⟩ := h
 cases h
 simp (disch := omega) only [vm, seval, H]
 refine ⟨(hR _ _ _ _ _ _ (by simp (disch := omega) only [vm, seval, H]; rfl) slr ?_ (by omega) ?_).1⟩ <;> first | (simp (disch := omega) only [vm, seval, H]; done) | rfl
 obtain ⟨H, h⟩ := h
 cases h
 simp (disch := omega) only [vm, seval, H]
 refine ⟨(hR _ _ _ _ _ _ (by simp (disch := omega) only [vm, seval, H]; rfl) slr ?_ (by omega) ?_).1⟩ <;> first | (simp (disch := omega) only [vm, seval, H]; done) | rfl
theorem O4 {a0 r} (h : Hf N a0 = some r) (ha : args = [Ej a0]) (hQ : ∀ n', n ≤ n' → Gl (Q (.bool r) ⟨m, n'⟩)) : ACall vE 35 args ⟨m, n⟩ Q := by
 rw [Hf] at h
 subst ha
 refine ent hQ Tryd.func35 rfl Tryd.ntmps35 Tryd.results35 (.q (.r []) (.q (.q (.r []) .z) (.q (.r []) .z))) fun R hR => ?_
 replace h := And.intro trivial h
 simp (disch := omega) only [vm, seval, h.1]
 refine ⟨AX (γ := Unit) h [6, 7, 8] [5] (fun j1 g => [.bool j1]) (fun j1 g => (n, [.int .i64 a0.kind, .str a0.text, .int .i64 a0.at_]) :: m) (.q (.r []) (.c .z (.q (.r []) (.c .z (.r []))))) ?_ ?_⟩ <;> clear h
 rintro j1 _ n4 hnn4 _ _ h
 refine AA (.c (.q (.r []) .z) .z) ?_
 replace h := AC h
 rcases h with h | h
 obtain ⟨H, h⟩ := h
 cases h
 simp (disch := omega) only [vm, seval, H]
 refine ⟨(hR _ _ _ _ _ _ (by simp (disch := omega) only [vm, seval, H]; rfl) (.cons _ slr) ?_ (by omega) ?_).1⟩ <;> first | (simp (disch := omega) only [vm, seval, H]; done) | rfl
 replace h := AC h
 rcases h with h | h
 replace h := AC h
 rcases h with h | h
 obtain ⟨H, h⟩ := h
 cases h
 simp (disch := omega) only [vm, seval, H]
 refine ⟨(hR _ _ _ _ _ _ (by simp (disch := omega) only [vm, seval, H]; rfl) (.cons _ slr) ?_ (by omega) ?_).1⟩ <;> first | (simp (disch := omega) only [vm, seval, H]; done) | rfl
 obtain ⟨H, h⟩ := h
 cases h
 simp (disch := omega) only [vm, seval, H]
 refine ⟨(hR _ _ _ _ _ _ (by simp (disch := omega) only [vm, seval, H]; rfl) (.cons _ slr) ?_ (by omega) ?_).1⟩ <;> first | (simp (disch := omega) only [vm, seval, H]; done) | rfl
 obtain ⟨H, h⟩ := h
 cases h
 simp (disch := omega) only [vm, seval, H]
 refine ⟨(hR _ _ _ _ _ _ (by simp (disch := omega) only [vm, seval, H]; rfl) (.cons _ slr) ?_ (by omega) ?_).1⟩ <;> first | (simp (disch := omega) only [vm, seval, H]; done) | rfl
 intro k2 Jk2 hk2 h
 replace h := AC h
 rcases h with h | h
 simp (disch := omega) only [vm, seval, h.1]
 refine ⟨hk2 (a0.kind == 3) () _ _ _ _ h.2 slr ?_ ?_ ?_ (by omega)⟩ <;> first | (simp (disch := omega) only [vm, seval, h.1]; done) | rfl
 replace h := AC h
 rcases h with h | h
 simp (disch := omega) only [vm, seval, h.1]
 refine ⟨hk2 (a0.kind == 4) () _ _ _ _ h.2 slr ?_ ?_ ?_ (by omega)⟩ <;> first | (simp (disch := omega) only [vm, seval, h.1]; done) | rfl
 simp (disch := omega) only [vm, seval, h.1]
 refine ⟨hk2 (a0.kind == 5) () _ _ _ _ h.2 slr ?_ ?_ ?_ (by omega)⟩ <;> first | (simp (disch := omega) only [vm, seval, h.1]; done) | rfl
theorem Re {a0 r} (h : Hr N a0 = some r) (ha : args = [.str a0]) (hQ : ∀ n', n ≤ n' → Gl (Q (.str r) ⟨m, n'⟩)) : ACall vE 51 args ⟨m, n⟩ Q := by
 rw [Hr] at h
 subst ha
 refine ent hQ Tryd.func51 rfl Tryd.ntmps51 Tryd.results51 (.q (.r []) (.q (.r []) .z)) fun R hR => ?_
 replace h := And.intro trivial h
 simp (disch := omega) only [vm, seval, h.1]
 refine ⟨AX (γ := Unit) h [4, 5, 8, 9, 10, 11, 12, 13, 14, 15, 16, 17, 18, 19, 20, 21, 22, 23, 24, 25, 26] [] (fun j1 g => []) (fun j1 g => (n, List.map (AVal.int .u8) j1) :: m) (.q (.r []) .z) ?_ ?_⟩ <;> clear h
 rintro j1 _ n4 hnn4 _ _ h
 refine AA (.q (.r []) .z) ?_
 replace h := Ad h
 obtain ⟨c, h⟩ := h
 try simp only [liE, seval] at c
 replace h := Ab c h
 obtain ⟨H, h⟩ := h
 cases h
 simp (disch := omega) only [vm, seval, H]
 refine ⟨(hR _ _ _ _ _ _ (by simp (disch := omega) only [vm, seval, H]; rfl) (.cons _ slr) ?_ (by omega) ?_).1⟩ <;> first | (simp (disch := omega) only [vm, seval, H]; done) | rfl
 intro k2 Jk2 hk2 h
 replace h := Ad h
 obtain ⟨hfk5, h⟩ := h
 simp (disch := omega) only [vm, seval, h.1]
 refine ⟨EF (σ := (List Int)) (γ := Unit) a0 hfk5 (fun xs i s => Cc N a0 k2 xs i s) (fun i s g => [.int .i64 i]) (fun i s g => (n, List.map (AVal.int .u8) s) :: m) [4, 5, 11, 12, 13, 14, 15, 16, 17, 18, 19, 20, 21, 22, 23, 24, 25, 26] [10] (List.map AP a0) () h (by first | (simp (disch := omega) only [vm, seval, h.1]; done) | rfl) (by first | (simp (disch := omega) only [vm, seval, h.1]; done) | rfl) ?_ ?_⟩ <;> clear h
 rintro s10 bn _ nL0_1 hnL0_1 _ h
 change _ ∧ Cc N a0 k2 [] s10 bn = _ at h
 rw [Cc] at h
 refine AA (.q (.r []) (.q (.c .z .z) .z)) ?_
 simp (disch := omega) only [vm, seval, h.1]
 refine ⟨hk2 bn () _ _ _ _ h.2 slr ?_ ?_ ?_ (by omega)⟩ <;> first | (simp (disch := omega) only [vm, seval, h.1]; done) | rfl
 rintro xk5 xsk5 s10 bn _ nL0_1 hnL0_1 _ h Jk5 hk5
 change _ ∧ Cc N a0 k2 (xk5 :: xsk5) s10 bn = _ at h
 rw [Cc] at h
 refine AA (.q (.r []) (.q (.c .z .z) .z)) ?_
 simp (disch := omega) only [vm, seval, h.1]
 refine ⟨AX (γ := Unit) h [4, 5, 12, 13, 14, 15, 16, 17, 18, 19, 20, 21, 22, 23, 24, 25] [] (fun j6 g => []) (fun j6 g => (n, List.map (AVal.int .u8) j6) :: m) (.q (.r []) .z) ?_ ?_⟩ <;> clear h
 rintro j6 _ n9 hnn9 _ _ h
 refine AA (.r []) ?_
 simp (disch := omega) only [vm, seval, h.1]
 refine ⟨hk5 j6 () _ _ _ _ h.2 slr ?_ ?_ ?_ (by omega)⟩ <;> first | (simp (disch := omega) only [vm, seval, h.1]; done) | rfl
 intro k7 Jk7 hk7 h
 replace h := Ad h
 obtain ⟨c, h⟩ := h
 try simp only [liE, seval] at c
 replace h := Ab c h
 replace h := AB h
 obtain ⟨x10, h⟩ := h
 simp (disch := omega) only [vm, seval, h.1]
 refine ⟨AX (γ := Unit) h [15, 16, 17, 18, 19] [20] (fun j11 g => [.bool j11]) (fun j11 g => (n, List.map (AVal.int .u8) bn) :: m) (.r []) ?_ ?_⟩ <;> clear h
 rintro j11 _ n14 hnn14 _ _ h
 refine AA (.c (.r []) .z) ?_
 replace h := AC h
 rcases h with h | h
 replace h := Ad h
 obtain ⟨c, h⟩ := h
 try simp only [liE, seval] at c
 replace h := Ab c h
 simp (disch := omega) only [vm, seval, h.1]
 refine ⟨hk7 (bn.set s10.toNat (wr .u8 (x10 + 32))) () _ _ _ _ h.2 slr ?_ ?_ ?_ (by omega)⟩ <;> first | (simp (disch := omega) only [vm, seval, h.1]; done) | rfl
 simp (disch := omega) only [vm, seval, h.1]
 refine ⟨hk7 bn () _ _ _ _ h.2 slr ?_ ?_ ?_ (by omega)⟩ <;> first | (simp (disch := omega) only [vm, seval, h.1]; done) | rfl
 intro k12 Jk12 hk12 h
 replace h := AC h
 rcases h with h | h
 simp (disch := omega) only [vm, seval, h.1]
 refine ⟨hk12 (decide (x10 ≤ 90)) () _ _ _ _ h.2 slr ?_ ?_ ?_ (by omega)⟩ <;> first | (simp (disch := omega) only [vm, seval, h.1]; done) | rfl
 simp (disch := omega) only [vm, seval, h.1]
 refine ⟨hk12 false () _ _ _ _ h.2 slr ?_ ?_ ?_ (by omega)⟩ <;> first | (simp (disch := omega) only [vm, seval, h.1]; done) | rfl
theorem Jv {a0 a1 r} (h : strings_trimLeftByte N a0 a1 = some r) (ha : args = [.str a0, .int .u8 a1]) (hQ : ∀ n', n ≤ n' → Gl (Q (.str r) ⟨m, n'⟩)) : ACall vE 66 args ⟨m, n⟩ Q := by
 rw [strings_trimLeftByte] at h
 subst ha
 refine ent hQ Tryd.func66 rfl Tryd.ntmps66 Tryd.results66 (.q (.r []) .z) fun R hR => ?_
 replace h := And.intro trivial h
 simp (disch := omega) only [vm, seval, h.1]
 refine ⟨AX (γ := Unit) h [5, 6, 7, 8, 9, 10, 11, 12, 13, 14, 15] [0] (fun j1 g => [.str j1]) (fun j1 g => m) .z ?_ ?_⟩ <;> clear h
 rintro j1 _ n4 hnn4 _ _ h
 refine AA (.q (.r []) .z) ?_
 obtain ⟨H, h⟩ := h
 cases h
 simp (disch := omega) only [vm, seval, H]
 refine ⟨(hR _ _ _ _ _ _ (by simp (disch := omega) only [vm, seval, H]; rfl) slr ?_ (by omega) ?_).1⟩ <;> first | (simp (disch := omega) only [vm, seval, H]; done) | rfl
 intro k2 Jk2 hk2 h
 simp (disch := omega) only [vm, seval, h.1]
 refine ⟨F7 (σ := (List UInt8)) (γ := Unit) (fun k s => BO N a1 k2 k s) (fun s g => [.str s]) (fun s g => m) [5, 6, 7, 8, 9, 10, 11, 12, 13, 14, 15] [0] a0 () h (fun _ => rfl) (by first | (simp (disch := omega) only [vm, seval, h.1]; done) | rfl) (by first | (simp (disch := omega) only [vm, seval, h.1]; done) | rfl) ?_⟩
 clear h
 rintro k5 s0 _ nL0_1 hnL0_1 _ h Jk5 hk5
 change _ ∧ BO N a1 k2 (k5 + 1) s0 = _ at h
 rw [BO] at h
 refine AA (.q .z (.r [])) ?_
 simp (disch := omega) only [vm, seval, h.1]
 refine ⟨AX (γ := Unit) h [5, 6, 7, 8, 9, 10, 11, 12] [13] (fun j6 g => [.bool j6]) (fun j6 g => m) (.r []) ?_ ?_⟩ <;> clear h
 rintro j6 _ n9 hnn9 _ _ h
 refine AA (.c .z .z) ?_
 replace h := AC h
 rcases h with h | h
 replace h := AB h
 obtain ⟨x11, h⟩ := h
 simp (disch := omega) only [vm, seval, h.1]
 refine ⟨hk5 x11 () _ _ _ _ h.2 slr ?_ ?_ ?_ (by omega)⟩ <;> first | (simp (disch := omega) only [vm, seval, h.1]; done) | rfl
 simp (disch := omega) only [vm, seval, h.1]
 refine ⟨hk2 s0 () _ _ _ _ h.2 slr ?_ ?_ ?_ (by omega)⟩ <;> first | (simp (disch := omega) only [vm, seval, h.1]; done) | rfl
 intro k7 Jk7 hk7 h
 replace h := AC h
 rcases h with h | h
 replace h := AB h
 obtain ⟨x10, h⟩ := h
 simp (disch := omega) only [vm, seval, h.1]
 refine ⟨hk7 ((AP x10) == a1) () _ _ _ _ h.2 slr ?_ ?_ ?_ (by omega)⟩ <;> first | (simp (disch := omega) only [vm, seval, h.1]; done) | rfl
 simp (disch := omega) only [vm, seval, h.1]
 refine ⟨hk7 false () _ _ _ _ h.2 slr ?_ ?_ ?_ (by omega)⟩ <;> first | (simp (disch := omega) only [vm, seval, h.1]; done) | rfl
theorem Gq {a0 r} (h : strings_makeASCIISet N a0 = some r) (ha : args = [.str a0]) (hQ : ∀ n', n ≤ n' → Gl (Q (.tuple [.agg (List.map AVal.bool r.1), .bool r.2]) ⟨m, n'⟩)) : ACall vE 67 args ⟨m, n⟩ Q := by
 rw [strings_makeASCIISet] at h
 subst ha
 refine ent hQ Tryd.func67 rfl Tryd.ntmps67 Tryd.results67 (.q (.r []) .z) fun R hR => ?_
 replace h := And.intro trivial h
 simp (disch := omega) only [vm, seval, h.1]
 refine ⟨AX (γ := Unit) h [3, 4, 5, 6, 7, 8, 9, 10, 11, 12, 13, 14, 15, 16, 17, 18, 19] [] (fun j1 g => []) (fun j1 g => (n, List.map AVal.bool j1) :: m) (.q (.r []) .z) ?_ ?_⟩ <;> clear h
 rintro j1 _ n4 hnn4 _ _ h
 refine AA (.q (.r []) .z) ?_
 replace h := Ad h
 obtain ⟨c, h⟩ := h
 try simp only [liE, seval] at c
 replace h := Ab c h
 obtain ⟨H, h⟩ := h
 cases h
 simp (disch := omega) only [vm, seval, H]
 refine ⟨(hR _ _ _ _ _ _ (by simp (disch := omega) only [vm, seval, H]; rfl) (.cons _ slr) ?_ (by omega) ?_).1⟩ <;> first | (simp (disch := omega) only [vm, seval, H]; done) | rfl
 intro k2 Jk2 hk2 h
 replace h := Ad h
 obtain ⟨hfk5, h⟩ := h
 simp (disch := omega) only [vm, seval, h.1]
 refine ⟨EF (σ := (List Bool)) (γ := Unit) a0 hfk5 (fun xs i s => Ay N k2 xs s) (fun i s g => [.int .i64 i]) (fun i s g => (n, List.map AVal.bool s) :: m) [3, 5, 6, 7, 8, 9, 10, 11, 12, 13, 14, 15, 16, 17, 18, 19] [4] (Sd 256) () h (by first | (simp (disch := omega) only [vm, seval, h.1]; done) | rfl) (by first | (simp (disch := omega) only [vm, seval, h.1]; done) | rfl) ?_ ?_⟩ <;> clear h
 rintro s4 bn _ nL0_1 hnL0_1 _ h
 change _ ∧ Ay N k2 [] bn = _ at h
 rw [Ay] at h
 refine AA (.q (.q (.r []) (.c .z .z)) (.q (.q (.r []) (.q (.q (.r []) (.c (.q (.r []) .z) .z)) (.r []))) (.r []))) ?_
 simp (disch := omega) only [vm, seval, h.1]
 refine ⟨hk2 bn () _ _ _ _ h.2 slr ?_ ?_ ?_ (by omega)⟩ <;> first | (simp (disch := omega) only [vm, seval, h.1]; done) | rfl
 rintro xk5 xsk5 s4 bn _ nL0_1 hnL0_1 _ h Jk5 hk5
 change _ ∧ Ay N k2 (xk5 :: xsk5) bn = _ at h
 rw [Ay] at h
 refine AA (.q (.q (.r []) (.c .z .z)) (.q (.q (.r []) (.q (.q (.r []) (.c (.q (.r []) .z) .z)) (.r []))) (.r []))) ?_
 replace h := AC h
 rcases h with h | h
 replace h := Ad h
 obtain ⟨c, h⟩ := h
 try simp only [liE, seval] at c
 replace h := Ab c h
 obtain ⟨H, h⟩ := h
 cases h
 simp (disch := omega) only [vm, seval, H]
 refine ⟨(hR _ _ _ _ _ _ (by simp (disch := omega) only [vm, seval, H]; rfl) (.cons _ slr) ?_ (by omega) ?_).1⟩ <;> first | (simp (disch := omega) only [vm, seval, H]; done) | rfl
 replace h := Ad h
 obtain ⟨c, h⟩ := h
 try simp only [liE, seval] at c
 replace h := Ab c h
 replace h := Ad h
 obtain ⟨c, h⟩ := h
 try simp only [liE, seval] at c
 replace h := Ab c h
 simp (disch := omega) only [vm, seval, h.1]
 refine ⟨hk5 (bn.set ((AP xk5).toNat) true) () _ _ _ _ h.2 slr ?_ ?_ ?_ (by omega)⟩ <;> first | (simp (disch := omega) only [vm, seval, h.1]; done) | rfl
theorem FQ {a0 a1 r} {i0 : Nat} (h : Bo N a0 a1 = some r) (ha : args = [.ptr i0 0, .int .u8 a1]) (hi0 : Ap m i0 = some (List.map AVal.bool a0)) (hQ : ∀ n', n ≤ n' → Gl (Q (.bool r.1) ⟨BH m i0 (List.map AVal.bool r.2), n'⟩)) : ACall vE 85 args ⟨m, n⟩ Q := by
 rw [Bo] at h
 subst ha
 refine ACall.front hi0 fun hin => ent (fun n' k => ⟨_, rfl, (hQ n' k).go⟩) Tryd.func85 rfl Tryd.ntmps85 Tryd.results85 (.q (.r []) (.q (.r []) .z)) fun R hR => ?_
 replace h := And.intro trivial h
 replace h := Ad h
 obtain ⟨c, h⟩ := h
 try simp only [liE, seval] at c
 replace h := Ab c h
 replace h := AB h
 obtain ⟨x1, h⟩ := h
 obtain ⟨H, h⟩ := h
 cases h
 simp (disch := omega) only [vm, seval, H]
 refine ⟨(hR _ _ _ _ _ _ (by simp (disch := omega) only [vm, seval, H]; rfl) slr ?_ (by omega) ?_).1⟩ <;> first | (simp (disch := omega) only [vm, seval, H]; done) | rfl
theorem Fv {a0 r} (h : Ce N a0 = some r) (ha : args = [.str a0]) (hQ : ∀ n', n ≤ n' → Gl (Q (.tuple [.int .i32 r.1, .int .i64 r.2]) ⟨m, n'⟩)) : ACall vE 99 args ⟨m, n⟩ Q := by
 rw [Ce] at h
 subst ha
 refine ent hQ Tryd.func99 rfl Tryd.ntmps99 Tryd.results99 (.q (.r []) (.q (.r []) (.q (.q (.r []) (.c (.q (.r []) .z) .z)) (.q (.r []) (.q (.r []) (.q (.q (.r []) (.c (.q (.r []) (.q (.r []) .z)) .z)) (.q (.r []) (.q (.r []) (.q (.q (.r []) (.c (.q (.r []) .z) .z)) (.q (.r []) (.q .z (.q (.q (.r []) (.c (.q (.r []) .z) .z)) (.q (.r []) (.q .z (.q (.q (.r []) (.c (.q (.r []) .z) .z)) (.q (.r []) (.q .z (.q (.r []) .z)))))))))))))))))) fun R hR => ?_
 replace h := And.intro trivial h
 replace h := AC h
 rcases h with h | h
 obtain ⟨H, h⟩ := h
 cases h
 simp (disch := omega) only [vm, seval, H]
 refine ⟨(hR _ _ _ _ _ _ (by simp (disch := omega) only [vm, seval, H]; rfl) slr ?_ (by omega) ?_).1⟩ <;> first | (simp (disch := omega) only [vm, seval, H]; done) | rfl
 replace h := AB h
 obtain ⟨x1, h⟩ := h
 cases h.2
theorem JK {a0 r} (h : En N a0 = some r) (ha : args = [.int .i32 a0]) (hQ : ∀ n', n ≤ n' → Gl (Q (.bool r) ⟨m, n'⟩)) : ACall vE 106 args ⟨m, n⟩ Q := by
 rw [En] at h
 subst ha
 refine ent hQ Tryd.func106 rfl Tryd.ntmps106 Tryd.results106 (.q (.r []) (.q .z (.q (.r []) .z))) fun R hR => ?_
 replace h := And.intro trivial h
 simp (disch := omega) only [vm, seval, h.1]
 refine ⟨AX (γ := Unit) h [4, 5, 6, 7, 8, 9] [3] (fun j1 g => [.bool j1]) (fun j1 g => m) (.r []) ?_ ?_⟩ <;> clear h
 rintro j1 _ n4 hnn4 _ _ h
 refine AA (.c (.q (.r []) .z) .z) ?_
 replace h := AC h
 rcases h with h | h
 obtain ⟨H, h⟩ := h
 cases h
 simp (disch := omega) only [vm, seval, H]
 refine ⟨(hR _ _ _ _ _ _ (by simp (disch := omega) only [vm, seval, H]; rfl) slr ?_ (by omega) ?_).1⟩ <;> first | (simp (disch := omega) only [vm, seval, H]; done) | rfl
 simp (disch := omega) only [vm, seval, h.1]
 refine ⟨AX (γ := Unit) h [11, 12, 13, 14, 15, 16] [10] (fun j5 g => [.bool j5]) (fun j5 g => m) (.r []) ?_ ?_⟩ <;> clear h
 rintro j5 _ n8 hnn8 _ _ h
 refine AA (.c (.q (.r []) .z) .z) ?_
 replace h := AC h
 rcases h with h | h
 obtain ⟨H, h⟩ := h
 cases h
 simp (disch := omega) only [vm, seval, H]
 refine ⟨(hR _ _ _ _ _ _ (by simp (disch := omega) only [vm, seval, H]; rfl) slr ?_ (by omega) ?_).1⟩ <;> first | (simp (disch := omega) only [vm, seval, H]; done) | rfl
 obtain ⟨H, h⟩ := h
 cases h
 simp (disch := omega) only [vm, seval, H]
 refine ⟨(hR _ _ _ _ _ _ (by simp (disch := omega) only [vm, seval, H]; rfl) slr ?_ (by omega) ?_).1⟩ <;> first | (simp (disch := omega) only [vm, seval, H]; done) | rfl
 intro k6 Jk6 hk6 h
 replace h := AC h
 rcases h with h | h
 simp (disch := omega) only [vm, seval, h.1]
 refine ⟨hk6 (decide (a0 ≤ 1114111)) () _ _ _ _ h.2 slr ?_ ?_ ?_ (by omega)⟩ <;> first | (simp (disch := omega) only [vm, seval, h.1]; done) | rfl
 simp (disch := omega) only [vm, seval, h.1]
 refine ⟨hk6 false () _ _ _ _ h.2 slr ?_ ?_ ?_ (by omega)⟩ <;> first | (simp (disch := omega) only [vm, seval, h.1]; done) | rfl
 intro k2 Jk2 hk2 h
 replace h := AC h
 rcases h with h | h
 simp (disch := omega) only [vm, seval, h.1]
 refine ⟨hk2 (decide (a0 < 55296)) () _ _ _ _ h.2 slr ?_ ?_ ?_ (by omega)⟩ <;> first | (simp (disch := omega) only [vm, seval, h.1]; done) | rfl
 simp (disch := omega) only [vm, seval, h.1]
 refine ⟨hk2 false () _ _ _ _ h.2 slr ?_ ?_ ?_ (by omega)⟩ <;> first | (simp (disch := omega) only [vm, seval, h.1]; done) | rfl
theorem Jd {a0 a1 r} (h : strings_trimRightByte N a0 a1 = some r) (ha : args = [.str a0, .int .u8 a1]) (hQ : ∀ n', n ≤ n' → Gl (Q (.str r) ⟨m, n'⟩)) : ACall vE 70 args ⟨m, n⟩ Q := by
 rw [strings_trimRightByte] at h
 subst ha
 refine ent hQ Tryd.func70 rfl Tryd.ntmps70 Tryd.results70 (.q (.r []) .z) fun R hR => ?_
 replace h := And.intro trivial h
 simp (disch := omega) only [vm, seval, h.1]
 refine ⟨AX (γ := Unit) h [5, 6, 7, 8, 9, 10, 11, 12, 13, 14, 15, 16, 17, 18, 19, 20, 21] [0] (fun j1 g => [.str j1]) (fun j1 g => m) .z ?_ ?_⟩ <;> clear h
 rintro j1 _ n4 hnn4 _ _ h
 refine AA (.q (.r []) .z) ?_
 obtain ⟨H, h⟩ := h
 cases h
 simp (disch := omega) only [vm, seval, H]
 refine ⟨(hR _ _ _ _ _ _ (by simp (disch := omega) only [vm, seval, H]; rfl) slr ?_ (by omega) ?_).1⟩ <;> first | (simp (disch := omega) only [vm, seval, H]; done) | rfl
 intro k2 Jk2 hk2 h
 simp (disch := omega) only [vm, seval, h.1]
 refine ⟨F7 (σ := (List UInt8)) (γ := Unit) (fun k s => BJ N a1 k2 k s) (fun s g => [.str s]) (fun s g => m) [5, 6, 7, 8, 9, 10, 11, 12, 13, 14, 15, 16, 17, 18, 19, 20, 21] [0] a0 () h (fun _ => rfl) (by first | (simp (disch := omega) only [vm, seval, h.1]; done) | rfl) (by first | (simp (disch := omega) only [vm, seval, h.1]; done) | rfl) ?_⟩
 clear h
 rintro k5 s0 _ nL0_1 hnL0_1 _ h Jk5 hk5
 change _ ∧ BJ N a1 k2 (k5 + 1) s0 = _ at h
 rw [BJ] at h
 refine AA (.q .z (.r [])) ?_
 simp (disch := omega) only [vm, seval, h.1]
 refine ⟨AX (γ := Unit) h [5, 6, 7, 8, 9, 10, 11, 12, 13, 14, 15] [16] (fun j6 g => [.bool j6]) (fun j6 g => m) (.r []) ?_ ?_⟩ <;> clear h
 rintro j6 _ n9 hnn9 _ _ h
 refine AA (.c .z .z) ?_
 replace h := AC h
 rcases h with h | h
 replace h := AB h
 obtain ⟨x11, h⟩ := h
 simp (disch := omega) only [vm, seval, h.1]
 refine ⟨hk5 x11 () _ _ _ _ h.2 slr ?_ ?_ ?_ (by omega)⟩ <;> first | (simp (disch := omega) only [vm, seval, h.1]; done) | rfl
 simp (disch := omega) only [vm, seval, h.1]
 refine ⟨hk2 s0 () _ _ _ _ h.2 slr ?_ ?_ ?_ (by omega)⟩ <;> first | (simp (disch := omega) only [vm, seval, h.1]; done) | rfl
 intro k7 Jk7 hk7 h
 replace h := AC h
 rcases h with h | h
 replace h := AB h
 obtain ⟨x10, h⟩ := h
 simp (disch := omega) only [vm, seval, h.1]
 refine ⟨hk7 ((AP x10) == a1) () _ _ _ _ h.2 slr ?_ ?_ ?_ (by omega)⟩ <;> first | (simp (disch := omega) only [vm, seval, h.1]; done) | rfl
 simp (disch := omega) only [vm, seval, h.1]
 refine ⟨hk7 false () _ _ _ _ h.2 slr ?_ ?_ ?_ (by omega)⟩ <;> first | (simp (disch := omega) only [vm, seval, h.1]; done) | rfl
theorem JI {a0 r} (h : Er N a0 = some r) (ha : args = [.int .u8 a0]) (hQ : ∀ n', n ≤ n' → Gl (Q (.bool r) ⟨m, n'⟩)) : ACall vE 101 args ⟨m, n⟩ Q := by
 rw [Er] at h
 subst ha
 refine ent hQ Tryd.func101 rfl Tryd.ntmps101 Tryd.results101 (.q (.r []) (.q (.r []) .z)) fun R hR => ?_
 replace h := And.intro trivial h
 obtain ⟨H, h⟩ := h
 cases h
 simp (disch := omega) only [vm, seval, H]
 refine ⟨(hR _ _ _ _ _ _ (by simp (disch := omega) only [vm, seval, H]; rfl) slr ?_ (by omega) ?_).1⟩ <;> first | (simp (disch := omega) only [vm, seval, H]; done) | rfl
theorem Gv {a0 a1 r} (h : CU N a0 a1 = some r) (ha : args = [.str a0, .str a1]) (hQ : ∀ n', n ≤ n' → Gl (Q (.bool r) ⟨m, n'⟩)) : ACall vE 90 args ⟨m, n⟩ Q := by
 rw [CU] at h
 subst ha
 refine ent hQ Tryd.func90 rfl Tryd.ntmps90 Tryd.results90 (.q (.r []) (.q (.r []) .z)) fun R hR => ?_
 replace h := And.intro trivial h
 replace h := AC h
 rcases h with h | h
 replace h := AB h
 obtain ⟨x1, h⟩ := h
 obtain ⟨H, h⟩ := h
 cases h
 simp (disch := omega) only [vm, seval, H]
 refine ⟨(hR _ _ _ _ _ _ (by simp (disch := omega) only [vm, seval, H]; rfl) slr ?_ (by omega) ?_).1⟩ <;> first | (simp (disch := omega) only [vm, seval, H]; done) | rfl
 obtain ⟨H, h⟩ := h
 cases h
 simp (disch := omega) only [vm, seval, H]
 refine ⟨(hR _ _ _ _ _ _ (by simp (disch := omega) only [vm, seval, H]; rfl) slr ?_ (by omega) ?_).1⟩ <;> first | (simp (disch := omega) only [vm, seval, H]; done) | rfl
theorem J4 {a0 r} (h : FJ N a0 = some r) (ha : args = [.int .u64 a0]) (hQ : ∀ n', n ≤ n' → Gl (Q (.str r) ⟨m, n'⟩)) : ACall vE 55 args ⟨m, n⟩ Q := by
 rw [FJ] at h
 subst ha
 refine ent hQ Tryd.func55 rfl Tryd.ntmps55 Tryd.results55 (.q (.r []) (.q (.r []) (.q (.r []) .z))) fun R hR => ?_
 replace h := And.intro trivial h
 simp (disch := omega) only [vm, seval, h.1]
 refine ⟨AX (γ := Unit) h [5, 6, 7, 8, 9, 10, 11, 12, 13, 14, 15, 16] [0, 4] (fun j1 g => [.int .u64 j1.1, .int .i64 j1.2.1]) (fun j1 g => (n, List.map (AVal.int .u8) j1.2.2) :: m) .z ?_ ?_⟩ <;> clear h
 rintro j1 _ n4 hnn4 _ _ h
 refine AA (.q (.r []) (.q (.r []) .z)) ?_
 replace h := Ad h
 obtain ⟨c, h⟩ := h
 try simp only [liE, seval] at c
 replace h := Ab c h
 replace h := Ad h
 obtain ⟨c, h⟩ := h
 try simp only [liE, seval] at c
 replace h := Ab c h
 replace h := Ad h
 obtain ⟨c, h⟩ := h
 try simp only [liE, seval] at c
 replace h := Ab c h
 replace h := Ad h
 obtain ⟨c, h⟩ := h
 try simp only [liE, seval] at c
 replace h := Ab c h
 obtain ⟨H, h⟩ := h
 cases h
 simp (disch := omega) only [vm, seval, H]
 refine ⟨(hR _ _ _ _ _ _ (by simp (disch := omega) only [vm, seval, H]; rfl) (.cons _ slr) ?_ (by omega) ?_).1⟩ <;> first | (simp (disch := omega) only [vm, seval, H]; done) | rfl
 intro k2 Jk2 hk2 h
 simp (disch := omega) only [vm, seval, h.1]
 refine ⟨F7 (σ := Int × Int × (List Int)) (γ := Unit) (fun k s => DJ N k2 k s.1 s.2.1 s.2.2) (fun s g => [.int .u64 s.1, .int .i64 s.2.1]) (fun s g => (n, List.map (AVal.int .u8) s.2.2) :: m) [5, 6, 7, 8, 9, 10, 11, 12, 13, 14, 15, 16] [0, 4] (a0, 19, (List.replicate 20 0)) () h (fun _ => rfl) (by first | (simp (disch := omega) only [vm, seval, h.1]; done) | rfl) (by first | (simp (disch := omega) only [vm, seval, h.1]; done) | rfl) ?_⟩
 clear h
 rintro k5 ⟨s0, s4, bn⟩ _ nL0_1 hnL0_1 _ h Jk5 hk5
 change _ ∧ DJ N k2 (k5 + 1) s0 s4 bn = _ at h
 rw [DJ] at h
 refine AA (.q (.q (.r []) (.c .z .z)) (.q (.q (.r []) (.r [])) (.r []))) ?_
 replace h := AC h
 rcases h with h | h
 replace h := Ad h
 obtain ⟨c, h⟩ := h
 try simp only [liE, seval] at c
 replace h := Ab c h
 replace h := Ad h
 obtain ⟨c, h⟩ := h
 try simp only [liE, seval] at c
 replace h := Ab c h
 simp (disch := omega) only [vm, seval, h.1]
 refine ⟨hk5 ((wr .u64 (s0.tdiv 10)), (wr .i64 (s4 - 1)), (bn.set s4.toNat (wr .u8 (wr .u64 (48 + (s0.tmod 10)))))) () _ _ _ _ h.2 slr ?_ ?_ ?_ (by omega)⟩ <;> first | (simp (disch := omega) only [vm, seval, h.1]; done) | rfl
 simp (disch := omega) only [vm, seval, h.1]
 refine ⟨hk2 (s0, s4, bn) () _ _ _ _ h.2 slr ?_ ?_ ?_ (by omega)⟩ <;> first | (simp (disch := omega) only [vm, seval, h.1]; done) | rfl
theorem Qj {a0 a1 a2 r} (h : Gb N a0 a1 a2 = some r) (ha : args = [.slice 1 (List.map AVal.str a0) false, .int .i64 a1, .int .i64 a2]) (hQ : ∀ n', n ≤ n' → Gl (Q (.bool r) ⟨m, n'⟩)) : ACall vE 8 args ⟨m, n⟩ Q := by
 rw [Gb] at h
 subst ha
 refine ent hQ Tryd.func8 rfl Tryd.ntmps8 Tryd.results8 (.q (.r []) (.q (.q (.r []) (.c (.q (.r []) .z) .z)) .z)) fun R hR => ?_
 replace h := And.intro trivial h
 replace h := AC h
 rcases h with h | h
 obtain ⟨H, h⟩ := h
 cases h
 simp (disch := omega) only [vm, seval, H]
 refine ⟨(hR _ _ _ _ _ _ (by simp (disch := omega) only [vm, seval, H]; rfl) slr ?_ (by omega) ?_).1⟩ <;> first | (simp (disch := omega) only [vm, seval, H]; done) | rfl
 simp (disch := omega) only [vm, seval, h.1]
 refine ⟨AX (γ := Unit) h [6, 8, 13, 14, 15, 16, 17, 18, 19, 20, 21, 22, 23] [] (fun j1 g => []) (fun j1 g => m) (.q (.r []) .z) ?_ ?_⟩ <;> clear h
 rintro j1 _ n4 hnn4 _ _ h
 refine AA (.q (.r []) .z) ?_
 obtain ⟨H, h⟩ := h
 cases h
 simp (disch := omega) only [vm, seval, H]
 refine ⟨(hR _ _ _ _ _ _ (by simp (disch := omega) only [vm, seval, H]; rfl) slr ?_ (by omega) ?_).1⟩ <;> first | (simp (disch := omega) only [vm, seval, H]; done) | rfl
 intro k2 Jk2 hk2 h
 replace h := Ad h
 obtain ⟨hfk5, h⟩ := h
 simp (disch := omega) only [vm, seval, h.1]
 refine ⟨EF (σ := Unit) (γ := Unit) a0 hfk5 (fun xs i s => Br N a2 k2 xs) (fun i s g => [.int .i64 i]) (fun i s g => m) [6, 8, 16, 17, 18, 19, 20, 21, 22, 23] [15] () () h (by first | (simp (disch := omega) only [vm, seval, h.1]; done) | rfl) (by first | (simp (disch := omega) only [vm, seval, h.1]; done) | rfl) ?_ ?_⟩ <;> clear h
 rintro s15 _ _ nL0_1 hnL0_1 _ h
 change _ ∧ Br N a2 k2 [] = _ at h
 rw [Br] at h
 refine AA (.q (.r []) (.q (.c .z .z) (.q (.q (.r []) (.q (.r []) (.c (.q (.r []) .z) .z))) (.r [])))) ?_
 simp (disch := omega) only [vm, seval, h.1]
 refine ⟨hk2 () () _ _ _ _ h.2 slr ?_ ?_ ?_ (by omega)⟩ <;> first | (simp (disch := omega) only [vm, seval, h.1]; done) | rfl
 rintro xk5 xsk5 s15 _ _ nL0_1 hnL0_1 _ h Jk5 hk5
 change _ ∧ Br N a2 k2 (xk5 :: xsk5) = _ at h
 rw [Br] at h
 refine AA (.q (.r []) (.q (.c .z .z) (.q (.q (.r []) (.q (.r []) (.c (.q (.r []) .z) .z))) (.r [])))) ?_
 replace h := AC h
 rcases h with h | h
 obtain ⟨H, h⟩ := h
 cases h
 simp (disch := omega) only [vm, seval, H]
 refine ⟨(hR _ _ _ _ _ _ (by simp (disch := omega) only [vm, seval, H]; rfl) slr ?_ (by omega) ?_).1⟩ <;> first | (simp (disch := omega) only [vm, seval, H]; done) | rfl
 simp (disch := omega) only [vm, seval, h.1]
 refine ⟨hk5 () () _ _ _ _ h.2 slr ?_ ?_ ?_ (by omega)⟩ <;> first | (simp (disch := omega) only [vm, seval, h.1]; done) | rfl
theorem Oy (N : Nat) : ∀ D : Nat, (∀ {a0 : ApiValue} {a1 : Int} {r : Int} (h : Cn N D a0 a1 = some r) {args : List AVal} {n : Nat} {m : MS} (ha : args = [AJ a0, .int .i64 a1]) {Q : PQ} (hQ : ∀ n', n ≤ n' → Gl (Q (.int .i64 r) ⟨m, n'⟩)), ACall vE 39 args ⟨m, n⟩ Q) := by
 intro D
 induction D with
 | zero =>
  intro a0 a1 r h
  simp only [Cn, reduceCtorEq] at h
 | succ D ih_ref15_count =>
  intro a0 a1 r h args n m ha Q hQ
  rw [Cn] at h
  subst ha
  refine Ny hQ Tryd.func39 rfl Tryd.ntmps39 Tryd.results39 (.q (.r []) (.q (.r []) .z)) fun R hR => ?_
  replace h := And.intro trivial h
  simp (disch := omega) only [vm, seval, h.1]
  refine ⟨AX (γ := Unit) h [11, 12, 13, 14, 15, 16, 17, 18, 19, 20] [5] (fun j1 g => [.int .i64 j1]) (fun j1 g => (n, [.int .i64 a0.kind, .str a0.text, .slice 1 (List.map AVal.str a0.keys) false, .slice 4 (List.map AJ a0.items) false]) :: m) .z ?_ ?_⟩ <;> clear h
  rintro j1 _ n4 hnn4 _ _ h
  refine AA (.q (.q (.r []) (.c (.q (.r []) .z) .z)) (.q (.r []) .z)) ?_
  replace h := AC h
  rcases h with h | h
  obtain ⟨H, h⟩ := h
  cases h
  simp (disch := omega) only [vm, seval, H]
  refine ⟨(hR _ _ _ _ _ _ (by simp (disch := omega) only [vm, seval, H]; rfl) (.cons _ slr) ?_ (by omega) ?_).1⟩ <;> first | (simp (disch := omega) only [vm, seval, H]; done) | rfl
  simp (disch := omega) only [vm, seval, h.1]
  refine ⟨AX (γ := Unit) h [4, 8, 9, 23, 24, 25, 26, 27, 28, 29, 30, 31, 32, 33, 34, 35, 36, 37, 38, 39, 40] [6] (fun j9 g => [.int .i64 j9]) (fun j9 g => (n, [.int .i64 a0.kind, .str a0.text, .slice 1 (List.map AVal.str a0.keys) false, .slice 4 (List.map AJ a0.items) false]) :: m) (.q (.r []) .z) ?_ ?_⟩ <;> clear h
  rintro j9 _ n12 hnn12 _ _ h
  refine AA (.q (.r []) .z) ?_
  obtain ⟨H, h⟩ := h
  cases h
  simp (disch := omega) only [vm, seval, H]
  refine ⟨(hR _ _ _ _ _ _ (by simp (disch := omega) only [vm, seval, H]; rfl) (.cons _ slr) ?_ (by omega) ?_).1⟩ <;> first | (simp (disch := omega) only [vm, seval, H]; done) | rfl
  intro k10 Jk10 hk10 h
  replace h := Ad h
  obtain ⟨hfk13, h⟩ := h
  simp (disch := omega) only [vm, seval, h.1]
  refine ⟨EF (σ := Int) (γ := Unit) a0.items hfk13 (fun xs i s => CO N (Cn N D) j1 k10 xs s) (fun i s g => [.int .i64 s, .int .i64 i]) (fun i s g => (n, [.int .i64 a0.kind, .str a0.text, .slice 1 (List.map AVal.str a0.keys) false, .slice 4 (List.map AJ a0.items) false]) :: m) [4, 8, 9, 27, 28, 29, 30, 31, 32, 33, 34, 35, 36, 37, 38, 39, 40] [6, 26] 1 () h (by first | (simp (disch := omega) only [vm, seval, h.1]; done) | rfl) (by first | (simp (disch := omega) only [vm, seval, h.1]; done) | rfl) ?_ ?_⟩ <;> clear h
  rintro s26 s6 _ nL0_1 hnL0_1 _ h
  change _ ∧ CO N (Cn N D) j1 k10 [] s6 = _ at h
  rw [CO] at h
  refine AA (.q (.r []) (.q (.c .z .z) (.q (.q (.r []) (.q (.r []) (.q (.q (.r []) (.c (.q (.r []) .z) .z)) (.q (.r []) (.q (.r []) (.c (.q (.r []) .z) .z)))))) (.r [])))) ?_
  simp (disch := omega) only [vm, seval, h.1]
  refine ⟨hk10 s6 () _ _ _ _ h.2 slr ?_ ?_ ?_ (by omega)⟩ <;> first | (simp (disch := omega) only [vm, seval, h.1]; done) | rfl
  rintro xk13 xsk13 s26 s6 _ nL0_1 hnL0_1 _ h Jk13 hk13
  change _ ∧ CO N (Cn N D) j1 k10 (xk13 :: xsk13) s6 = _ at h
  rw [CO] at h
  refine AA (.q (.r []) (.q (.c .z .z) (.q (.q (.r []) (.q (.r []) (.q (.q (.r []) (.c (.q (.r []) .z) .z)) (.q (.r []) (.q (.r []) (.c (.q (.r []) .z) .z)))))) (.r [])))) ?_
  replace h := AB h
  obtain ⟨y14, h⟩ := h
  simp (disch := omega) only [vm, seval, h.1]
  refine ⟨ih_ref15_count h.1.1 (by first | (simp (disch := omega) only [vm, seval, h.1]; done) | rfl) fun n15 hn15 => ?_⟩
  replace h := AC h
  rcases h with h | h
  obtain ⟨H, h⟩ := h
  cases h
  simp (disch := omega) only [vm, seval, H]
  refine ⟨(hR _ _ _ _ _ _ (by simp (disch := omega) only [vm, seval, H]; rfl) (.cons _ (.cons _ slr)) ?_ (by omega) ?_).1⟩ <;> first | (simp (disch := omega) only [vm, seval, H]; done) | rfl
  replace h := AC h
  rcases h with h | h
  obtain ⟨H, h⟩ := h
  cases h
  simp (disch := omega) only [vm, seval, H]
  refine ⟨(hR _ _ _ _ _ _ (by simp (disch := omega) only [vm, seval, H]; rfl) (.cons _ (.cons _ slr)) ?_ (by omega) ?_).1⟩ <;> first | (simp (disch := omega) only [vm, seval, H]; done) | rfl
  simp (disch := omega) only [vm, seval, h.1]
  refine ⟨hk13 (wr .i64 (s6 + y14)) () _ _ _ _ h.2 (.cons _ slr) ?_ ?_ ?_ (by omega)⟩ <;> first | (simp (disch := omega) only [vm, seval, h.1]; done) | rfl
  intro k2 Jk2 hk2 h
  simp (disch := omega) only [vm, seval, h.1]
  refine ⟨AX (γ := Unit) h [11, 12, 13, 14, 15, 16, 17] [18] (fun j5 g => [.bool j5]) (fun j5 g => (n, [.int .i64 a0.kind, .str a0.text, .slice 1 (List.map AVal.str a0.keys) false, .slice 4 (List.map AJ a0.items) false]) :: m) (.r []) ?_ ?_⟩ <;> clear h
  rintro j5 _ n8 hnn8 _ _ h
  refine AA (.c (.r []) .z) ?_
  replace h := AC h
  rcases h with h | h
  simp (disch := omega) only [vm, seval, h.1]
  refine ⟨hk2 (wr .i64 (a1 + 1)) () _ _ _ _ h.2 slr ?_ ?_ ?_ (by omega)⟩ <;> first | (simp (disch := omega) only [vm, seval, h.1]; done) | rfl
  simp (disch := omega) only [vm, seval, h.1]
  refine ⟨hk2 a1 () _ _ _ _ h.2 slr ?_ ?_ ?_ (by omega)⟩ <;> first | (simp (disch := omega) only [vm, seval, h.1]; done) | rfl
  intro k6 Jk6 hk6 h
  replace h := AC h
  rcases h with h | h
  simp (disch := omega) only [vm, seval, h.1]
  refine ⟨hk6 true () _ _ _ _ h.2 slr ?_ ?_ ?_ (by omega)⟩ <;> first | (simp (disch := omega) only [vm, seval, h.1]; done) | rfl
  simp (disch := omega) only [vm, seval, h.1]
  refine ⟨hk6 (a0.kind == 7) () _ _ _ _ h.2 slr ?_ ?_ ?_ (by omega)⟩ <;> first | (simp (disch := omega) only [vm, seval, h.1]; done) | rfl
theorem Q4 {a0 a1 r} (h : Cn N N a0 a1 = some r) (ha : args = [AJ a0, .int .i64 a1]) (hQ : ∀ n', n ≤ n' → Gl (Q (.int .i64 r) ⟨m, n'⟩)) : ACall vE 39 args ⟨m, n⟩ Q :=
 (Oy N N h ha hQ)
theorem Jf {a0 a1 r} (h : GJ N a0 a1 = some r) (ha : args = [.str a0, .int .i64 a1]) (hQ : ∀ n', n ≤ n' → Gl (Q (.str r) ⟨m, n'⟩)) : ACall vE 78 args ⟨m, n⟩ Q := by
 rw [GJ] at h
 subst ha
 refine ent hQ Tryd.func78 rfl Tryd.ntmps78 Tryd.results78 (.q (.r []) (.q (.q (.r []) (.c (.q (.r []) .z) .z)) (.q (.r []) .z))) fun R hR => ?_
 replace h := And.intro trivial h
 replace h := AC h
 rcases h with h | h
 obtain ⟨H, h⟩ := h
 cases h
 simp (disch := omega) only [vm, seval, H]
 refine ⟨(hR _ _ _ _ _ _ (by simp (disch := omega) only [vm, seval, H]; rfl) slr ?_ (by omega) ?_).1⟩ <;> first | (simp (disch := omega) only [vm, seval, H]; done) | rfl
 replace h := AB h
 obtain ⟨x1, h⟩ := h
 obtain ⟨H, h⟩ := h
 cases h
 simp (disch := omega) only [vm, seval, H]
 refine ⟨(hR _ _ _ _ _ _ (by simp (disch := omega) only [vm, seval, H]; rfl) slr ?_ (by omega) ?_).1⟩ <;> first | (simp (disch := omega) only [vm, seval, H]; done) | rfl
theorem J5 {a0 r} (h : FE N a0 = some r) (ha : args = [.int .u8 a0]) (hQ : ∀ n', n ≤ n' → Gl (Q (.bool r) ⟨m, n'⟩)) : ACall vE 91 args ⟨m, n⟩ Q := by
 rw [FE] at h
 subst ha
 refine ent hQ Tryd.func91 rfl Tryd.ntmps91 Tryd.results91 (.q (.r []) (.q (.r []) .z)) fun R hR => ?_
 replace h := And.intro trivial h
 replace h := AC h
 rcases h with h | h
 obtain ⟨H, h⟩ := h
 cases h
 simp (disch := omega) only [vm, seval, H]
 refine ⟨(hR _ _ _ _ _ _ (by simp (disch := omega) only [vm, seval, H]; rfl) slr ?_ (by omega) ?_).1⟩ <;> first | (simp (disch := omega) only [vm, seval, H]; done) | rfl
 obtain ⟨H, h⟩ := h
 cases h
 simp (disch := omega) only [vm, seval, H]
 refine ⟨(hR _ _ _ _ _ _ (by simp (disch := omega) only [vm, seval, H]; rfl) slr ?_ (by omega) ?_).1⟩ <;> first | (simp (disch := omega) only [vm, seval, H]; done) | rfl
theorem Ju {a0 a1 r} (h : Gt N a0 a1 = some r) (ha : args = [.int .u8 a0, .str a1]) (hQ : ∀ n', n ≤ n' → Gl (Q (.bool r) ⟨m, n'⟩)) : ACall vE 93 args ⟨m, n⟩ Q := by
 rw [Gt] at h
 subst ha
 refine ent hQ Tryd.func93 rfl Tryd.ntmps93 Tryd.results93 (.q (.r []) .z) fun R hR => ?_
 replace h := And.intro trivial h
 simp (disch := omega) only [vm, seval, h.1]
 refine ⟨AX (γ := Unit) h [4, 5, 6, 7, 8, 9, 10, 11, 12, 13, 14, 15, 16] [] (fun j1 g => []) (fun j1 g => m) (.q (.r []) .z) ?_ ?_⟩ <;> clear h
 rintro j1 _ n4 hnn4 _ _ h
 refine AA (.q (.r []) .z) ?_
 obtain ⟨H, h⟩ := h
 cases h
 simp (disch := omega) only [vm, seval, H]
 refine ⟨(hR _ _ _ _ _ _ (by simp (disch := omega) only [vm, seval, H]; rfl) slr ?_ (by omega) ?_).1⟩ <;> first | (simp (disch := omega) only [vm, seval, H]; done) | rfl
 intro k2 Jk2 hk2 h
 replace h := Ad h
 obtain ⟨hfk5, h⟩ := h
 simp (disch := omega) only [vm, seval, h.1]
 refine ⟨EF (σ := Unit) (γ := Unit) a1 hfk5 (fun xs i s => Dv N a0 k2 xs) (fun i s g => [.int .i64 i]) (fun i s g => m) [4, 6, 7, 8, 9, 10, 11, 12, 13, 14, 15, 16] [5] () () h (by first | (simp (disch := omega) only [vm, seval, h.1]; done) | rfl) (by first | (simp (disch := omega) only [vm, seval, h.1]; done) | rfl) ?_ ?_⟩ <;> clear h
 rintro s5 _ _ nL0_1 hnL0_1 _ h
 change _ ∧ Dv N a0 k2 [] = _ at h
 rw [Dv] at h
 refine AA (.q (.q (.r []) (.c .z .z)) (.q (.q (.r []) (.c (.q (.r []) .z) .z)) (.r []))) ?_
 simp (disch := omega) only [vm, seval, h.1]
 refine ⟨hk2 () () _ _ _ _ h.2 slr ?_ ?_ ?_ (by omega)⟩ <;> first | (simp (disch := omega) only [vm, seval, h.1]; done) | rfl
 rintro xk5 xsk5 s5 _ _ nL0_1 hnL0_1 _ h Jk5 hk5
 change _ ∧ Dv N a0 k2 (xk5 :: xsk5) = _ at h
 rw [Dv] at h
 refine AA (.q (.q (.r []) (.c .z .z)) (.q (.q (.r []) (.c (.q (.r []) .z) .z)) (.r []))) ?_
 replace h := AC h
 rcases h with h | h
 obtain ⟨H, h⟩ := h
 cases h
 simp (disch := omega) only [vm, seval, H]
 refine ⟨(hR _ _ _ _ _ _ (by simp (disch := omega) only [vm, seval, H]; rfl) slr ?_ (by omega) ?_).1⟩ <;> first | (simp (disch := omega) only [vm, seval, H]; done) | rfl
 simp (disch := omega) only [vm, seval, h.1]
 refine ⟨hk5 () () _ _ _ _ h.2 slr ?_ ?_ ?_ (by omega)⟩ <;> first | (simp (disch := omega) only [vm, seval, h.1]; done) | rfl
theorem Ki {a0 r} (h : Fq N a0 = some r) (ha : args = [.int .u64 a0]) (hQ : ∀ n', n ≤ n' → Gl (Q (.str r) ⟨m, n'⟩)) : ACall vE 79 args ⟨m, n⟩ Q := by
 rw [Fq] at h
 subst ha
 refine ent hQ Tryd.func79 rfl Tryd.ntmps79 Tryd.results79 (.q (.r []) (.q (.r []) .z)) fun R hR => ?_
 replace h := And.intro trivial h
 simp (disch := omega) only [vm, seval, h.1]
 refine ⟨F7 (σ := Int × (List UInt8)) (γ := Unit) (fun k s => Di N k s.1 s.2) (fun s g => [.int .u64 s.1, .str s.2]) (fun s g => m) [2, 4, 5, 6, 7, 8, 9, 10, 11, 12, 13, 14, 15, 16] [0, 3] (a0, []) () h (fun _ => rfl) (by first | (simp (disch := omega) only [vm, seval, h.1]; done) | rfl) (by first | (simp (disch := omega) only [vm, seval, h.1]; done) | rfl) ?_⟩
 clear h
 rintro k1 ⟨s0, s3⟩ _ nL0_1 hnL0_1 _ h Jk1 hk1
 change _ ∧ Di N (k1 + 1) s0 s3 = _ at h
 rw [Di] at h
 refine AA (.q (.r []) (.q (.r []) (.q (.r []) (.c (.q (.r []) .z) .z)))) ?_
 replace h := Ad h
 obtain ⟨c, h⟩ := h
 try simp only [liE, seval] at c
 replace h := Ab c h
 replace h := AC h
 rcases h with h | h
 obtain ⟨H, h⟩ := h
 cases h
 simp (disch := omega) only [vm, seval, H]
 refine ⟨(hR _ _ _ _ _ _ (by simp (disch := omega) only [vm, seval, H]; rfl) slr ?_ (by omega) ?_).1⟩ <;> first | (simp (disch := omega) only [vm, seval, H]; done) | rfl
 simp (disch := omega) only [vm, seval, h.1]
 refine ⟨hk1 ((wr .u64 (s0.tdiv 10)), ((List.map EY [(wr .u8 (wr .u64 (48 + (s0.tmod 10))))]) ++ s3)) () _ _ _ _ h.2 slr ?_ ?_ ?_ (by omega)⟩ <;> first | (simp (disch := omega) only [vm, seval, h.1]; done) | rfl
theorem RA {a0 r} (h : Ei N a0 = some r) (ha : args = [.str a0]) (hQ : ∀ n', n ≤ n' → Gl (Q (.int .i64 r) ⟨m, n'⟩)) : ACall vE 103 args ⟨m, n⟩ Q := by
 rw [Ei] at h
 subst ha
 refine ent hQ Tryd.func103 rfl Tryd.ntmps103 Tryd.results103 (.q (.r []) (.q (.q (.r []) (.c (.q (.r []) .z) .z)) (.q .z .z))) fun R hR => ?_
 replace h := And.intro trivial h
 replace h := AC h
 rcases h with h | h
 replace h := AB h
 obtain ⟨x1, h⟩ := h
 obtain ⟨H, h⟩ := h
 cases h
 simp (disch := omega) only [vm, seval, H]
 refine ⟨(hR _ _ _ _ _ _ (by simp (disch := omega) only [vm, seval, H]; rfl) slr ?_ (by omega) ?_).1⟩ <;> first | (simp (disch := omega) only [vm, seval, H]; done) | rfl
 replace h := AB h
 obtain ⟨x2, h⟩ := h
 replace h := Ad h
 obtain ⟨c, h⟩ := h
 try simp only [liE, seval] at c
 replace h := Ab c h
 simp (disch := omega) only [vm, seval, h.1]
 refine ⟨Ar [] (.take 0 (.take 1 (.take 2 (.take 3 (.take 4 (.take 5 (.take 6 (.take 7 (.take 8 (.alt 9 [] (.done) (.stop))))))))))) Ah (by kernel_rfl) ?_⟩
 simp (disch := omega) only [vm, seval, h.1]
 refine ⟨AX (γ := Unit) h [4, 20, 21, 22, 23, 24, 25, 26, 27, 28, 29, 30, 31, 32, 33] [3] (fun j3 g => [.int .i64 j3]) (fun j3 g => m) (.q (.r []) .z) ?_ ?_⟩ <;> clear h
 rintro j3 _ n6 hnn6 _ _ h
 refine AA (.q (.r []) .z) ?_
 obtain ⟨H, h⟩ := h
 cases h
 simp (disch := omega) only [vm, seval, H]
 refine ⟨(hR _ _ _ _ _ _ (by simp (disch := omega) only [vm, seval, H]; rfl) slr ?_ (by omega) ?_).1⟩ <;> first | (simp (disch := omega) only [vm, seval, H]; done) | rfl
 intro k4 Jk4 hk4 h
 replace h := Ad h
 obtain ⟨hfk7, h⟩ := h
 simp (disch := omega) only [vm, seval, h.1]
 refine ⟨Qg (σ := Int) (γ := Unit) 1 (a0.length : Int) hfk7 (fun xs i s => Be N a0 k4 xs i s) (fun i s g => [.int .i64 s, .int .i64 i]) (fun i s g => m) [20, 21, 22, 23, 24, 25, 26, 27, 28, 29, 30, 31, 32, 33] [3, 4] (DC .i64 (wr .i64 (AP x2)) (wr .i64 ((Lp .i64 1 (wr .i64 (7 - (a0.length : Int)))) - 1))) () h (by first | (simp (disch := omega) only [vm, seval, h.1]; done) | rfl) (by first | (simp (disch := omega) only [vm, seval, h.1]; done) | rfl) ?_ ?_⟩ <;> clear h
 rintro s4 s3 _ nL0_1 hnL0_1 _ h
 change _ ∧ Be N a0 k4 0 s4 s3 = _ at h
 rw [Be] at h
 refine AA (.q (.q (.r []) (.c .z .z)) (.q (.r []) (.r []))) ?_
 simp (disch := omega) only [vm, seval, h.1]
 refine ⟨hk4 s3 () _ _ _ _ h.2 slr ?_ ?_ ?_ (by omega)⟩ <;> first | (simp (disch := omega) only [vm, seval, h.1]; done) | rfl
 rintro xsk7 s4 s3 _ nL0_1 hnL0_1 _ h Jk7 hk7
 change _ ∧ Be N a0 k4 (xsk7 + 1) s4 s3 = _ at h
 rw [Be] at h
 refine AA (.q (.q (.r []) (.c .z .z)) (.q (.r []) (.r []))) ?_
 replace h := AB h
 obtain ⟨x8, h⟩ := h
 simp (disch := omega) only [vm, seval, h.1]
 refine ⟨hk7 (Ee .i64 (Lp .i64 s3 6) (DC .i64 (wr .i64 (AP x8)) 63)) () _ _ _ _ h.2 slr ?_ ?_ ?_ (by omega)⟩ <;> first | (simp (disch := omega) only [vm, seval, h.1]; done) | rfl
end Go.Proofs.YtbmilkoebhmnnaaDoor
