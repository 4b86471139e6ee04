import Derived.Test.YtbmilkoebhmnnaaDoorVmFacts
import Derived.Test.YtbmilkoebhmnnaaDoorDefs
import Derived.Test.YtbmilkoebhmnnaaDoorVM2
import Derived.Test.YtbmilkoebhmnnaaDoorW2
import Derived.Test.YtbmilkoebhmnnaaDoorW4
import Derived.Test.YtbmilkoebhmnnaaDoorW5
set_option linter.unusedVariables false
set_option linter.unusedSimpArgs false
set_option maxHeartbeats 4000000
set_option maxRecDepth 100000
set_option linter.defProp false
namespace Go.Proofs.YtbmilkoebhmnnaaDoor
open Go.VM
variable {N n : Nat} {m : MS} {Q : PQ} {args : List AVal}
theorem IL {a0 r} {i0 : Nat} (h : Dc N a0 = some r) (ha : args = [.ptr i0 0]) (hi0 : Ap m i0 = some ([.str a0.s, .int .i64 a0.at_])) (hQ : ∀ n', n ≤ n' → Gl (Q (.tuple [.int .i64 r.1, .bool r.2.1]) ⟨BH m i0 ([.str r.2.2.s, .int .i64 r.2.2.at_]), n'⟩)) : ACall vE 61 args ⟨m, n⟩ Q := by
 rw [Dc] at h
 subst ha
 refine ACall.front hi0 fun hin => ent (fun n' k => ⟨_, rfl, (hQ n' k).go⟩) Tryd.func61 rfl Tryd.ntmps61 Tryd.results61 (.q (.r []) (.q .z .z)) fun R hR => ?_
 replace h := And.intro trivial h
 simp (disch := omega) only [vm, seval, h.1]
 refine ⟨AX (γ := Unit) h [6, 7, 8, 9, 10, 11, 12, 13, 14, 15, 16, 17, 18, 19, 20, 21, 22, 23, 24, 25, 26, 27, 28, 29, 30, 31, 32] [33] (fun j1 g => [.bool j1]) (fun j1 g => (i0, [.str a0.s, .int .i64 a0.at_]) :: CZ m i0) .z ?_ ?_⟩ <;> clear h
 · rintro j1 _ n4 hnn4 _ _ h
   refine AA (.c (.q (.r []) .z) .z) ?_
   replace h := AC h
   rcases h with h | h
   obtain ⟨H, h⟩ := h
   cases h
   simp (disch := omega) only [vm, seval, H]
   refine ⟨(hR _ _ _ _ _ _ (by simp (disch := omega) only [vm, seval, H]; rfl) slr ?_ (by omega) ?_).1⟩ <;> first | (simp (disch := omega) only [vm, seval, H]; done) | rfl
   · simp (disch := omega) only [vm, seval, h.1]
     refine ⟨AX (γ := Unit) h [34, 35, 36, 37, 38, 39, 40, 41, 42, 43, 44, 45, 46, 47, 48, 49, 50, 51, 52] [4, 5] (fun j6 g => [.int .u64 j6.1, .int .i64 j6.2]) (fun j6 g => (i0, [.str a0.s, .int .i64 a0.at_]) :: CZ m i0) .z ?_ ?_⟩ <;> clear h
     rintro j6 _ n9 hnn9 _ _ h
     refine AA (.q (.q (.r []) (.c (.q (.r []) .z) .z)) (.q (.r []) (.q (.r []) .z))) ?_
     replace h := AC h
     rcases h with h | h
     obtain ⟨H, h⟩ := h
     cases h
     simp (disch := omega) only [vm, seval, H]
     refine ⟨(hR _ _ _ _ _ _ (by simp (disch := omega) only [vm, seval, H]; rfl) slr ?_ (by omega) ?_).1⟩ <;> first | (simp (disch := omega) only [vm, seval, H]; done) | rfl
     obtain ⟨H, h⟩ := h
     cases h
     simp (disch := omega) only [vm, seval, H]
     refine ⟨(hR _ _ _ _ _ _ (by simp (disch := omega) only [vm, seval, H]; rfl) slr ?_ (by omega) ?_).1⟩ <;> first | (simp (disch := omega) only [vm, seval, H]; done) | rfl
     · intro k7 Jk7 hk7 h
       replace h := AB h
       obtain ⟨x10, h⟩ := h
       replace h := AB h
       obtain ⟨y11, h⟩ := h
       have cy11 := h.1.1
       simp (disch := omega) only [vm, seval, h.1]
       refine ⟨Ar [] (.take 0 (.take 1 (.take 2 (.take 3 (.take 4 (.take 5 (.take 6 (.take 7 (.take 8 (.take 9 (.take 10 (.take 11 (.take 12 (.take 13 (.take 14 (.alt 15 [13, 12, 11, 10, 9, 8, 7, 6, 5, 4, 3, 2, 1, 0] (.take 16 (.alt 17 [14, 13, 12, 11, 10, 9, 8, 7, 6, 5, 4, 3, 2, 1, 0] (.alt 18 [14, 13, 12, 11, 10, 9, 8, 7, 6, 5, 4, 3, 2, 1, 0] (.alt 19 [] (.alt 20 [] (.done) (.stop)) (.stop)) (.alt 19 [] (.alt 18 [14, 13, 12, 11, 10, 9, 8, 7, 6, 5, 4, 3, 2, 1, 0] (.alt 20 [] (.done) (.stop)) (.stop)) (.stop))) (.alt 18 [14, 13, 12, 11, 10, 9, 8, 7, 6, 5, 4, 3, 2, 1, 0] (.alt 17 [14, 13, 12, 11, 10, 9, 8, 7, 6, 5, 4, 3, 2, 1, 0] (.alt 19 [] (.alt 20 [] (.done) (.stop)) (.stop)) (.stop)) (.stop)))) (.stop))))))))))))))))) Ah (by kernel_rfl) ?_⟩
       all_goals
        simp (disch := omega) only [vm, seval, h.1]
        repeat' refine M7 ?_ ?_
        all_goals
         refine ⟨Sr cy11 (by first | (simp (disch := omega) only [vm, seval, h.1]; done) | rfl) fun n12 hn12 => ?_⟩
         simp (disch := omega) only [vm, seval, h.1]
         refine ⟨hk7 (y11.1, y11.2) () _ _ _ _ h.2 slr ?_ ?_ ?_ (by omega)⟩ <;> first | (simp (disch := omega) only [vm, seval, h.1]; done) | rfl
 intro k2 Jk2 hk2 h
 replace h := AC h
 rcases h with h | h
 simp (disch := omega) only [vm, seval, h.1]
 refine ⟨Ar [] (.take 0 (.take 1 (.take 2 (.take 3 (.take 4 (.take 5 (.take 6 (.take 7 (.take 8 (.take 9 (.take 10 (.take 11 (.take 12 (.take 13 (.take 14 (.take 15 (.take 16 (.take 17 (.take 18 (.take 19 (.take 20 (.take 21 (.take 22 (.take 23 (.take 24 (.take 25 (.take 26 (.take 27 (.done))))))))))))))))))))))))))))) Ah (by kernel_rfl) ?_⟩
 simp (disch := omega) only [vm, seval, h.1]
 refine ⟨hk2 true () _ _ _ _ h.2 slr ?_ ?_ ?_ (by omega)⟩ <;> first | (simp (disch := omega) only [vm, seval, h.1]; done) | rfl
 replace h := AB h
 obtain ⟨x5, h⟩ := h
 simp (disch := omega) only [vm, seval, h.1]
 refine ⟨Ar [] (.take 0 (.take 1 (.take 2 (.take 3 (.take 4 (.take 5 (.take 6 (.take 7 (.take 8 (.take 9 (.take 10 (.take 11 (.take 12 (.take 13 (.take 14 (.take 15 (.take 16 (.take 17 (.take 18 (.take 19 (.take 20 (.take 21 (.take 22 (.take 23 (.take 24 (.take 25 (.take 26 (.take 27 (.done))))))))))))))))))))))))))))) Ah (by kernel_rfl) ?_⟩
 simp (disch := omega) only [vm, seval, h.1]
 refine ⟨hk2 (!(x5 == ([92, 117] : List UInt8))) () _ _ _ _ h.2 slr ?_ ?_ ?_ (by omega)⟩ <;> first | (simp (disch := omega) only [vm, seval, h.1]; done) | rfl
theorem Iq {a0 a1 r} (h : Ec N a0 a1 = some r) (ha : args = [.str a0, .str a1]) (hQ : ∀ n', n ≤ n' → Gl (Q (.str r) ⟨m, n'⟩)) : ACall vE 69 args ⟨m, n⟩ Q := by
 rw [Ec] at h
 subst ha
 refine ent hQ Tryd.func69 rfl Tryd.ntmps69 Tryd.results69 (.q (.r []) .z) fun R hR => ?_
 replace h := And.intro trivial h
 simp (disch := omega) only [vm, seval, h.1]
 refine ⟨AX (γ := Unit) h [5, 6, 7, 8, 9, 10, 11, 12, 13, 14, 15, 16, 17, 18, 19, 20, 21] [0] (fun j1 g => [.str j1]) (fun j1 g => m) .z ?_ ?_⟩ <;> clear h
 rintro j1 _ n4 hnn4 _ _ h
 refine AA (.q (.r []) .z) ?_
 obtain ⟨H, h⟩ := h
 cases h
 simp (disch := omega) only [vm, seval, H]
 refine ⟨(hR _ _ _ _ _ _ (by simp (disch := omega) only [vm, seval, H]; rfl) slr ?_ (by omega) ?_).1⟩ <;> first | (simp (disch := omega) only [vm, seval, H]; done) | rfl
 intro k2 Jk2 hk2 h
 simp (disch := omega) only [vm, seval, h.1]
 refine ⟨F7 (σ := (List UInt8)) (γ := Unit) (fun k s => CK N a1 k2 k s) (fun s g => [.str s]) (fun s g => m) [5, 6, 7, 8, 9, 10, 11, 12, 13, 14, 15, 16, 17, 18, 19, 20, 21] [0] a0 () h (fun _ => rfl) (by first | (simp (disch := omega) only [vm, seval, h.1]; done) | rfl) (by first | (simp (disch := omega) only [vm, seval, h.1]; done) | rfl) ?_⟩
 clear h
 rintro k5 s0 _ nL0_1 hnL0_1 _ h Jk5 hk5
 change _ ∧ CK N a1 k2 (k5 + 1) s0 = _ at h
 rw [CK] at h
 refine AA (.q (.q (.r []) (.c .z .z)) (.q (.r []) (.q (.q (.r []) (.c .z .z)) (.r [])))) ?_
 replace h := AC h
 rcases h with h | h
 replace h := AB h
 obtain ⟨y6, h⟩ := h
 simp (disch := omega) only [vm, seval, h.1]
 refine ⟨EE h.1.1 (by first | (simp (disch := omega) only [vm, seval, h.1]; done) | rfl) fun n7 hn7 => ?_⟩
 replace h := AB h
 obtain ⟨y8, h⟩ := h
 simp (disch := omega) only [vm, seval, h.1]
 refine ⟨Gf h.1.1 (by first | (simp (disch := omega) only [vm, seval, h.1]; done) | rfl) fun n9 hn9 => ?_⟩
 replace h := AC h
 rcases h with h | h
 replace h := AB h
 obtain ⟨x10, h⟩ := h
 simp (disch := omega) only [vm, seval, h.1]
 refine ⟨hk5 x10 () _ _ _ _ h.2 slr ?_ ?_ ?_ (by omega)⟩ <;> first | (simp (disch := omega) only [vm, seval, h.1]; done) | rfl
 simp (disch := omega) only [vm, seval, h.1]
 refine ⟨hk2 s0 () _ _ _ _ h.2 slr ?_ ?_ ?_ (by omega)⟩ <;> first | (simp (disch := omega) only [vm, seval, h.1]; done) | rfl
 simp (disch := omega) only [vm, seval, h.1]
 refine ⟨hk2 s0 () _ _ _ _ h.2 slr ?_ ?_ ?_ (by omega)⟩ <;> first | (simp (disch := omega) only [vm, seval, h.1]; done) | rfl
theorem Ii {a0 a1 r} (h : EW N a0 a1 = some r) (ha : args = [.str a0, .str a1]) (hQ : ∀ n', n ≤ n' → Gl (Q (.str r) ⟨m, n'⟩)) : ACall vE 72 args ⟨m, n⟩ Q := by
 rw [EW] at h
 subst ha
 refine ent hQ Tryd.func72 rfl Tryd.ntmps72 Tryd.results72 (.q (.r []) .z) fun R hR => ?_
 replace h := And.intro trivial h
 simp (disch := omega) only [vm, seval, h.1]
 refine ⟨AX (γ := Unit) h [5, 6, 7, 8, 9, 10, 11, 12, 13, 14, 15, 16, 17, 18, 19, 20, 21, 22, 23, 24, 25, 26, 27, 28, 29, 30, 31, 32] [0] (fun j1 g => [.str j1]) (fun j1 g => m) .z ?_ ?_⟩ <;> clear h
 rintro j1 _ n4 hnn4 _ _ h
 refine AA (.q (.r []) .z) ?_
 obtain ⟨H, h⟩ := h
 cases h
 simp (disch := omega) only [vm, seval, H]
 refine ⟨(hR _ _ _ _ _ _ (by simp (disch := omega) only [vm, seval, H]; rfl) slr ?_ (by omega) ?_).1⟩ <;> first | (simp (disch := omega) only [vm, seval, H]; done) | rfl
 intro k2 Jk2 hk2 h
 simp (disch := omega) only [vm, seval, h.1]
 refine ⟨F7 (σ := (List UInt8)) (γ := Unit) (fun k s => Bw N a1 k2 k s) (fun s g => [.str s]) (fun s g => m) [5, 6, 7, 8, 9, 10, 11, 12, 13, 14, 15, 16, 17, 18, 19, 20, 21, 22, 23, 24, 25, 26, 27, 28, 29, 30, 31, 32] [0] a0 () h (fun _ => rfl) (by first | (simp (disch := omega) only [vm, seval, h.1]; done) | rfl) (by first | (simp (disch := omega) only [vm, seval, h.1]; done) | rfl) ?_⟩
 clear h
 rintro k5 s0 _ nL0_1 hnL0_1 _ h Jk5 hk5
 change _ ∧ Bw N a1 k2 (k5 + 1) s0 = _ at h
 rw [Bw] at h
 refine AA (.q (.q (.r []) (.c .z .z)) (.q (.r []) .z)) ?_
 replace h := AC h
 rcases h with h | h
 replace h := AB h
 obtain ⟨x6, h⟩ := h
 simp (disch := omega) only [vm, seval, h.1]
 refine ⟨AX (γ := Unit) h [16, 17, 18, 19, 20, 21, 22] [5, 6] (fun j7 g => [.int .i32 j7.1, .int .i64 j7.2]) (fun j7 g => m) (.q (.r []) (.c (.r []) .z)) ?_ ?_⟩ <;> clear h
 rintro j7 _ n10 hnn10 _ _ h
 refine AA (.q (.q (.r []) (.c .z .z)) (.r [])) ?_
 replace h := AB h
 obtain ⟨y13, h⟩ := h
 simp (disch := omega) only [vm, seval, h.1]
 refine ⟨Gf h.1.1 (by first | (simp (disch := omega) only [vm, seval, h.1]; done) | rfl) fun n14 hn14 => ?_⟩
 replace h := AC h
 rcases h with h | h
 replace h := AB h
 obtain ⟨x15, h⟩ := h
 simp (disch := omega) only [vm, seval, h.1]
 refine ⟨hk5 x15 () _ _ _ _ h.2 slr ?_ ?_ ?_ (by omega)⟩ <;> first | (simp (disch := omega) only [vm, seval, h.1]; done) | rfl
 simp (disch := omega) only [vm, seval, h.1]
 refine ⟨hk2 s0 () _ _ _ _ h.2 slr ?_ ?_ ?_ (by omega)⟩ <;> first | (simp (disch := omega) only [vm, seval, h.1]; done) | rfl
 intro k8 Jk8 hk8 h
 replace h := AC h
 rcases h with h | h
 replace h := AB h
 obtain ⟨y11, h⟩ := h
 simp (disch := omega) only [vm, seval, h.1]
 refine ⟨Fy h.1.1 (by first | (simp (disch := omega) only [vm, seval, h.1]; done) | rfl) fun n12 hn12 => ?_⟩
 simp (disch := omega) only [vm, seval, h.1]
 refine ⟨hk8 (y11.1, y11.2) () _ _ _ _ h.2 slr ?_ ?_ ?_ (by omega)⟩ <;> first | (simp (disch := omega) only [vm, seval, h.1]; done) | rfl
 simp (disch := omega) only [vm, seval, h.1]
 refine ⟨hk8 ((wr .i32 (AP x6)), 1) () _ _ _ _ h.2 slr ?_ ?_ ?_ (by omega)⟩ <;> first | (simp (disch := omega) only [vm, seval, h.1]; done) | rfl
 simp (disch := omega) only [vm, seval, h.1]
 refine ⟨hk2 s0 () _ _ _ _ h.2 slr ?_ ?_ ?_ (by omega)⟩ <;> first | (simp (disch := omega) only [vm, seval, h.1]; done) | rfl
theorem JL {a0 r} (h : Fa N a0 = some r) (ha : args = [.str a0]) (hQ : ∀ n', n ≤ n' → Gl (Q (.bool r) ⟨m, n'⟩)) : ACall vE 57 args ⟨m, n⟩ Q := by
 rw [Fa] at h
 subst ha
 refine ent hQ Tryd.func57 rfl Tryd.ntmps57 Tryd.results57 (.q (.r []) (.q (.r []) .z)) fun R hR => ?_
 replace h := And.intro trivial h
 replace h := AB h
 obtain ⟨y1, h⟩ := h
 simp (disch := omega) only [vm, seval, h.1]
 refine ⟨RG h.1.1 (by first | (simp (disch := omega) only [vm, seval, h.1]; done) | rfl) fun n2 hn2 => ?_⟩
 obtain ⟨H, h⟩ := h
 cases h
 simp (disch := omega) only [vm, seval, H]
 refine ⟨(hR _ _ _ _ _ _ (by simp (disch := omega) only [vm, seval, H]; rfl) slr ?_ (by omega) ?_).1⟩ <;> first | (simp (disch := omega) only [vm, seval, H]; done) | rfl
end Go.Proofs.YtbmilkoebhmnnaaDoor
