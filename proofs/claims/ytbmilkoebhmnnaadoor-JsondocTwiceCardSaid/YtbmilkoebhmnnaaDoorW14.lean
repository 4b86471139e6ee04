import Derived.Test.YtbmilkoebhmnnaaDoorVmFacts
import Derived.Test.YtbmilkoebhmnnaaDoorDefs
import Derived.Test.YtbmilkoebhmnnaaDoorVM2
import Derived.Test.YtbmilkoebhmnnaaDoorW0
import Derived.Test.YtbmilkoebhmnnaaDoorW1
import Derived.Test.YtbmilkoebhmnnaaDoorW3
import Derived.Test.YtbmilkoebhmnnaaDoorW11
import Derived.Test.YtbmilkoebhmnnaaDoorW12
import Derived.Test.YtbmilkoebhmnnaaDoorW13
import Derived.Test.YtbmilkoebhmnnaaDoorVM5
set_option linter.unusedVariables false
set_option linter.unusedSimpArgs false
set_option maxHeartbeats 4000000
set_option maxRecDepth 100000
set_option linter.defProp false
namespace Go.Proofs.YtbmilkoebhmnnaaDoor
open Go.VM
variable {N n : Nat} {m : MS} {Q : PQ} {args : List AVal}
theorem AJF {j k nx : Nat} {x : List UInt8} {ks : List (List UInt8)} {junk : List AVal} {rest : MS} (hj : j ≠ k) (hf : Bn (ks.length + 1) 16) : Ow vE 23 23 (.gsl 1 j ks.length) (.gsl 1 k 1) ⟨(k, List.flatMap (fun p : Nat × AVal => AZ p.2) [((0 : Nat), AVal.str x)]) :: (j, ks.map AVal.str ++ junk) :: rest, nx⟩ = some (1, ks.length + 1, ks.map AVal.str ++ [.str x], rest, some j) := by
  unfold Bn at hf
  simp [Ow, Ap, CZ, Tq, Sm, NZ, hj, CG, AZ]
  omega
theorem AGe {k nx : Nat} {x : List UInt8} {rest : MS} : Ow vE 23 23 (.slice 1 [] true) (.gsl 1 k 1) ⟨(k, List.flatMap (fun p : Nat × AVal => AZ p.2) [((0 : Nat), AVal.str x)]) :: rest, nx⟩ = some (1, 1, [.str x], rest, none) := by
  simp [Ow, Ap, CZ, Tq, Sm, NZ, CG, AZ]
theorem AEd {wd l : Nat} {cs : List AVal} {rest : MS} {X : Prop} {d : Option Tmp} {K : List AVal → St → Prop} {af : List AVal} {st : St} : agK true (some (wd, l, cs, rest, none)) X d K af st = K (Au af d (.gsl wd st.next l)) { m := (st.next, cs) :: rest, next := st.next + 1 } := by
  simp [agK]
theorem AGA {wd l j : Nat} {cs : List AVal} {rest : MS} {X : Prop} {d : Option Tmp} {K : List AVal → St → Prop} {af : List AVal} {st : St} : agK true (some (wd, l, cs, rest, some j)) X d K af st = (K (Au af d (.gsl wd st.next l)) { m := (st.next, cs) :: rest, next := st.next + 1 } ∧ K (Au af d (.gsl wd j l)) { m := (j, cs) :: rest, next := st.next + 1 }) := by
  simp only [agK, if_true, Option.some.injEq, eq_iff_iff]
  exact ⟨fun h => ⟨h _ (.inl rfl), h _ (.inr rfl)⟩, fun h i hi => by rcases hi with rfl | rfl; exact h.1; exact h.2⟩
theorem Vs : ∀ ks : List (List UInt8), (ks.map AVal.str).flatMap AZ = ks.map AVal.str
  | [] => rfl
  | k :: ks => by rw [List.map_cons, List.flatMap_cons, Vs ks]; rfl
theorem Yk {j l : Nat} {x : Int} (h : 0 ≤ x ∧ x < l) : Bp vE 23 (.gsl 1 j l) (.int .i64 x) = some (.ptr j (x.toNat * 1)) := by
  simp [Bp, Rz, h.1, h.2]
theorem UQ {α : Type} {l : List α} {x : Int} {k : α} (h : idx l x = some k) : (0 ≤ x ∧ x < (l.length : Int)) ∧ l[x.toNat]? = some k := by
  unfold idx at h
  split at h
  · rename_i h0
    refine ⟨⟨by omega, ?_⟩, h⟩
    have := (List.getElem?_eq_some_iff.1 h).1
    omega
  · cases h
theorem AFZ {ks : List (List UInt8)} {junk : List AVal} {x : Int} {k : List UInt8} (h : idx ks x = some k) : idx (ks.map AVal.str ++ junk) x = some (.str k) := by
  obtain ⟨h1, h2⟩ := UQ h
  unfold idx
  rw [if_pos h1.1, List.getElem?_append_left (by simp; omega), List.getElem?_map, h2]; rfl
theorem AIr {ks : List (List UInt8)} {junk : List AVal} {i : Nat} {k : List UInt8} (h : i < ks.length) : (ks.map AVal.str ++ junk).set i (.str k) = (ks.set i k).map AVal.str ++ junk := by
  rw [List.set_append_left _ _ (by simpa using h), List.map_set]
theorem AJt {ks : List (List UInt8)} {junk : List AVal} {x : Int} {k : List UInt8} (h : idx ks x = some k) : (ks.map AVal.str ++ junk)[x.toNat]? = some (.str k) := by
  have h1 := AFZ (junk := junk) h
  have h2 := (UQ h).1.1
  unfold idx at h1
  rw [if_pos h2] at h1
  exact h1
def twM (q : Nat) (m : MS) (s : List (List UInt8) × List ApiValue) (g : { p : Nat × List AVal // p.1 ≠ q }) : MS :=
  if s.1 = [] then (q, [.int .i64 7, .str [], .slice 1 [] true, .slice 4 (s.2.map AJ) true]) :: m
  else (g.1.1, s.1.map AVal.str ++ g.1.2) :: (q, [.int .i64 7, .str [], .gsl 1 g.1.1 s.1.length, .slice 4 (s.2.map AJ) true]) :: m
theorem Ka {a0 a1 a2 r} (h : Ew N a0 a1 a2 = some r) (ha : args = [.slice 1 (List.map AVal.str a0) false, .int .u8 a1, .int .u8 a2]) (hQ : ∀ n', n ≤ n' → Gl (Q (.bool r) ⟨m, n'⟩)) : ACall vE 4 args ⟨m, n⟩ Q := by
 rw [Ew] at h
 subst ha
 refine ent hQ Tryd.func4 rfl Tryd.ntmps4 Tryd.results4 (.q (.r []) (.q (.q (.r []) (.c (.q (.r []) .z) .z)) (.q (.q (.r []) (.c (.q (.r []) .z) .z)) (.q .z (.q (.r []) (.q (.q (.r []) .z) .z)))))) fun R hR => ?_
 replace h := And.intro trivial h
 replace h := AB h
 obtain ⟨y1, h⟩ := h
 simp (maxSteps := 10000000) (disch := omega) only [vm, seval, h.1]
 refine ⟨Sk h.1.1 (by first | (simp (maxSteps := 10000000) (disch := omega) only [vm, seval, h.1]; done) | rfl) fun n2 hn2 => ?_⟩
 replace h := AC h
 rcases h with h | h
 rotate_left
 · obtain ⟨H, h⟩ := h
   cases h
   simp (maxSteps := 10000000) (disch := omega) only [vm, seval, H]
   refine ⟨(hR _ _ _ _ _ _ (by simp (maxSteps := 10000000) (disch := omega) only [vm, seval, H]; rfl) slr ?_ (by omega) ?_).1⟩ <;> first | (simp (maxSteps := 10000000) (disch := omega) only [vm, seval, H]; done) | rfl
 replace h := AC h
 rcases h with h | h
 · obtain ⟨H, h⟩ := h
   cases h
   simp (maxSteps := 10000000) (disch := omega) only [vm, seval, H]
   refine ⟨(hR _ _ _ _ _ _ (by simp (maxSteps := 10000000) (disch := omega) only [vm, seval, H]; rfl) slr ?_ (by omega) ?_).1⟩ <;> first | (simp (maxSteps := 10000000) (disch := omega) only [vm, seval, H]; done) | rfl
 replace h := AB h
 obtain ⟨y7, h⟩ := h
 simp (maxSteps := 10000000) (disch := omega) only [vm, seval, h.1]
 refine ⟨Qj h.1.1 (by first | (simp (maxSteps := 10000000) (disch := omega) only [vm, seval, h.1]; done) | rfl) fun n8 hn8 => ?_⟩
 replace h := AC h
 rcases h with h | h
 rotate_left
 · obtain ⟨H, h⟩ := h
   cases h
   simp (maxSteps := 10000000) (disch := omega) only [vm, seval, H]
   refine ⟨(hR _ _ _ _ _ _ (by simp (maxSteps := 10000000) (disch := omega) only [vm, seval, H]; rfl) slr ?_ (by omega) ?_).1⟩ <;> first | (simp (maxSteps := 10000000) (disch := omega) only [vm, seval, H]; done) | rfl
 replace h := Ad h
 obtain ⟨c, h⟩ := h
 try simp only [liE, seval] at c
 replace h := Ab c h
 replace h := Ad h
 obtain ⟨hfk, h⟩ := h
 simp (maxSteps := 10000000) (disch := omega) only [vm, seval, h.1]
 refine ⟨Ar [] (.take 0 (.take 1 (.take 2 (.take 3 (.take 4 (.take 5 (.take 6 (.take 7 (.take 8 (.take 9 (.alt 10 [9, 8, 7, 6, 5] (.alt 11 [] (.done) (.stop)) (.stop)))))))))))) Ah (by kernel_rfl) ?_⟩
 simp (maxSteps := 10000000) (disch := omega) only [vm, seval, h.1]
 generalize hX : PI N a0 ((wr .i64 a1).tmod (a0.length : Int)) ((wr .i64 a2).tmod (a0.length : Int)) = kf at h
 refine ⟨EF (σ := (List (List UInt8)) × (List ApiValue)) (γ := { p : Nat × List AVal // p.1 ≠ n8 }) a0 hfk (fun xs i s => Lb N kf xs s.1 s.2) (fun i s g => [.int .i64 i]) (fun i s g => twM n8 m s g) [11, 49, 50, 51, 52, 53, 54, 55, 56, 57, 58, 59, 60, 61, 62, 63, 64] [48] ([], []) ⟨(n8 + 1, []), by simp⟩ h (by first | (simp (maxSteps := 10000000) (disch := omega) only [vm, seval, h.1]; done) | rfl) (by first | (simp (maxSteps := 10000000) (disch := omega) only [vm, seval, h.1]; done) | rfl) ?_ ?_⟩ <;> clear h
 rotate_left
 · rintro xk13 xsk13 s48 ⟨ks, vs⟩ ⟨⟨j, junk⟩, hj⟩ nL hnL hkl h Jk hk
   change _ ∧ Lb N kf (xk13 :: xsk13) ks vs = _ at h
   rw [Lb] at h
   refine AA (.q (.r []) (.q (.c .z .z) (.q (.q (.r []) .z) (.r [])))) ?_
   replace h := Ad h
   obtain ⟨cA, h⟩ := h
   have cA2 := cA
   try simp only [liE, seval] at cA
   replace h := Ab cA h
   replace h := Ad h
   obtain ⟨c, h⟩ := h
   try simp only [liE, seval] at c
   replace h := Ab c h
   by_cases hk0 : ks = []
   · subst hk0
     simp only [twM, if_true]
     simp (maxSteps := 10000000) (disch := omega) only [vm, seval, h.1]
     refine ⟨Ar [53, 55, 58] (.take 0 (.take 2 (.take 5 (.alt 1 [5, 2] (.alt 3 [5, 0] (.alt 4 [5, 2, 0] (.alt 6 [2, 0] (.take 10 (.alt 7 [10, 5, 2, 0] (.take 8 (.alt 9 [10, 5, 2, 0] (.alt 11 [8] (.take 12 (.alt 13 [] (.done) (.stop))) (.stop)) (.stop))) (.stop))) (.alt 7 [5, 2, 0] (.take 8 (.alt 6 [8, 2, 0] (.take 10 (.alt 9 [10, 5, 2, 0] (.alt 11 [8] (.take 12 (.alt 13 [] (.done) (.stop))) (.stop)) (.stop))) (.stop))) (.stop))) (.alt 6 [2, 0] (.alt 4 [5, 2, 0] (.take 10 (.alt 7 [10, 5, 2, 0] (.take 8 (.alt 9 [10, 5, 2, 0] (.alt 11 [8] (.take 12 (.alt 13 [] (.done) (.stop))) (.stop)) (.stop))) (.stop))) (.alt 7 [5, 2, 0] (.take 8 (.alt 4 [8, 5, 2, 0] (.take 10 (.alt 9 [10, 5, 2, 0] (.alt 11 [8] (.take 12 (.alt 13 [] (.done) (.stop))) (.stop)) (.stop))) (.stop))) (.stop))) (.alt 7 [5, 2, 0] (.take 8 (.alt 4 [8, 5, 2, 0] (.alt 6 [8, 2, 0] (.take 10 (.alt 9 [10, 5, 2, 0] (.alt 11 [8] (.take 12 (.alt 13 [] (.done) (.stop))) (.stop)) (.stop))) (.stop)) (.alt 6 [8, 2, 0] (.alt 4 [8, 5, 2, 0] (.take 10 (.alt 9 [10, 5, 2, 0] (.alt 11 [8] (.take 12 (.alt 13 [] (.done) (.stop))) (.stop)) (.stop))) (.stop)) (.stop)))) (.stop)))) (.alt 6 [2, 0] (.alt 3 [5, 0] (.alt 4 [5, 2, 0] (.take 10 (.alt 7 [10, 5, 2, 0] (.take 8 (.alt 9 [10, 5, 2, 0] (.alt 11 [8] (.take 12 (.alt 13 [] (.done) (.stop))) (.stop)) (.stop))) (.stop))) (.alt 7 [5, 2, 0] (.take 8 (.alt 4 [8, 5, 2, 0] (.take 10 (.alt 9 [10, 5, 2, 0] (.alt 11 [8] (.take 12 (.alt 13 [] (.done) (.stop))) (.stop)) (.stop))) (.stop))) (.stop))) (.alt 7 [5, 2, 0] (.take 8 (.alt 3 [8, 5, 0] (.alt 4 [8, 5, 2, 0] (.take 10 (.alt 9 [10, 5, 2, 0] (.alt 11 [8] (.take 12 (.alt 13 [] (.done) (.stop))) (.stop)) (.stop))) (.stop)) (.stop))) (.stop))) (.alt 7 [5, 2, 0] (.take 8 (.alt 3 [8, 5, 0] (.alt 4 [8, 5, 2, 0] (.alt 6 [8, 2, 0] (.take 10 (.alt 9 [10, 5, 2, 0] (.alt 11 [8] (.take 12 (.alt 13 [] (.done) (.stop))) (.stop)) (.stop))) (.stop)) (.alt 6 [8, 2, 0] (.alt 4 [8, 5, 2, 0] (.take 10 (.alt 9 [10, 5, 2, 0] (.alt 11 [8] (.take 12 (.alt 13 [] (.done) (.stop))) (.stop)) (.stop))) (.stop)) (.stop))) (.alt 6 [8, 2, 0] (.alt 3 [8, 5, 0] (.alt 4 [8, 5, 2, 0] (.take 10 (.alt 9 [10, 5, 2, 0] (.alt 11 [8] (.take 12 (.alt 13 [] (.done) (.stop))) (.stop)) (.stop))) (.stop)) (.stop)) (.stop)))) (.stop)))) (.alt 3 [5, 0] (.alt 1 [5, 2] (.alt 4 [5, 2, 0] (.alt 6 [2, 0] (.take 10 (.alt 7 [10, 5, 2, 0] (.take 8 (.alt 9 [10, 5, 2, 0] (.alt 11 [8] (.take 12 (.alt 13 [] (.done) (.stop))) (.stop)) (.stop))) (.stop))) (.alt 7 [5, 2, 0] (.take 8 (.alt 6 [8, 2, 0] (.take 10 (.alt 9 [10, 5, 2, 0] (.alt 11 [8] (.take 12 (.alt 13 [] (.done) (.stop))) (.stop)) (.stop))) (.stop))) (.stop))) (.alt 6 [2, 0] (.alt 4 [5, 2, 0] (.take 10 (.alt 7 [10, 5, 2, 0] (.take 8 (.alt 9 [10, 5, 2, 0] (.alt 11 [8] (.take 12 (.alt 13 [] (.done) (.stop))) (.stop)) (.stop))) (.stop))) (.alt 7 [5, 2, 0] (.take 8 (.alt 4 [8, 5, 2, 0] (.take 10 (.alt 9 [10, 5, 2, 0] (.alt 11 [8] (.take 12 (.alt 13 [] (.done) (.stop))) (.stop)) (.stop))) (.stop))) (.stop))) (.alt 7 [5, 2, 0] (.take 8 (.alt 4 [8, 5, 2, 0] (.alt 6 [8, 2, 0] (.take 10 (.alt 9 [10, 5, 2, 0] (.alt 11 [8] (.take 12 (.alt 13 [] (.done) (.stop))) (.stop)) (.stop))) (.stop)) (.alt 6 [8, 2, 0] (.alt 4 [8, 5, 2, 0] (.take 10 (.alt 9 [10, 5, 2, 0] (.alt 11 [8] (.take 12 (.alt 13 [] (.done) (.stop))) (.stop)) (.stop))) (.stop)) (.stop)))) (.stop)))) (.alt 6 [2, 0] (.alt 1 [5, 2] (.alt 4 [5, 2, 0] (.take 10 (.alt 7 [10, 5, 2, 0] (.take 8 (.alt 9 [10, 5, 2, 0] (.alt 11 [8] (.take 12 (.alt 13 [] (.done) (.stop))) (.stop)) (.stop))) (.stop))) (.alt 7 [5, 2, 0] (.take 8 (.alt 4 [8, 5, 2, 0] (.take 10 (.alt 9 [10, 5, 2, 0] (.alt 11 [8] (.take 12 (.alt 13 [] (.done) (.stop))) (.stop)) (.stop))) (.stop))) (.stop))) (.alt 7 [5, 2, 0] (.take 8 (.alt 1 [8, 5, 2] (.alt 4 [8, 5, 2, 0] (.take 10 (.alt 9 [10, 5, 2, 0] (.alt 11 [8] (.take 12 (.alt 13 [] (.done) (.stop))) (.stop)) (.stop))) (.stop)) (.stop))) (.stop))) (.alt 7 [5, 2, 0] (.take 8 (.alt 1 [8, 5, 2] (.alt 4 [8, 5, 2, 0] (.alt 6 [8, 2, 0] (.take 10 (.alt 9 [10, 5, 2, 0] (.alt 11 [8] (.take 12 (.alt 13 [] (.done) (.stop))) (.stop)) (.stop))) (.stop)) (.alt 6 [8, 2, 0] (.alt 4 [8, 5, 2, 0] (.take 10 (.alt 9 [10, 5, 2, 0] (.alt 11 [8] (.take 12 (.alt 13 [] (.done) (.stop))) (.stop)) (.stop))) (.stop)) (.stop))) (.alt 6 [8, 2, 0] (.alt 1 [8, 5, 2] (.alt 4 [8, 5, 2, 0] (.take 10 (.alt 9 [10, 5, 2, 0] (.alt 11 [8] (.take 12 (.alt 13 [] (.done) (.stop))) (.stop)) (.stop))) (.stop)) (.stop)) (.stop)))) (.stop)))) (.alt 6 [2, 0] (.alt 1 [5, 2] (.alt 3 [5, 0] (.alt 4 [5, 2, 0] (.take 10 (.alt 7 [10, 5, 2, 0] (.take 8 (.alt 9 [10, 5, 2, 0] (.alt 11 [8] (.take 12 (.alt 13 [] (.done) (.stop))) (.stop)) (.stop))) (.stop))) (.alt 7 [5, 2, 0] (.take 8 (.alt 4 [8, 5, 2, 0] (.take 10 (.alt 9 [10, 5, 2, 0] (.alt 11 [8] (.take 12 (.alt 13 [] (.done) (.stop))) (.stop)) (.stop))) (.stop))) (.stop))) (.alt 7 [5, 2, 0] (.take 8 (.alt 3 [8, 5, 0] (.alt 4 [8, 5, 2, 0] (.take 10 (.alt 9 [10, 5, 2, 0] (.alt 11 [8] (.take 12 (.alt 13 [] (.done) (.stop))) (.stop)) (.stop))) (.stop)) (.stop))) (.stop))) (.alt 3 [5, 0] (.alt 1 [5, 2] (.alt 4 [5, 2, 0] (.take 10 (.alt 7 [10, 5, 2, 0] (.take 8 (.alt 9 [10, 5, 2, 0] (.alt 11 [8] (.take 12 (.alt 13 [] (.done) (.stop))) (.stop)) (.stop))) (.stop))) (.alt 7 [5, 2, 0] (.take 8 (.alt 4 [8, 5, 2, 0] (.take 10 (.alt 9 [10, 5, 2, 0] (.alt 11 [8] (.take 12 (.alt 13 [] (.done) (.stop))) (.stop)) (.stop))) (.stop))) (.stop))) (.alt 7 [5, 2, 0] (.take 8 (.alt 1 [8, 5, 2] (.alt 4 [8, 5, 2, 0] (.take 10 (.alt 9 [10, 5, 2, 0] (.alt 11 [8] (.take 12 (.alt 13 [] (.done) (.stop))) (.stop)) (.stop))) (.stop)) (.stop))) (.stop))) (.alt 7 [5, 2, 0] (.take 8 (.alt 1 [8, 5, 2] (.alt 3 [8, 5, 0] (.alt 4 [8, 5, 2, 0] (.take 10 (.alt 9 [10, 5, 2, 0] (.alt 11 [8] (.take 12 (.alt 13 [] (.done) (.stop))) (.stop)) (.stop))) (.stop)) (.stop)) (.alt 3 [8, 5, 0] (.alt 1 [8, 5, 2] (.alt 4 [8, 5, 2, 0] (.take 10 (.alt 9 [10, 5, 2, 0] (.alt 11 [8] (.take 12 (.alt 13 [] (.done) (.stop))) (.stop)) (.stop))) (.stop)) (.stop)) (.stop)))) (.stop)))) (.alt 7 [5, 2, 0] (.take 8 (.alt 1 [8, 5, 2] (.alt 3 [8, 5, 0] (.alt 4 [8, 5, 2, 0] (.alt 6 [8, 2, 0] (.take 10 (.alt 9 [10, 5, 2, 0] (.alt 11 [8] (.take 12 (.alt 13 [] (.done) (.stop))) (.stop)) (.stop))) (.stop)) (.alt 6 [8, 2, 0] (.alt 4 [8, 5, 2, 0] (.take 10 (.alt 9 [10, 5, 2, 0] (.alt 11 [8] (.take 12 (.alt 13 [] (.done) (.stop))) (.stop)) (.stop))) (.stop)) (.stop))) (.alt 6 [8, 2, 0] (.alt 3 [8, 5, 0] (.alt 4 [8, 5, 2, 0] (.take 10 (.alt 9 [10, 5, 2, 0] (.alt 11 [8] (.take 12 (.alt 13 [] (.done) (.stop))) (.stop)) (.stop))) (.stop)) (.stop)) (.stop))) (.alt 3 [8, 5, 0] (.alt 1 [8, 5, 2] (.alt 4 [8, 5, 2, 0] (.alt 6 [8, 2, 0] (.take 10 (.alt 9 [10, 5, 2, 0] (.alt 11 [8] (.take 12 (.alt 13 [] (.done) (.stop))) (.stop)) (.stop))) (.stop)) (.alt 6 [8, 2, 0] (.alt 4 [8, 5, 2, 0] (.take 10 (.alt 9 [10, 5, 2, 0] (.alt 11 [8] (.take 12 (.alt 13 [] (.done) (.stop))) (.stop)) (.stop))) (.stop)) (.stop))) (.alt 6 [8, 2, 0] (.alt 1 [8, 5, 2] (.alt 4 [8, 5, 2, 0] (.take 10 (.alt 9 [10, 5, 2, 0] (.alt 11 [8] (.take 12 (.alt 13 [] (.done) (.stop))) (.stop)) (.stop))) (.stop)) (.stop)) (.stop))) (.alt 6 [8, 2, 0] (.alt 1 [8, 5, 2] (.alt 3 [8, 5, 0] (.alt 4 [8, 5, 2, 0] (.take 10 (.alt 9 [10, 5, 2, 0] (.alt 11 [8] (.take 12 (.alt 13 [] (.done) (.stop))) (.stop)) (.stop))) (.stop)) (.stop)) (.alt 3 [8, 5, 0] (.alt 1 [8, 5, 2] (.alt 4 [8, 5, 2, 0] (.take 10 (.alt 9 [10, 5, 2, 0] (.alt 11 [8] (.take 12 (.alt 13 [] (.done) (.stop))) (.stop)) (.stop))) (.stop)) (.stop)) (.stop))) (.stop))))) (.stop)))))))) Ah (by kernel_rfl) ?_⟩
     simp (maxSteps := 10000000) (disch := omega) only [vm, seval, h.1, AGe, AEd, KZ, Da, D6, Et, Fp, Gd, Gh]
     refine ⟨hk ([xk13], vs ++ [(ApiValue.mk 1 [] [] [])]) ⟨(nL + 1, []), by simp only [ne_eq]; omega⟩ _ _ _ _ h.2 slr ?_ ?_ ?_ (by omega)⟩ <;> first | (simp (maxSteps := 10000000) (disch := omega) only [vm, seval, h.1]; done) | rfl | (simp [twM, AJ, Ev]; done)
   · simp only [twM, if_neg hk0]
     have hj1 : j ≠ n8 := hj
     have hj2 : n8 ≠ j := fun e => hj e.symm
     have hj3 : j < nL := by
       rcases Nat.lt_or_ge j nL with h9 | h9
       · exact h9
       · have := hkl j h9
         simp [twM, hk0, Ap] at this
     have hj4 : j ≠ nL := by omega
     simp (maxSteps := 10000000) (disch := omega) only [vm, seval, h.1, hj1, hj2]
     refine ⟨Ar [53, 55, 58] (.take 0 (.take 2 (.take 5 (.alt 1 [5, 2] (.alt 3 [5, 0] (.alt 4 [5, 2, 0] (.alt 6 [2, 0] (.take 10 (.alt 7 [10, 5, 2, 0] (.take 8 (.alt 9 [10, 5, 2, 0] (.alt 11 [8] (.take 12 (.alt 13 [] (.done) (.stop))) (.stop)) (.stop))) (.stop))) (.alt 7 [5, 2, 0] (.take 8 (.alt 6 [8, 2, 0] (.take 10 (.alt 9 [10, 5, 2, 0] (.alt 11 [8] (.take 12 (.alt 13 [] (.done) (.stop))) (.stop)) (.stop))) (.stop))) (.stop))) (.alt 6 [2, 0] (.alt 4 [5, 2, 0] (.take 10 (.alt 7 [10, 5, 2, 0] (.take 8 (.alt 9 [10, 5, 2, 0] (.alt 11 [8] (.take 12 (.alt 13 [] (.done) (.stop))) (.stop)) (.stop))) (.stop))) (.alt 7 [5, 2, 0] (.take 8 (.alt 4 [8, 5, 2, 0] (.take 10 (.alt 9 [10, 5, 2, 0] (.alt 11 [8] (.take 12 (.alt 13 [] (.done) (.stop))) (.stop)) (.stop))) (.stop))) (.stop))) (.alt 7 [5, 2, 0] (.take 8 (.alt 4 [8, 5, 2, 0] (.alt 6 [8, 2, 0] (.take 10 (.alt 9 [10, 5, 2, 0] (.alt 11 [8] (.take 12 (.alt 13 [] (.done) (.stop))) (.stop)) (.stop))) (.stop)) (.alt 6 [8, 2, 0] (.alt 4 [8, 5, 2, 0] (.take 10 (.alt 9 [10, 5, 2, 0] (.alt 11 [8] (.take 12 (.alt 13 [] (.done) (.stop))) (.stop)) (.stop))) (.stop)) (.stop)))) (.stop)))) (.alt 6 [2, 0] (.alt 3 [5, 0] (.alt 4 [5, 2, 0] (.take 10 (.alt 7 [10, 5, 2, 0] (.take 8 (.alt 9 [10, 5, 2, 0] (.alt 11 [8] (.take 12 (.alt 13 [] (.done) (.stop))) (.stop)) (.stop))) (.stop))) (.alt 7 [5, 2, 0] (.take 8 (.alt 4 [8, 5, 2, 0] (.take 10 (.alt 9 [10, 5, 2, 0] (.alt 11 [8] (.take 12 (.alt 13 [] (.done) (.stop))) (.stop)) (.stop))) (.stop))) (.stop))) (.alt 7 [5, 2, 0] (.take 8 (.alt 3 [8, 5, 0] (.alt 4 [8, 5, 2, 0] (.take 10 (.alt 9 [10, 5, 2, 0] (.alt 11 [8] (.take 12 (.alt 13 [] (.done) (.stop))) (.stop)) (.stop))) (.stop)) (.stop))) (.stop))) (.alt 7 [5, 2, 0] (.take 8 (.alt 3 [8, 5, 0] (.alt 4 [8, 5, 2, 0] (.alt 6 [8, 2, 0] (.take 10 (.alt 9 [10, 5, 2, 0] (.alt 11 [8] (.take 12 (.alt 13 [] (.done) (.stop))) (.stop)) (.stop))) (.stop)) (.alt 6 [8, 2, 0] (.alt 4 [8, 5, 2, 0] (.take 10 (.alt 9 [10, 5, 2, 0] (.alt 11 [8] (.take 12 (.alt 13 [] (.done) (.stop))) (.stop)) (.stop))) (.stop)) (.stop))) (.alt 6 [8, 2, 0] (.alt 3 [8, 5, 0] (.alt 4 [8, 5, 2, 0] (.take 10 (.alt 9 [10, 5, 2, 0] (.alt 11 [8] (.take 12 (.alt 13 [] (.done) (.stop))) (.stop)) (.stop))) (.stop)) (.stop)) (.stop)))) (.stop)))) (.alt 3 [5, 0] (.alt 1 [5, 2] (.alt 4 [5, 2, 0] (.alt 6 [2, 0] (.take 10 (.alt 7 [10, 5, 2, 0] (.take 8 (.alt 9 [10, 5, 2, 0] (.alt 11 [8] (.take 12 (.alt 13 [] (.done) (.stop))) (.stop)) (.stop))) (.stop))) (.alt 7 [5, 2, 0] (.take 8 (.alt 6 [8, 2, 0] (.take 10 (.alt 9 [10, 5, 2, 0] (.alt 11 [8] (.take 12 (.alt 13 [] (.done) (.stop))) (.stop)) (.stop))) (.stop))) (.stop))) (.alt 6 [2, 0] (.alt 4 [5, 2, 0] (.take 10 (.alt 7 [10, 5, 2, 0] (.take 8 (.alt 9 [10, 5, 2, 0] (.alt 11 [8] (.take 12 (.alt 13 [] (.done) (.stop))) (.stop)) (.stop))) (.stop))) (.alt 7 [5, 2, 0] (.take 8 (.alt 4 [8, 5, 2, 0] (.take 10 (.alt 9 [10, 5, 2, 0] (.alt 11 [8] (.take 12 (.alt 13 [] (.done) (.stop))) (.stop)) (.stop))) (.stop))) (.stop))) (.alt 7 [5, 2, 0] (.take 8 (.alt 4 [8, 5, 2, 0] (.alt 6 [8, 2, 0] (.take 10 (.alt 9 [10, 5, 2, 0] (.alt 11 [8] (.take 12 (.alt 13 [] (.done) (.stop))) (.stop)) (.stop))) (.stop)) (.alt 6 [8, 2, 0] (.alt 4 [8, 5, 2, 0] (.take 10 (.alt 9 [10, 5, 2, 0] (.alt 11 [8] (.take 12 (.alt 13 [] (.done) (.stop))) (.stop)) (.stop))) (.stop)) (.stop)))) (.stop)))) (.alt 6 [2, 0] (.alt 1 [5, 2] (.alt 4 [5, 2, 0] (.take 10 (.alt 7 [10, 5, 2, 0] (.take 8 (.alt 9 [10, 5, 2, 0] (.alt 11 [8] (.take 12 (.alt 13 [] (.done) (.stop))) (.stop)) (.stop))) (.stop))) (.alt 7 [5, 2, 0] (.take 8 (.alt 4 [8, 5, 2, 0] (.take 10 (.alt 9 [10, 5, 2, 0] (.alt 11 [8] (.take 12 (.alt 13 [] (.done) (.stop))) (.stop)) (.stop))) (.stop))) (.stop))) (.alt 7 [5, 2, 0] (.take 8 (.alt 1 [8, 5, 2] (.alt 4 [8, 5, 2, 0] (.take 10 (.alt 9 [10, 5, 2, 0] (.alt 11 [8] (.take 12 (.alt 13 [] (.done) (.stop))) (.stop)) (.stop))) (.stop)) (.stop))) (.stop))) (.alt 7 [5, 2, 0] (.take 8 (.alt 1 [8, 5, 2] (.alt 4 [8, 5, 2, 0] (.alt 6 [8, 2, 0] (.take 10 (.alt 9 [10, 5, 2, 0] (.alt 11 [8] (.take 12 (.alt 13 [] (.done) (.stop))) (.stop)) (.stop))) (.stop)) (.alt 6 [8, 2, 0] (.alt 4 [8, 5, 2, 0] (.take 10 (.alt 9 [10, 5, 2, 0] (.alt 11 [8] (.take 12 (.alt 13 [] (.done) (.stop))) (.stop)) (.stop))) (.stop)) (.stop))) (.alt 6 [8, 2, 0] (.alt 1 [8, 5, 2] (.alt 4 [8, 5, 2, 0] (.take 10 (.alt 9 [10, 5, 2, 0] (.alt 11 [8] (.take 12 (.alt 13 [] (.done) (.stop))) (.stop)) (.stop))) (.stop)) (.stop)) (.stop)))) (.stop)))) (.alt 6 [2, 0] (.alt 1 [5, 2] (.alt 3 [5, 0] (.alt 4 [5, 2, 0] (.take 10 (.alt 7 [10, 5, 2, 0] (.take 8 (.alt 9 [10, 5, 2, 0] (.alt 11 [8] (.take 12 (.alt 13 [] (.done) (.stop))) (.stop)) (.stop))) (.stop))) (.alt 7 [5, 2, 0] (.take 8 (.alt 4 [8, 5, 2, 0] (.take 10 (.alt 9 [10, 5, 2, 0] (.alt 11 [8] (.take 12 (.alt 13 [] (.done) (.stop))) (.stop)) (.stop))) (.stop))) (.stop))) (.alt 7 [5, 2, 0] (.take 8 (.alt 3 [8, 5, 0] (.alt 4 [8, 5, 2, 0] (.take 10 (.alt 9 [10, 5, 2, 0] (.alt 11 [8] (.take 12 (.alt 13 [] (.done) (.stop))) (.stop)) (.stop))) (.stop)) (.stop))) (.stop))) (.alt 3 [5, 0] (.alt 1 [5, 2] (.alt 4 [5, 2, 0] (.take 10 (.alt 7 [10, 5, 2, 0] (.take 8 (.alt 9 [10, 5, 2, 0] (.alt 11 [8] (.take 12 (.alt 13 [] (.done) (.stop))) (.stop)) (.stop))) (.stop))) (.alt 7 [5, 2, 0] (.take 8 (.alt 4 [8, 5, 2, 0] (.take 10 (.alt 9 [10, 5, 2, 0] (.alt 11 [8] (.take 12 (.alt 13 [] (.done) (.stop))) (.stop)) (.stop))) (.stop))) (.stop))) (.alt 7 [5, 2, 0] (.take 8 (.alt 1 [8, 5, 2] (.alt 4 [8, 5, 2, 0] (.take 10 (.alt 9 [10, 5, 2, 0] (.alt 11 [8] (.take 12 (.alt 13 [] (.done) (.stop))) (.stop)) (.stop))) (.stop)) (.stop))) (.stop))) (.alt 7 [5, 2, 0] (.take 8 (.alt 1 [8, 5, 2] (.alt 3 [8, 5, 0] (.alt 4 [8, 5, 2, 0] (.take 10 (.alt 9 [10, 5, 2, 0] (.alt 11 [8] (.take 12 (.alt 13 [] (.done) (.stop))) (.stop)) (.stop))) (.stop)) (.stop)) (.alt 3 [8, 5, 0] (.alt 1 [8, 5, 2] (.alt 4 [8, 5, 2, 0] (.take 10 (.alt 9 [10, 5, 2, 0] (.alt 11 [8] (.take 12 (.alt 13 [] (.done) (.stop))) (.stop)) (.stop))) (.stop)) (.stop)) (.stop)))) (.stop)))) (.alt 7 [5, 2, 0] (.take 8 (.alt 1 [8, 5, 2] (.alt 3 [8, 5, 0] (.alt 4 [8, 5, 2, 0] (.alt 6 [8, 2, 0] (.take 10 (.alt 9 [10, 5, 2, 0] (.alt 11 [8] (.take 12 (.alt 13 [] (.done) (.stop))) (.stop)) (.stop))) (.stop)) (.alt 6 [8, 2, 0] (.alt 4 [8, 5, 2, 0] (.take 10 (.alt 9 [10, 5, 2, 0] (.alt 11 [8] (.take 12 (.alt 13 [] (.done) (.stop))) (.stop)) (.stop))) (.stop)) (.stop))) (.alt 6 [8, 2, 0] (.alt 3 [8, 5, 0] (.alt 4 [8, 5, 2, 0] (.take 10 (.alt 9 [10, 5, 2, 0] (.alt 11 [8] (.take 12 (.alt 13 [] (.done) (.stop))) (.stop)) (.stop))) (.stop)) (.stop)) (.stop))) (.alt 3 [8, 5, 0] (.alt 1 [8, 5, 2] (.alt 4 [8, 5, 2, 0] (.alt 6 [8, 2, 0] (.take 10 (.alt 9 [10, 5, 2, 0] (.alt 11 [8] (.take 12 (.alt 13 [] (.done) (.stop))) (.stop)) (.stop))) (.stop)) (.alt 6 [8, 2, 0] (.alt 4 [8, 5, 2, 0] (.take 10 (.alt 9 [10, 5, 2, 0] (.alt 11 [8] (.take 12 (.alt 13 [] (.done) (.stop))) (.stop)) (.stop))) (.stop)) (.stop))) (.alt 6 [8, 2, 0] (.alt 1 [8, 5, 2] (.alt 4 [8, 5, 2, 0] (.take 10 (.alt 9 [10, 5, 2, 0] (.alt 11 [8] (.take 12 (.alt 13 [] (.done) (.stop))) (.stop)) (.stop))) (.stop)) (.stop)) (.stop))) (.alt 6 [8, 2, 0] (.alt 1 [8, 5, 2] (.alt 3 [8, 5, 0] (.alt 4 [8, 5, 2, 0] (.take 10 (.alt 9 [10, 5, 2, 0] (.alt 11 [8] (.take 12 (.alt 13 [] (.done) (.stop))) (.stop)) (.stop))) (.stop)) (.stop)) (.alt 3 [8, 5, 0] (.alt 1 [8, 5, 2] (.alt 4 [8, 5, 2, 0] (.take 10 (.alt 9 [10, 5, 2, 0] (.alt 11 [8] (.take 12 (.alt 13 [] (.done) (.stop))) (.stop)) (.stop))) (.stop)) (.stop)) (.stop))) (.stop))))) (.stop)))))))) Ah (by kernel_rfl) ?_⟩
     simp (maxSteps := 10000000) (disch := omega) only [vm, seval, h.1, hj1, hj2, AJF hj4 cA2, AGA, KZ, Da, D6, Et, Fp, Gd, Gh]
     refine ⟨⟨?_, ?_⟩⟩
     · refine hk (ks ++ [xk13], vs ++ [(ApiValue.mk 1 [] [] [])]) ⟨(nL + 1, []), by simp only [ne_eq]; omega⟩ _ _ _ _ h.2 slr ?_ ?_ ?_ (by omega) <;> first | (simp (maxSteps := 10000000) (disch := omega) only [vm, seval, h.1]; done) | rfl | (simp [twM, AJ, Ev]; done)
     · refine hk (ks ++ [xk13], vs ++ [(ApiValue.mk 1 [] [] [])]) ⟨(j, []), hj⟩ _ _ _ _ h.2 slr ?_ ?_ ?_ (by omega) <;> first | (simp (maxSteps := 10000000) (disch := omega) only [vm, seval, h.1]; done) | rfl | (simp [twM, AJ, Ev]; done)
 · rintro s48 ⟨ks, vs⟩ ⟨⟨j, junk⟩, hj⟩ nL hnL hkl h
   change _ ∧ Lb N kf [] ks vs = _ at h
   rw [Lb] at h
   refine AA (.q (.r []) (.q (.c .z .z) (.q (.q (.r []) .z) (.r [])))) ?_
   replace h := Ad h
   obtain ⟨hk0, h⟩ := h
   simp only [twM, if_neg hk0]
   have hj1 : j ≠ n8 := hj
   have hj2 : n8 ≠ j := fun e => hj e.symm
   have hj3 : j < nL := by
     rcases Nat.lt_or_ge j nL with h9 | h9
     · exact h9
     · have := hkl j h9
       simp [twM, hk0, Ap] at this
   subst hX
   simp only [PI] at h
   simp (maxSteps := 10000000) (disch := omega) only [vm, seval, h.1]
   refine ⟨AA (.q (.r []) (.q (.q (.r []) (.c (.q (.r []) .z) .z)) (.q .z (.q (.r []) (.q (.q (.r []) .z) .z))))) ?_⟩
   replace h := AB h
   obtain ⟨y14, h⟩ := h
   simp (maxSteps := 10000000) (disch := omega) only [vm, seval, h.1, hj1, hj2, D6, Et, Fp, Gd, Gh]
   refine ⟨ACall.lend (args' := [.agg [.int .i64 7, .str [], .slice 1 (ks.map AVal.str) false, .slice 4 (vs.map AJ) false]]) (.cons (.agg (.cons (.same _) (.cons (.same _) (.cons (.box (xs := ks.map AVal.str) (junk := junk) (by rw [Vs]; simp) (by simp) (fun x hx => by simp only [List.mem_map] at hx; obtain ⟨k, _, rfl⟩ := hx; rfl)) (.cons (.same _) .nil))))) .nil) (by simp [stripL, AVal.strip]) (Lc h.1.1 (by first | (simp (maxSteps := 10000000) (disch := omega) only [vm, seval, h.1]; done) | rfl) fun n15 hn15 => ⟨⟨rfl, fun n16 hn16 => ?_⟩⟩)⟩
   refine Gl.go ?_
   replace h := AC h
   rcases h with h | h
   · obtain ⟨H, h⟩ := h
     cases h
     simp (maxSteps := 10000000) (disch := omega) only [vm, seval, H, hj1, hj2]
     refine ⟨(hR _ _ _ _ _ _ (by simp (maxSteps := 10000000) (disch := omega) only [vm, seval, H]; rfl) (.cons _ (.cons _ slr)) ?_ (by omega) ?_).1⟩ <;> first | (simp (maxSteps := 10000000) (disch := omega) only [vm, seval, H]; done) | rfl
   replace h := AC h
   rcases h with h | h
   · obtain ⟨H, h⟩ := h
     cases h
     simp (maxSteps := 10000000) (disch := omega) only [vm, seval, H, hj1, hj2]
     refine ⟨(hR _ _ _ _ _ _ (by simp (maxSteps := 10000000) (disch := omega) only [vm, seval, H]; rfl) (.cons _ (.cons _ slr)) ?_ (by omega) ?_).1⟩ <;> first | (simp (maxSteps := 10000000) (disch := omega) only [vm, seval, H]; done) | rfl
   simp only [Sl] at h
   replace h := AB h
   obtain ⟨k, h⟩ := h
   have hxi := h.1.1
   replace h := Ad h
   obtain ⟨hy, h⟩ := h
   replace h := Ad h
   obtain ⟨hfs, h⟩ := h
   obtain ⟨hx1, hx2⟩ := UQ hxi
   simp (maxSteps := 10000000) (disch := omega) only [vm, seval, h.1, hj1, hj2]
   refine ⟨Ar [] (.take 0 (.take 1 (.take 2 (.take 3 (.take 4 (.take 5 (.take 6 (.take 7 (.take 8 (.alt 9 [] (.done) (.stop))))))))))) Ah (by kernel_rfl) ?_⟩
   have hld := AFZ (junk := junk) hxi
   have hyn : ((wr .i64 a2).tmod (a0.length : Int)).toNat < ks.length := by omega
   have hle : ((wr .i64 a2).tmod (a0.length : Int)).toNat + 1 ≤ ks.length + junk.length := by omega
   have hse := AIr (junk := junk) (k := k) hyn
   have hlen : (ks.set ((wr .i64 a2).tmod (a0.length : Int)).toNat k).length = ks.length := List.length_set
   simp (maxSteps := 10000000) (disch := omega) only [vm, seval, h.1, hj1, hj2, Yk hx1, Yk hy, hld, hle, hse, D6 OP, Et, Fp, Gd, Gh]
   generalize ks.set ((wr .i64 a2).tmod (a0.length : Int)).toNat k = qs at *
   rw [← hlen]
   refine ⟨EF (σ := List UInt8) (γ := Unit) qs (by rw [hlen]; exact hfs) (fun xs i s => Gi N (ND N a0 y14.1) xs i s) (fun i s g => [.int .i64 i, .str s]) (fun i s g => (j, qs.map AVal.str ++ junk) :: (n8, [.int .i64 7, .str [], .gsl 1 j qs.length, .slice 4 (vs.map AJ) true]) :: m) [15, 16, 17, 18, 90, 91, 92, 93, 94, 95, 96, 97, 98, 99, 100, 101, 102, 103, 104, 105, 106, 107, 108] [89, 14] [] () h (by first | (simp (maxSteps := 10000000) (disch := omega) only [vm, seval, h.1]; done) | rfl) (by first | (simp (maxSteps := 10000000) (disch := omega) only [vm, seval, h.1]; done) | rfl) ?_ ?_⟩ <;> clear h
   rotate_left
   · rintro x xs i s _ nK hnK hkl2 h Jk2 hk2
     have hxi := h.1.2.1
     change _ ∧ Gi N (ND N a0 y14.1) (x :: xs) i s = _ at h
     rw [Gi] at h
     refine AA (.q (.r []) (.q (.c .z .z) (.q (.q (.r []) (.q (.r []) (.q (.q (.r []) (.c (.r []) .z)) (.r [])))) (.r [])))) ?_
     replace h := AB h
     obtain ⟨q, h⟩ := h
     have hld2 := AFZ (junk := junk) hxi
     have hld3 := AJt (junk := junk) hxi
     simp (maxSteps := 10000000) (disch := omega) only [vm, seval, h.1, hj1, hj2, Yk (UQ hxi).1, hld2, hld3, D6, Et, Fp, Gd, Gh]
     refine ⟨Lc h.1.1 (by first | (simp (maxSteps := 10000000) (disch := omega) only [vm, seval, h.1]; done) | rfl) fun n17 hn17 => ?_⟩
     replace h := AC h
     rcases h with h | h
     · replace h := Ad h
       obtain ⟨c1, h⟩ := h
       try simp only [liE, seval] at c1
       replace h := Ab c1 h
       replace h := Ad h
       obtain ⟨c2, h⟩ := h
       try simp only [liE, seval] at c2
       replace h := Ab c2 h
       replace h := Ad h
       obtain ⟨c3, h⟩ := h
       try simp only [liE, seval] at c3
       replace h := Ab c3 h
       simp (maxSteps := 10000000) (disch := omega) only [vm, seval, h.1]
       refine ⟨hk2 ((s ++ ([44] : List UInt8)) ++ (q.1 ++ ([58, 110, 117, 108, 108] : List UInt8))) () _ _ _ _ h.2 slr ?_ ?_ ?_ (by omega)⟩ <;> first | (simp (maxSteps := 10000000) (disch := omega) only [vm, seval, h.1]; done) | rfl
     · replace h := Ad h
       obtain ⟨c2, h⟩ := h
       try simp only [liE, seval] at c2
       replace h := Ab c2 h
       replace h := Ad h
       obtain ⟨c3, h⟩ := h
       try simp only [liE, seval] at c3
       replace h := Ab c3 h
       simp (maxSteps := 10000000) (disch := omega) only [vm, seval, h.1]
       refine ⟨hk2 (s ++ (q.1 ++ ([58, 110, 117, 108, 108] : List UInt8))) () _ _ _ _ h.2 slr ?_ ?_ ?_ (by omega)⟩ <;> first | (simp (maxSteps := 10000000) (disch := omega) only [vm, seval, h.1]; done) | rfl
   · rintro i s _ nK hnK hkl2 h
     change _ ∧ Gi N (ND N a0 y14.1) [] i s = _ at h
     rw [Gi] at h
     refine AA (.q (.r []) (.q (.c .z .z) (.q (.q (.r []) (.q (.r []) (.q (.q (.r []) (.c (.r []) .z)) (.r [])))) (.r [])))) ?_
     simp (maxSteps := 10000000) (disch := omega) only [vm, seval, h.1]
     refine ⟨AA (.q (.r []) (.q (.r []) (.q (.r []) .z))) ?_⟩
     simp only [ND] at h
     replace h := AB h
     obtain ⟨a, h⟩ := h
     simp (maxSteps := 10000000) (disch := omega) only [vm, seval, h.1]
     refine ⟨F9 h.1.1 (by first | (simp (maxSteps := 10000000) (disch := omega) only [vm, seval, h.1]; done) | rfl) fun n18 hn18 => ?_⟩
     replace h := Ad h
     obtain ⟨c2, h⟩ := h
     try simp only [liE, seval] at c2
     replace h := Ab c2 h
     replace h := Ad h
     obtain ⟨c3, h⟩ := h
     try simp only [liE, seval] at c3
     replace h := Ab c3 h
     replace h := AB h
     obtain ⟨b, h⟩ := h
     simp (maxSteps := 10000000) (disch := omega) only [vm, seval, h.1]
     refine ⟨F9 h.1.1 (by first | (simp (maxSteps := 10000000) (disch := omega) only [vm, seval, h.1]; done) | rfl) fun n19 hn19 => ?_⟩
     replace h := AC h
     rcases h with h | h
     rotate_left
     · obtain ⟨H, h⟩ := h
       cases h
       simp (maxSteps := 10000000) (disch := omega) only [vm, seval, H, hj1, hj2]
       refine ⟨(hR _ _ _ _ _ _ (by simp (maxSteps := 10000000) (disch := omega) only [vm, seval, H]; rfl) (.cons _ (.cons _ (.cons _ (.cons _ slr)))) ?_ (by omega) ?_).1⟩ <;> first | (simp (maxSteps := 10000000) (disch := omega) only [vm, seval, H]; done) | rfl
     replace h := AC h
     rcases h with h | h
     rotate_left
     · obtain ⟨H, h⟩ := h
       cases h
       simp (maxSteps := 10000000) (disch := omega) only [vm, seval, H, hj1, hj2]
       refine ⟨(hR _ _ _ _ _ _ (by simp (maxSteps := 10000000) (disch := omega) only [vm, seval, H]; rfl) (.cons _ (.cons _ (.cons _ (.cons _ slr)))) ?_ (by omega) ?_).1⟩ <;> first | (simp (maxSteps := 10000000) (disch := omega) only [vm, seval, H]; done) | rfl
     replace h := AC h
     rcases h with h | h
     rotate_left
     · obtain ⟨H, h⟩ := h
       cases h
       simp (maxSteps := 10000000) (disch := omega) only [vm, seval, H, hj1, hj2]
       refine ⟨(hR _ _ _ _ _ _ (by simp (maxSteps := 10000000) (disch := omega) only [vm, seval, H]; rfl) (.cons _ (.cons _ (.cons _ (.cons _ slr)))) ?_ (by omega) ?_).1⟩ <;> first | (simp (maxSteps := 10000000) (disch := omega) only [vm, seval, H]; done) | rfl
     obtain ⟨H, h⟩ := h
     cases h
     simp (maxSteps := 10000000) (disch := omega) only [vm, seval, H, hj1, hj2]
     refine ⟨(hR _ _ _ _ _ _ (by simp (maxSteps := 10000000) (disch := omega) only [vm, seval, H]; rfl) (.cons _ (.cons _ (.cons _ (.cons _ slr)))) ?_ (by omega) ?_).1⟩ <;> first | (simp (maxSteps := 10000000) (disch := omega) only [vm, seval, H]; done) | rfl
end Go.Proofs.YtbmilkoebhmnnaaDoor
