import Derived.Test.YtbmilkoebhmnnaaDoorVM2
import GoSem.Claim
import Derived.Test.YtbmilkoebhmnnaaDoorDefs
import Derived.KernelRfl
set_option linter.unusedVariables false
set_option linter.unusedSimpArgs false
namespace Go.VM
theorem FN {n : Nat} (h : n ≤ 9223372036854775807) : wr .i64 (n : Int) = n := by
  simp [wr, IntKind.wrap, IntKind.bits, IntKind.signed]; omega
theorem A8 {n : Int} (h : -9223372036854775808 ≤ n ∧ n ≤ 9223372036854775807) : wr .i64 n = n := by
  simp [wr, IntKind.wrap, IntKind.bits, IntKind.signed]; omega
theorem K3 {α : Type} (l : List α) (n : Nat) : idx l (n : Int) = l[n]? := by simp [idx]
theorem TK {α : Type} (pre suf : List α) (x : α) : idx (pre ++ x :: suf) (pre.length : Int) = some x := by simp [idx]
theorem AJp {α : Type} {l pre suf : List α} {x : α} (h : l = pre ++ x :: suf) : idx l (pre.length : Int) = some x := by rw [h]; exact TK ..
theorem AKX {α : Type} {l pre suf : List α} {x : α} (h : l = pre ++ x :: suf) : decide ((pre.length : Int) < (l.length : Int)) = true := by
  subst h; simp only [decide_eq_true_eq, List.length_append, List.length_cons]; omega
theorem Ms {α : Type} (pre : List α) (x : α) : (pre.length : Int) + 1 = ((pre ++ [x]).length : Int) := by simp
theorem Df {α : Type} (l : List α) (a b : Nat) (h1 : a ≤ b) (h2 : b ≤ l.length) : sub l (a : Int) (b : Int) = some ((l.drop a).take (b - a)) := by
  have h1' : (a : Int) ≤ b := by omega
  have h2' : (b : Int) ≤ l.length := by omega
  simp [sub, h1', h2']
theorem AL {α : Type} {c : Prop} [Decidable c] {x : Option α} (h : c) : grd c x = x := by simp [grd, h]
theorem JC {α : Type} {n : Nat} {x : Option α} (h : n ≤ 4611686018427387904) : grd (Ac n) x = x := AL h
theorem AO {α β : Type} (k : α → Option β) (body : (α → Option β) → Option β) : AR k body = body k := rfl
theorem wf_u8 {n : Int} (h : (Lit.int .u8 n).wf = true) : 0 ≤ n ∧ n ≤ 255 := by
  simp only [Lit.wf, Bool.and_eq_true, decide_eq_true_eq] at h
  have e1 : IntKind.u8.min = 0 := by decide
  have e2 : IntKind.u8.max = 255 := by decide
  rw [e1, e2] at h; exact h
end Go.VM
namespace Go.VM
theorem H7 (c : UInt8) : AP c = (c.toNat : Int) := rfl
theorem IV (c : UInt8) : EY (AP c) = c := by simp [EY, AP]
theorem AKR {a b : UInt8} : a = b ↔ a.toNat = b.toNat := ⟨fun h => by rw [h], UInt8.toNat_inj.1⟩
theorem toNat_ofNat {n : Nat} (h : n < 256) : (UInt8.ofNat n).toNat = n := by simp; omega
theorem FB {P : Nat → Prop} [∀ n, Decidable (P n)] (h : (List.range 256).all (fun n => decide (P n)) = true) (c : UInt8) : P c.toNat := by
  have := List.all_eq_true.1 h c.toNat (List.mem_range.2 c.toNat_lt)
  simpa using this
theorem AIC {n : Int} (h : 0 ≤ n ∧ n < 256) : wr .u8 n = n := by
  simp [wr, IntKind.wrap, IntKind.bits, IntKind.signed]; omega
theorem H9 {n : Int} (h : 0 ≤ n ∧ n < 18446744073709551616) : wr .u64 n = n := by
  simp [wr, IntKind.wrap, IntKind.bits, IntKind.signed]; omega
theorem PO {x : Nat} (h : x < 2 ^ 63) : (BitVec.ofInt 64 (x : Int)).toNat = x := by
  rw [BitVec.toNat_ofInt]; simp; omega
theorem AJ3 {x y : Nat} (hx : x < 2 ^ 62) (hy : y < 2 ^ 62) : Ee .i64 x y = ((x ||| y : Nat) : Int) := by
  have h : x ||| y < 2 ^ 62 := Nat.or_lt_two_pow hx hy
  show IntKind.i64.wrap (((BitVec.ofInt 64 (x : Int) ||| BitVec.ofInt 64 (y : Int) : BitVec 64).toNat : Nat) : Int) = _
  rw [BitVec.toNat_or, PO (by omega), PO (by omega)]
  simp [IntKind.wrap, IntKind.bits, IntKind.signed]; omega
theorem AHP {x y : Nat} (hx : x < 2 ^ 62) (hy : y < 2 ^ 62) : DC .i64 x y = ((x &&& y : Nat) : Int) := by
  have h : x &&& y < 2 ^ 62 := Nat.and_lt_two_pow _ hy
  show IntKind.i64.wrap (((BitVec.ofInt 64 (x : Int) &&& BitVec.ofInt 64 (y : Int) : BitVec 64).toNat : Nat) : Int) = _
  rw [BitVec.toNat_and, PO (by omega), PO (by omega)]
  simp [IntKind.wrap, IntKind.bits, IntKind.signed]; omega
theorem AJn {q y : Nat} (k : Nat) (h : y < 2 ^ k) : (q * 2 ^ k) ||| y = q * 2 ^ k + y := by
  rw [← Nat.shiftLeft_eq, Nat.shiftLeft_add_eq_or_of_lt h]
theorem Mt {q y : Nat} (k : Nat) (h : y < 2 ^ k) (hx : q * 2 ^ k < 2 ^ 62) (hy : y < 2 ^ 62) : Ee .i64 ((q * 2 ^ k : Nat) : Int) (y : Int) = ((q * 2 ^ k + y : Nat) : Int) := by
  rw [AJ3 hx hy, AJn k h]
theorem Mq {x : Nat} (k : Nat) (hx : x < 2 ^ 62) (hk : 2 ^ k ≤ 2 ^ 61) : DC .i64 (x : Int) ((2 ^ k - 1 : Nat) : Int) = ((x % 2 ^ k : Nat) : Int) := by
  have h1 : 1 ≤ 2 ^ k := Nat.one_le_two_pow
  rw [AHP hx (by omega), Nat.and_two_pow_sub_one_eq_mod]
theorem KF {x : Nat} (hx : x < 2 ^ 62) : DC .i64 (x : Int) 63 = ((x % 64 : Nat) : Int) := Mq 6 hx (by decide)
theorem UY {x k : Nat} (h : k ≤ 64) : Lh .i64 (x : Int) (k : Int) = ((x / 2 ^ k : Nat) : Int) := by
  simp only [Lh, IntKind.bits, Int.toNat_natCast]
  rw [Nat.min_eq_left h, Int.fdiv_eq_ediv_of_nonneg]
  · simp
  · exact Int.le_of_lt (Int.pow_pos (by decide))
theorem AG7 {x k : Nat} (h : k ≤ 64) (hx : x * 2 ^ k < 2 ^ 63) : Lp .i64 (x : Int) (k : Int) = ((x * 2 ^ k : Nat) : Int) := by
  simp only [Lp, IntKind.bits, Int.toNat_natCast]
  rw [Nat.min_eq_left h]
  have : (x : Int) * 2 ^ k = ((x * 2 ^ k : Nat) : Int) := by simp
  rw [this]
  exact FN (n := x * 2 ^ k) (by omega)
theorem AKF {x : Nat} : Lh .i64 (x : Int) 6 = ((x / 64 : Nat) : Int) := UY (k := 6) (by decide)
theorem AKW {x : Nat} : Lh .i64 (x : Int) 12 = ((x / 4096 : Nat) : Int) := UY (k := 12) (by decide)
theorem AKc {x : Nat} : Lh .i64 (x : Int) 18 = ((x / 262144 : Nat) : Int) := UY (k := 18) (by decide)
theorem AKt {x : Nat} (h : x < 2 ^ 50) : Lp .i64 (x : Int) 6 = ((x * 64 : Nat) : Int) := AG7 (k := 6) (by decide) (by omega)
theorem AIE {x y : Nat} (h : x < 2 ^ 50) (hy : y < 64) : Ee .i64 (Lp .i64 (x : Int) 6) (y : Int) = ((x * 64 + y : Nat) : Int) := by
  rw [AKt h]; exact Mt 6 hy (by omega) (by omega)
theorem AJV {y : Nat} (hy : y < 64) : Ee .i64 192 (y : Int) = ((192 + y : Nat) : Int) := Mt (q := 3) 6 hy (by decide) (by omega)
theorem NN {y : Nat} (hy : y < 64) : Ee .i64 128 (y : Int) = ((128 + y : Nat) : Int) := Mt (q := 2) 6 hy (by decide) (by omega)
theorem AJA {y : Nat} (hy : y < 32) : Ee .i64 224 (y : Int) = ((224 + y : Nat) : Int) := Mt (q := 7) 5 hy (by decide) (by omega)
theorem AJu {y : Nat} (hy : y < 16) : Ee .i64 240 (y : Int) = ((240 + y : Nat) : Int) := Mt (q := 15) 4 hy (by decide) (by omega)
theorem IB {n : Nat} : wr .u8 (n : Int) = ((n % 256 : Nat) : Int) := by
  simp [wr, IntKind.wrap, IntKind.bits, IntKind.signed]
theorem XM {n : Nat} : EY (n : Int) = UInt8.ofNat n := by simp [EY]
theorem EU : (List.range 256).all (fun n => decide (
    Ff .u8 (n : Int) 127 = ((n / 128 * 128 : Nat) : Int) ∧ Ff .u8 (n : Int) 31 = ((n / 32 * 32 : Nat) : Int) ∧ Ff .u8 (n : Int) 15 = ((n / 16 * 16 : Nat) : Int) ∧ Ff .u8 (n : Int) 7 = ((n / 8 * 8 : Nat) : Int) ∧
    DC .u8 (n : Int) 127 = ((n % 128 : Nat) : Int) ∧ DC .u8 (n : Int) 31 = ((n % 32 : Nat) : Int) ∧ DC .u8 (n : Int) 15 = ((n % 16 : Nat) : Int) ∧ DC .u8 (n : Int) 7 = ((n % 8 : Nat) : Int) ∧
    DC .u8 (n : Int) 192 = ((n / 64 * 64 : Nat) : Int) ∧ DC .u8 (n : Int) 63 = ((n % 64 : Nat) : Int))) = true := by decide +kernel
theorem AKd (c : UInt8) : Ff .u8 (AP c) 127 = ((c.toNat / 128 * 128 : Nat) : Int) := (FB EU c).1
theorem AK5 (c : UInt8) : Ff .u8 (AP c) 31 = ((c.toNat / 32 * 32 : Nat) : Int) := (FB EU c).2.1
theorem AK0 (c : UInt8) : Ff .u8 (AP c) 15 = ((c.toNat / 16 * 16 : Nat) : Int) := (FB EU c).2.2.1
theorem bn7 (c : UInt8) : Ff .u8 (AP c) 7 = ((c.toNat / 8 * 8 : Nat) : Int) := (FB EU c).2.2.2.1
theorem ALH (c : UInt8) : DC .u8 (AP c) 127 = ((c.toNat % 128 : Nat) : Int) := (FB EU c).2.2.2.2.1
theorem b31 (c : UInt8) : DC .u8 (AP c) 31 = ((c.toNat % 32 : Nat) : Int) := (FB EU c).2.2.2.2.2.1
theorem b15 (c : UInt8) : DC .u8 (AP c) 15 = ((c.toNat % 16 : Nat) : Int) := (FB EU c).2.2.2.2.2.2.1
theorem b7 (c : UInt8) : DC .u8 (AP c) 7 = ((c.toNat % 8 : Nat) : Int) := (FB EU c).2.2.2.2.2.2.2.1
theorem AKu (c : UInt8) : DC .u8 (AP c) 192 = ((c.toNat / 64 * 64 : Nat) : Int) := (FB EU c).2.2.2.2.2.2.2.2.1
theorem b63 (c : UInt8) : DC .u8 (AP c) 63 = ((c.toNat % 64 : Nat) : Int) := (FB EU c).2.2.2.2.2.2.2.2.2
end Go.VM
namespace Go.VM
section
variable {N : Nat}
def Bl (r : Int) : Bool := decide (0 ≤ r) && (decide (r ≤ 1114111) && (decide (r < 55296) || decide (r > 57343)))
theorem Rp {r : Int} (h : Bl r = true) : 0 ≤ r ∧ r ≤ 1114111 ∧ (r < 55296 ∨ r > 57343) := by
  simpa [Bl] using h
theorem ABZ (r : Int) : Hq N r = some (Bl r) := by
  unfold Hq Bl
  by_cases h1 : r ≥ 0 <;> by_cases h2 : r ≤ 1114111 <;> by_cases h3 : r < 55296 <;> simp [h1, h2, h3]
theorem R9 (r : Int) : D7 N r = some (Bl r) := by
  unfold D7 Bl
  by_cases h1 : r ≥ 0 <;> by_cases h2 : r ≤ 1114111 <;> by_cases h3 : r < 55296 <;> simp [h1, h2, h3]
def KI (r : Nat) : List UInt8 :=
  if r < 128 then [.ofNat r]
  else if r < 2048 then [.ofNat (192 + r / 64), .ofNat (128 + r % 64)]
  else if r < 65536 then [.ofNat (224 + r / 4096), .ofNat (128 + r / 64 % 64), .ofNat (128 + r % 64)]
  else [.ofNat (240 + r / 262144), .ofNat (128 + r / 4096 % 64), .ofNat (128 + r / 64 % 64), .ofNat (128 + r % 64)]
def encR (r : Int) : List UInt8 × Int := if Bl r = true then (KI r.toNat, 0) else ([], 4)
theorem AEA (r : Int) : Gc N r = some (encR r) := by
  unfold Gc encR
  rw [ABZ, Option.bind_some]
  cases hp : Bl r with
  | false => rfl
  | true =>
    obtain ⟨h0, h1, _⟩ := Rp hp
    obtain ⟨n, rfl⟩ : ∃ n : Nat, r = n := ⟨r.toNat, by omega⟩
    simp only [if_true, letL, Int.toNat_natCast, KI, List.map_cons, List.map_nil, AKF, AKW, AKc]
    by_cases c1 : n < 128
    · have c1' : (n : Int) < 128 := by omega
      simp only [c1, c1', decide_true, if_true, IB, XM, Nat.mod_eq_of_lt (show n < 256 by omega)]
    · have c1' : ¬ (n : Int) < 128 := by omega
      simp only [c1, c1', decide_false, if_false, Bool.false_eq_true]
      by_cases c2 : n < 2048
      · have c2' : (n : Int) < 2048 := by omega
        simp only [c2, c2', decide_true, if_true]
        rw [AJV (by omega), KF (by omega), NN (by omega)]
        simp only [IB, XM, Nat.mod_eq_of_lt (show 192 + n / 64 < 256 by omega), Nat.mod_eq_of_lt (show 128 + n % 64 < 256 by omega)]
      · have c2' : ¬ (n : Int) < 2048 := by omega
        simp only [c2, c2', decide_false, if_false, Bool.false_eq_true]
        by_cases c3 : n < 65536
        · have c3' : (n : Int) < 65536 := by omega
          simp only [c3, c3', decide_true, if_true]
          rw [AJA (by omega), KF (by omega), KF (by omega), NN (by omega), NN (by omega)]
          simp only [IB, XM, Nat.mod_eq_of_lt (show 224 + n / 4096 < 256 by omega), Nat.mod_eq_of_lt (show 128 + n % 64 < 256 by omega), Nat.mod_eq_of_lt (show 128 + n / 64 % 64 < 256 by omega)]
        · have c3' : ¬ (n : Int) < 65536 := by omega
          simp only [c3, c3', decide_false, if_false, Bool.false_eq_true]
          rw [AJu (by omega), KF (by omega), KF (by omega), KF (by omega), NN (by omega), NN (by omega), NN (by omega)]
          simp only [IB, XM, Nat.mod_eq_of_lt (show 240 + n / 262144 < 256 by omega), Nat.mod_eq_of_lt (show 128 + n % 64 < 256 by omega), Nat.mod_eq_of_lt (show 128 + n / 64 % 64 < 256 by omega), Nat.mod_eq_of_lt (show 128 + n / 4096 % 64 < 256 by omega)]
theorem K7 {n j k r : Nat} {bn : List Int} {k14 : Int × List Int → Option (List UInt8 × Int)} (hj : j < n) (hn : n ≤ 3) (hl : bn.length = n + 1) (hr : r < 2 ^ 62) :
    Ai N (n : Int) k14 (k + 1) (r : Int) ((j + 1 : Nat) : Int) bn = Ai N (n : Int) k14 k ((r / 64 : Nat) : Int) (j : Int) (bn.set (j + 1) ((128 + r % 64 : Nat) : Int)) := by
  rw [Ai]
  have h1 : ((j + 1 : Nat) : Int) > 0 := by omega
  have h2 : wr .i64 ((n : Int) + 1) = ((n + 1 : Nat) : Int) := by rw [A8 (by omega)]; simp
  have h3 : wr .i64 (((j + 1 : Nat) : Int) - 1) = (j : Int) := by rw [A8 (by omega)]; omega
  have h4 : Ee .u8 128 (((r % 64 : Nat) : Int)) = ((128 + r % 64 : Nat) : Int) := by
    have : r % 64 < 64 := Nat.mod_lt _ (by decide)
    have f : (List.range 64).all (fun y => decide (Ee .u8 128 (y : Int) = ((128 + y : Nat) : Int))) = true := by decide +kernel
    have := List.all_eq_true.1 f (r % 64) (List.mem_range.2 this)
    simpa using this
  simp only [h1, decide_true, if_true]
  rw [h2, h3, AL (by simp only [Int.toNat_natCast]; omega), AL (by rw [hl]; simp only [Int.toNat_natCast]; omega), KF (by omega), AKF, IB, Nat.mod_eq_of_lt (show r % 64 < 256 by omega), h4]
  simp only [Int.toNat_natCast]
theorem O9 {n k : Nat} {r : Int} {bn : List Int} {k14 : Int × List Int → Option (List UInt8 × Int)} : Ai N (n : Int) k14 (k + 1) r ((0 : Nat) : Int) bn = k14 (r, bn) := by
  rw [Ai]; rfl
theorem AKY {k : Nat} {r : Nat} {k4 : Int → Option (List UInt8 × Int)} : BV N (r : Int) k4 (k + 4) 0 = k4 (if r < 128 then 0 else if r < 2048 then 1 else if r < 65536 then 2 else 3) := by
  rw [BV, AO]
  rw [show idx Ak (wr .i64 (0 + 1)) = some (Utf8textForm.mk 192 31 128) from rfl, Option.bind_some]
  simp only [show decide ((0 : Int) < 3) = true from rfl, if_true]
  by_cases c1 : r < 128
  · simp [c1]; omega
  have c1' : (r : Int) ≥ 128 := by omega
  simp only [c1, c1', decide_true, if_true, if_false]
  rw [show wr .i64 (0 + 1) = 1 from rfl, BV, AO]
  rw [show idx Ak (wr .i64 (1 + 1)) = some (Utf8textForm.mk 224 15 2048) from rfl, Option.bind_some]
  simp only [show decide ((1 : Int) < 3) = true from rfl, if_true]
  by_cases c2 : r < 2048
  · simp [c2]; omega
  have c2' : (r : Int) ≥ 2048 := by omega
  simp only [c2, c2', decide_true, if_true, if_false]
  rw [show wr .i64 (1 + 1) = 2 from rfl, BV, AO]
  rw [show idx Ak (wr .i64 (2 + 1)) = some (Utf8textForm.mk 240 7 65536) from rfl, Option.bind_some]
  simp only [show decide ((2 : Int) < 3) = true from rfl, if_true]
  by_cases c3 : r < 65536
  · simp [c3]; omega
  have c3' : (r : Int) ≥ 65536 := by omega
  simp only [c3, c3', decide_true, if_true, if_false]
  rw [show wr .i64 (2 + 1) = 3 from rfl, BV, AO]
  simp only [show decide ((3 : Int) < 3) = false from rfl, if_false, Bool.false_eq_true]
theorem Ih (hN : 4 ≤ N) (r : Int) : Ez N r = some (encR r) := by
  obtain ⟨M, rfl⟩ : ∃ M, N = M + 4 := ⟨N - 4, by omega⟩
  unfold Ez encR
  rw [R9, Option.bind_some]
  cases hp : Bl r with
  | false => rfl
  | true =>
    obtain ⟨h0, h1, _⟩ := Rp hp
    obtain ⟨n, rfl⟩ : ∃ n : Nat, r = n := ⟨r.toNat, by omega⟩
    have f0 : ∀ y : Nat, y < 128 → Ee .u8 0 (y : Int) = (y : Int) := by
      have f : (List.range 128).all (fun y => decide (Ee .u8 0 (y : Int) = (y : Int))) = true := by decide +kernel
      intro y hy
      simpa using List.all_eq_true.1 f y (List.mem_range.2 hy)
    have f1 : ∀ y : Nat, y < 32 → Ee .u8 192 (y : Int) = ((192 + y : Nat) : Int) := by
      have f : (List.range 32).all (fun y => decide (Ee .u8 192 (y : Int) = ((192 + y : Nat) : Int))) = true := by decide +kernel
      intro y hy
      simpa using List.all_eq_true.1 f y (List.mem_range.2 hy)
    have f2 : ∀ y : Nat, y < 16 → Ee .u8 224 (y : Int) = ((224 + y : Nat) : Int) := by
      have f : (List.range 16).all (fun y => decide (Ee .u8 224 (y : Int) = ((224 + y : Nat) : Int))) = true := by decide +kernel
      intro y hy
      simpa using List.all_eq_true.1 f y (List.mem_range.2 hy)
    have f3 : ∀ y : Nat, y < 8 → Ee .u8 240 (y : Int) = ((240 + y : Nat) : Int) := by
      have f : (List.range 8).all (fun y => decide (Ee .u8 240 (y : Int) = ((240 + y : Nat) : Int))) = true := by decide +kernel
      intro y hy
      simpa using List.all_eq_true.1 f y (List.mem_range.2 hy)
    simp only [if_true, AO, AKY, Int.toNat_natCast, KI]
    by_cases c1 : n < 128
    · simp only [c1, if_true]
      rw [show Ai (M + 4) 0 = Ai (M + 4) ((0 : Nat) : Int) from rfl, show (0 : Int) = ((0 : Nat) : Int) from rfl, O9]
      simp only [IB]
      rw [show idx Ak ((0 : Nat) : Int) = some (Utf8textForm.mk 0 127 0) from rfl, Option.bind_some, Nat.mod_eq_of_lt (show n < 256 by omega)]
      rw [f0 n c1]
      rw [show wr .i64 (((0 : Nat) : Int) + 1) = 1 from rfl]
      rw [AL (by decide), AL (by decide), AL (by decide), AL (by decide)]
      simp [XM]
    · simp only [c1, if_false]
      by_cases c2 : n < 2048
      · simp only [c2, if_true]
        rw [show Ai (M + 4) 1 = Ai (M + 4) ((1 : Nat) : Int) from rfl, show (1 : Int) = ((0 + 1 : Nat) : Int) from rfl]
        rw [K7 (by omega) (by omega) (by rfl) (by omega), O9]
        simp only [IB]
        rw [show idx Ak ((0 + 1 : Nat) : Int) = some (Utf8textForm.mk 192 31 128) from rfl, Option.bind_some, Nat.mod_eq_of_lt (show n / 64 < 256 by omega), f1 _ (by omega)]
        rw [show wr .i64 (((0 + 1 : Nat) : Int) + ((0 + 1 : Nat) : Int)) = 2 from rfl]
        rw [AL (by decide), AL (by decide), AL (by simp), AL (by simp [Ac])]
        rfl
      · simp only [c2, if_false]
        by_cases c3 : n < 65536
        · simp only [c3, if_true]
          rw [show Ai (M + 4) 2 = Ai (M + 4) ((2 : Nat) : Int) from rfl, show (2 : Int) = ((1 + 1 : Nat) : Int) from rfl]
          rw [K7 (by omega) (by omega) (by rfl) (by omega), show ((1 : Nat) : Int) = ((0 + 1 : Nat) : Int) from rfl, K7 (by omega) (by omega) (by rfl) (by omega), O9]
          simp only [IB]
          rw [show idx Ak ((1 + 1 : Nat) : Int) = some (Utf8textForm.mk 224 15 2048) from rfl, Option.bind_some, Nat.mod_eq_of_lt (show n / 64 / 64 < 256 by omega), f2 _ (by omega)]
          rw [show wr .i64 (((1 + 1 : Nat) : Int) + 1) = 3 from rfl]
          rw [AL (by decide), AL (by decide), AL (by simp), AL (by simp [Ac])]
          simp only [Nat.div_div_eq_div_mul]
          rfl
        · simp only [c3, if_false]
          rw [show Ai (M + 4) 3 = Ai (M + 4) ((3 : Nat) : Int) from rfl, show (3 : Int) = ((2 + 1 : Nat) : Int) from rfl]
          rw [K7 (by omega) (by omega) (by rfl) (by omega), show ((2 : Nat) : Int) = ((1 + 1 : Nat) : Int) from rfl, K7 (by omega) (by omega) (by rfl) (by omega), show ((1 : Nat) : Int) = ((0 + 1 : Nat) : Int) from rfl, K7 (by omega) (by omega) (by rfl) (by omega), O9]
          simp only [IB]
          rw [show idx Ak ((2 + 1 : Nat) : Int) = some (Utf8textForm.mk 240 7 65536) from rfl, Option.bind_some, Nat.mod_eq_of_lt (show n / 64 / 64 / 64 < 256 by omega), f3 _ (by omega)]
          rw [show wr .i64 (((2 + 1 : Nat) : Int) + 1) = 4 from rfl]
          rw [AL (by decide), AL (by decide), AL (by simp), AL (by simp [Ac])]
          simp only [Nat.div_div_eq_div_mul]
          rfl
end
end Go.VM
namespace Go.VM
def Ok {α : Type} (x : Option α) (P : α → Prop) : Prop := ∃ a, x = some a ∧ P a
section
variable {α β : Type} {P : α → Prop} {Q : β → Prop}
theorem Ok.ret {a : α} (h : P a) : Ok (some a) P := ⟨a, rfl, h⟩
theorem Ok.bind {x : Option β} {f : β → Option α} (h : Ok x Q) (k : ∀ b, Q b → Ok (f b) P) : Ok (Option.bind x f) P := by
  obtain ⟨b, rfl, hb⟩ := h; exact k b hb
theorem Ok.grd {c : Prop} [Decidable c] {x : Option α} (hc : c) (h : Ok x P) : Ok (grd c x) P := by rw [AL hc]; exact h
theorem Ok.meet (J : β → Prop) {k : β → Option α} {body : (β → Option α) → Option α} (hk : ∀ b, J b → Ok (k b) P) (hb : ∀ k' : β → Option α, (∀ b, J b → Ok (k' b) P) → Ok (body k') P) : Ok (AR k body) P := hb k hk
theorem Ok.letL {x : β} {f : β → Option α} (h : Ok (f x) P) : Ok (letL x f) P := h
theorem Ok.mono {x : Option α} {P' : α → Prop} (h : Ok x P) (k : ∀ a, P a → P' a) : Ok x P' := by obtain ⟨a, e, ha⟩ := h; exact ⟨a, e, k a ha⟩
theorem Ok.eq {x : Option α} {a : α} (h : x = some a) : Ok x (· = a) := ⟨a, h, rfl⟩
theorem Ok.idx {l : List α} {i : Int} (h0 : 0 ≤ i) (h1 : i < l.length) : Ok (idx l i) (fun x => l[i.toNat]? = some x) := by
  have : i.toNat < l.length := by omega
  exact ⟨l[i.toNat], by simp [VM.idx, h0, List.getElem?_eq_getElem this], List.getElem?_eq_getElem this⟩
theorem Ok.sub {l : List α} {a b : Int} (h0 : 0 ≤ a) (h1 : a ≤ b) (h2 : b ≤ l.length) : Ok (sub l a b) (fun x => x = (l.drop a.toNat).take (b.toNat - a.toNat) ∧ x.length = (b - a).toNat) := by
  refine ⟨_, by simp [VM.sub, h0, h1, h2], rfl, ?_⟩
  simp; omega
end
end Go.VM
namespace Go.VM
section
variable {N : Nat}
def DI (c : UInt8) : Bool := decide (c.toNat / 64 = 2)
def IC : List UInt8 → Option (Nat × Nat)
  | [] => none
  | a :: t =>
    if a.toNat < 128 then some (a.toNat, 1)
    else if a.toNat / 32 = 6 then
      match t with
      | b :: _ => if DI b = true ∧ 128 ≤ a.toNat % 32 * 64 + b.toNat % 64 then some (a.toNat % 32 * 64 + b.toNat % 64, 2) else none
      | _ => none
    else if a.toNat / 16 = 14 then
      match t with
      | b :: c :: _ => if DI b = true ∧ DI c = true ∧ 2048 ≤ (a.toNat % 16 * 64 + b.toNat % 64) * 64 + c.toNat % 64 ∧ Bl (((a.toNat % 16 * 64 + b.toNat % 64) * 64 + c.toNat % 64 : Nat)) = true then some ((a.toNat % 16 * 64 + b.toNat % 64) * 64 + c.toNat % 64, 3) else none
      | _ => none
    else if a.toNat / 8 = 30 then
      match t with
      | b :: c :: d :: _ => if DI b = true ∧ DI c = true ∧ DI d = true ∧ 65536 ≤ ((a.toNat % 8 * 64 + b.toNat % 64) * 64 + c.toNat % 64) * 64 + d.toNat % 64 ∧ Bl ((((a.toNat % 8 * 64 + b.toNat % 64) * 64 + c.toNat % 64) * 64 + d.toNat % 64 : Nat)) = true then some (((a.toNat % 8 * 64 + b.toNat % 64) * 64 + c.toNat % 64) * 64 + d.toNat % 64, 4) else none
      | _ => none
    else none
def Fz (i : Nat) : Option (Nat × Nat) → Int × Int × Int
  | some (r, n) => ((r : Int), ((i + n : Nat) : Int), 0)
  | none => (0, 0, 7)
theorem MG {α : Type} {l t : List α} {x : α} {i j : Nat} (h : l.drop i = t) (hx : t[j]? = some x) : idx l ((i + j : Nat) : Int) = some x := by
  rw [K3, ← List.getElem?_drop, h, hx]
theorem CL {α : Type} {l t : List α} {i : Nat} (h : l.drop i = t) (hi : i ≤ l.length) : l.length = i + t.length := by
  have := congrArg List.length h
  simp at this; omega
section
variable {l t : List UInt8} {i : Nat} {k13 : Int → Option (Int × Int × Int)}
theorem Uq (hi : i + 10 ≤ 2 ^ 60) {k m j : Nat} {r : Int} (h : m < j) (hj : j ≤ 5) : Aj N l (i : Int) (m : Int) k13 (k + 1) r (j : Int) = k13 r := by
  rw [Aj]
  have : ¬ (j : Int) ≤ m := by omega
  simp [this]
theorem Ku (hi : i + 10 ≤ 2 ^ 60) {k m j r : Nat} {x : UInt8} (h : j ≤ m) (hm : m ≤ 3) (ht : l.drop i = t) (hx : t[j]? = some x) (hr : r < 2 ^ 50) :
    Aj N l (i : Int) (m : Int) k13 (k + 1) (r : Int) (j : Int) = if DI x = true then Aj N l (i : Int) (m : Int) k13 k ((r * 64 + x.toNat % 64 : Nat) : Int) ((j + 1 : Nat) : Int) else some (0, 0, 7) := by
  rw [Aj]
  have h1 : (j : Int) ≤ m := by omega
  have h2 : wr .i64 ((i : Int) + (j : Int)) = ((i + j : Nat) : Int) := by rw [A8 (by omega)]; simp
  have h3 : wr .i64 ((j : Int) + 1) = ((j + 1 : Nat) : Int) := by rw [A8 (by omega)]; simp
  have h4 : x.toNat % 64 < 64 := Nat.mod_lt _ (by decide)
  simp only [h1, decide_true, if_true, h2, h3]
  rw [MG ht hx, Option.bind_some, AKu, b63, FN (by omega), AIE hr h4]
  have h5 : ((((x.toNat / 64 * 64 : Nat) : Int)) != 128) = !DI x := by
    unfold DI
    by_cases hc : x.toNat / 64 = 2
    · rw [hc]; rfl
    · have : ¬ ((x.toNat / 64 * 64 : Nat) : Int) = 128 := by omega
      simp only [hc, decide_false, Bool.not_false, bne_iff_ne, ne_eq]; exact this
  rw [h5]
  cases DI x <;> simp
theorem ALI : idx Ak 0 = some (Utf8textForm.mk 0 127 0) := rfl
theorem AKw : idx Ak 1 = some (Utf8textForm.mk 192 31 128) := rfl
theorem AKq : idx Ak 2 = some (Utf8textForm.mk 224 15 2048) := rfl
theorem AK1 : idx Ak 3 = some (Utf8textForm.mk 240 7 65536) := rfl
def AC8 (i m least r : Nat) : Int × Int × Int := if least ≤ r ∧ Bl (r : Int) = true then ((r : Int), ((i + m : Nat) : Int), 0) else (0, 0, 7)
theorem AEj (hN : 5 ≤ N) (hi : i < l.length) (hb : l.length + 10 ≤ 2 ^ 60) : E5 N l (i : Int) = some (Fz i (IC (l.drop i))) := by
  obtain ⟨M, rfl⟩ : ∃ M, N = M + 5 := ⟨N - 5, by omega⟩
  unfold E5
  have c1 : ¬ ((i : Int) < 0) := by omega
  have c2 : ¬ ((i : Int) ≥ (l.length : Int)) := by omega
  simp only [AO, c1, c2, decide_false, Bool.false_eq_true, if_false]
  rw [AL (by decide)]
  obtain ⟨t, ht⟩ : ∃ t, l.drop i = t := ⟨_, rfl⟩
  have hl := CL ht (by omega)
  cases t with
  | nil => simp at hl; omega
  | cons a t =>
    have ha : idx l (i : Int) = some a := by
      have := MG (j := 0) ht rfl
      simpa using this
    have hat := a.toNat_lt
    simp only [List.length_cons] at hl
    have hw : wr .i64 (wr .i64 ((l.length : Int) - (i : Int)) - 1) = ((t.length : Nat) : Int) := by
      rw [A8 (n := (l.length : Int) - (i : Int)) (by omega), A8 (by omega)]; omega
    have he : ∀ m : Nat, m ≤ 3 → wr .i64 (wr .i64 ((i : Int) + (m : Int)) + 1) = ((i + (m + 1) : Nat) : Int) := by
      intro m hm
      rw [A8 (n := (i : Int) + (m : Int)) (by omega), A8 (by omega)]; omega
    have fin : ∀ (m least r : Nat), m ≤ 3 → (if decide ((r : Int) < (least : Int)) = true then (some (0, 0, 7) : Option (Int × Int × Int)) else Option.bind (D7 (M + 5) (r : Int)) fun y22 => if (!y22) = true then some (0, 0, 7) else some ((r : Int), wr .i64 (wr .i64 ((i : Int) + (m : Int)) + 1), 0)) = some (AC8 i (m + 1) least r) := by
      intro m least r hm
      rw [R9, Option.bind_some, he m hm]
      unfold AC8
      by_cases h1 : least ≤ r
      · have : ¬ (r : Int) < least := by omega
        cases hp : Bl (r : Int) <;> simp [h1, this, hp]
      · have : (r : Int) < least := by omega
        simp [h1, this]
    rw [ht]
    show A9 (M + 5) l (i : Int) _ 4 0 = _
    rw [A9, ALI, Option.bind_some, ha, Option.bind_some, AKd, hw]
    unfold IC
    by_cases h1 : a.toNat < 128
    · have e1 : ((a.toNat / 128 * 128 : Nat) : Int) = 0 := by omega
      have e2 : ¬ ((t.length : Int) < 0) := by omega
      simp only [e1, bne_self_eq_false, Bool.false_eq_true, if_false, e2, decide_false, AO, h1, if_true]
      rw [ALH, Nat.mod_eq_of_lt h1, FN (by omega)]
      rw [show Aj (M + 5) l (i : Int) 0 = Aj (M + 5) l (i : Int) ((0 : Nat) : Int) from rfl, show (1 : Int) = ((1 : Nat) : Int) from rfl, Uq (by omega) (by omega) (by omega)]
      have := fin 0 0 a.toNat (by omega)
      rw [show ((0 : Nat) : Int) = 0 from rfl] at this
      rw [show ((1 : Nat) : Int) = 1 from rfl, this]
      have hp : Bl (a.toNat : Int) = true := by simp [Bl]; omega
      simp [AC8, hp, Fz]
    · have e1 : (((a.toNat / 128 * 128 : Nat) : Int) != 0) = true := by
        have : ¬ ((a.toNat / 128 * 128 : Nat) : Int) = 0 := by omega
        simpa using this
      simp only [e1, if_true, h1, if_false]
      rw [show (0 : Int) + 1 = 1 from rfl, A9, AKw, Option.bind_some, ha, Option.bind_some, AK5, hw]
      by_cases h2 : a.toNat / 32 = 6
      · rw [h2]
        simp only [show (((6 * 32 : Nat) : Int) != 192) = false from rfl, Bool.false_eq_true, if_false, if_true]
        cases t with
        | nil => simp [Fz]
        | cons b t =>
          have e2 : ¬ ((((b :: t).length : Nat) : Int) < 1) := by simp only [List.length_cons]; omega
          simp only [e2, decide_false, Bool.false_eq_true, if_false, AO]
          rw [b31, FN (by omega)]
          rw [show Aj (M + 5) l (i : Int) 1 = Aj (M + 5) l (i : Int) ((1 : Nat) : Int) from rfl, show (1 : Int) = ((1 : Nat) : Int) from rfl]
          rw [Ku (by omega) (Nat.le_refl _) (by omega) ht rfl (by omega)]
          cases hc : DI b with
          | false => simp [hc, Fz]
          | true =>
            simp only [if_true, true_and]
            rw [Uq (by omega) (by omega) (by omega)]
            have := fin 1 128 (a.toNat % 32 * 64 + b.toNat % 64) (by omega)
            rw [show ((1 : Nat) : Int) = 1 from rfl] at this
            rw [show ((1 : Nat) : Int) = 1 from rfl]
            refine this.trans ?_
            have hp : Bl ((a.toNat % 32 * 64 + b.toNat % 64 : Nat) : Int) = true := by
              have : a.toNat % 32 < 32 := Nat.mod_lt _ (by decide)
              have : b.toNat % 64 < 64 := Nat.mod_lt _ (by decide)
              simp [Bl]; omega
            simp only [AC8, hp, and_true]
            split <;> simp [Fz]
      · have e1 : (((a.toNat / 32 * 32 : Nat) : Int) != 192) = true := by
          have : ¬ ((a.toNat / 32 * 32 : Nat) : Int) = 192 := by omega
          simpa using this
        simp only [e1, if_true, h2, if_false]
        rw [show (1 : Int) + 1 = 2 from rfl, A9, AKq, Option.bind_some, ha, Option.bind_some, AK0, hw]
        by_cases h3 : a.toNat / 16 = 14
        · rw [h3]
          simp only [show (((14 * 16 : Nat) : Int) != 224) = false from rfl, Bool.false_eq_true, if_false, if_true]
          match t, ht, hl with
          | [], ht, hl => simp [Fz]
          | [b], ht, hl => simp [Fz]
          | b :: c :: t, ht, hl =>
            have e2 : ¬ ((((b :: c :: t).length : Nat) : Int) < 2) := by simp only [List.length_cons]; omega
            simp only [e2, decide_false, Bool.false_eq_true, if_false, AO]
            rw [b15, FN (by omega)]
            rw [show Aj (M + 5) l (i : Int) 2 = Aj (M + 5) l (i : Int) ((2 : Nat) : Int) from rfl, show (1 : Int) = ((1 : Nat) : Int) from rfl]
            rw [Ku (by omega) (by omega) (by omega) ht rfl (by omega)]
            cases hc : DI b with
            | false => simp [hc, Fz]
            | true =>
              simp only [if_true, true_and]
              rw [Ku (by omega) (by omega) (by omega) ht rfl (by omega)]
              cases hc2 : DI c with
              | false => simp [hc2, Fz]
              | true =>
                simp only [if_true, true_and]
                rw [Uq (by omega) (by omega) (by omega)]
                have := fin 2 2048 ((a.toNat % 16 * 64 + b.toNat % 64) * 64 + c.toNat % 64) (by omega)
                rw [show ((2 : Nat) : Int) = 2 from rfl] at this
                refine this.trans ?_
                simp only [AC8]
                split <;> simp [Fz]
        · have e1 : (((a.toNat / 16 * 16 : Nat) : Int) != 224) = true := by
            have : ¬ ((a.toNat / 16 * 16 : Nat) : Int) = 224 := by omega
            simpa using this
          simp only [e1, if_true, h3, if_false]
          rw [show (2 : Int) + 1 = 3 from rfl, A9, AK1, Option.bind_some, ha, Option.bind_some, bn7, hw]
          by_cases h4 : a.toNat / 8 = 30
          · rw [h4]
            simp only [show (((30 * 8 : Nat) : Int) != 240) = false from rfl, Bool.false_eq_true, if_false, if_true]
            match t, ht, hl with
            | [], ht, hl => simp [Fz]
            | [b], ht, hl => simp [Fz]
            | [b, c], ht, hl => simp [Fz]
            | b :: c :: d :: t, ht, hl =>
              have e2 : ¬ ((((b :: c :: d :: t).length : Nat) : Int) < 3) := by simp only [List.length_cons]; omega
              simp only [e2, decide_false, Bool.false_eq_true, if_false, AO]
              rw [b7, FN (by omega)]
              rw [show Aj (M + 5) l (i : Int) 3 = Aj (M + 5) l (i : Int) ((3 : Nat) : Int) from rfl, show (1 : Int) = ((1 : Nat) : Int) from rfl]
              rw [Ku (by omega) (by omega) (by omega) ht rfl (by omega)]
              cases hc : DI b with
              | false => simp [hc, Fz]
              | true =>
                simp only [if_true, true_and]
                rw [Ku (by omega) (by omega) (by omega) ht rfl (by omega)]
                cases hc2 : DI c with
                | false => simp [hc2, Fz]
                | true =>
                  simp only [if_true, true_and]
                  rw [Ku (by omega) (by omega) (by omega) ht rfl (by omega)]
                  cases hc3 : DI d with
                  | false => simp [hc3, Fz]
                  | true =>
                    simp only [if_true, true_and]
                    rw [Uq (by omega) (by omega) (by omega)]
                    have := fin 3 65536 (((a.toNat % 8 * 64 + b.toNat % 64) * 64 + c.toNat % 64) * 64 + d.toNat % 64) (by omega)
                    rw [show ((3 : Nat) : Int) = 3 from rfl] at this
                    refine this.trans ?_
                    simp only [AC8]
                    split <;> simp [Fz]
          · have e1 : (((a.toNat / 8 * 8 : Nat) : Int) != 240) = true := by
              have : ¬ ((a.toNat / 8 * 8 : Nat) : Int) = 240 := by omega
              simpa using this
            simp only [e1, if_true, h4, if_false]
            rw [A9]
            rfl
end
end
end Go.VM
namespace Go.VM
section
variable {N : Nat}
theorem ALD {a : Nat} (h : a < 256) : DC .i64 (a : Int) 31 = ((a % 32 : Nat) : Int) := Mq 5 (by omega) (by decide)
theorem AKv {a : Nat} (h : a < 256) : DC .i64 (a : Int) 15 = ((a % 16 : Nat) : Int) := Mq 4 (by omega) (by decide)
theorem b7' {a : Nat} (h : a < 256) : DC .i64 (a : Int) 7 = ((a % 8 : Nat) : Int) := Mq 3 (by omega) (by decide)
theorem NU {x : List UInt8} {k4 : Int → Option Int} {k j r : Nat} {c : UInt8} (hx : x[j]? = some c) (hr : r < 2 ^ 50) :
    Be N x k4 (k + 1) (j : Int) (r : Int) = Be N x k4 k ((j + 1 : Nat) : Int) ((r * 64 + c.toNat % 64 : Nat) : Int) := by
  have hc := c.toNat_lt
  rw [Be, K3, hx, Option.bind_some, H7, FN (by omega), KF (by omega), AIE hr (Nat.mod_lt _ (by decide))]
  simp
def Um : List UInt8 → Nat
  | [a] => a.toNat
  | [a, b] => a.toNat % 32 * 64 + b.toNat % 64
  | [a, b, c] => (a.toNat % 16 * 64 + b.toNat % 64) * 64 + c.toNat % 64
  | [a, b, c, d] => ((a.toNat % 8 * 64 + b.toNat % 64) * 64 + c.toNat % 64) * 64 + d.toNat % 64
  | _ => 0
theorem ACV (x : List UInt8) (h0 : 0 < x.length) (h4 : x.length ≤ 4) : Ei N x = some (Um x : Int) := by
  match x, h0, h4 with
  | [a], _, _ =>
    have ha := a.toNat_lt
    unfold Ei
    rw [show ((([a] : List UInt8).length : Int) == 1) = true from rfl, if_pos rfl, show idx [a] 0 = some a from rfl, Option.bind_some, H7, FN (by omega)]
    rfl
  | [a, b], _, _ =>
    have ha := a.toNat_lt
    unfold Ei
    rw [show ((([a, b] : List UInt8).length : Int) == 1) = false from rfl, if_neg (by decide), show idx [a, b] 0 = some a from rfl, Option.bind_some, H7]
    rw [AL (by show ¬ ((5 : Int) < 0); decide), AO, AL (by show (-4611686018427387904 : Int) ≤ 1 ∧ (2 : Int) ≤ 4611686018427387904; decide), FN (by omega)]
    rw [show wr .i64 (Lp .i64 1 (wr .i64 (7 - (([a, b] : List UInt8).length : Int))) - 1) = 31 from rfl, ALD (by omega)]
    rw [show ((([a, b] : List UInt8).length : Int) - 1).toNat = 0 + 1 from rfl, show (1 : Int) = ((1 : Nat) : Int) from rfl]
    rw [NU (c := b) rfl (by omega), Be]
    rfl
  | [a, b, c], _, _ =>
    have ha := a.toNat_lt
    unfold Ei
    rw [show ((([a, b, c] : List UInt8).length : Int) == 1) = false from rfl, if_neg (by decide), show idx [a, b, c] 0 = some a from rfl, Option.bind_some, H7]
    rw [AL (by show ¬ ((4 : Int) < 0); decide), AO, AL (by show (-4611686018427387904 : Int) ≤ 1 ∧ (3 : Int) ≤ 4611686018427387904; decide), FN (by omega)]
    rw [show wr .i64 (Lp .i64 1 (wr .i64 (7 - (([a, b, c] : List UInt8).length : Int))) - 1) = 15 from rfl, AKv (by omega)]
    rw [show ((([a, b, c] : List UInt8).length : Int) - 1).toNat = 0 + 1 + 1 from rfl, show (1 : Int) = ((1 : Nat) : Int) from rfl]
    rw [NU (c := b) rfl (by omega), NU (c := c) rfl (by omega), Be]
    rfl
  | [a, b, c, d], _, _ =>
    have ha := a.toNat_lt
    unfold Ei
    rw [show ((([a, b, c, d] : List UInt8).length : Int) == 1) = false from rfl, if_neg (by decide), show idx [a, b, c, d] 0 = some a from rfl, Option.bind_some, H7]
    rw [AL (by show ¬ ((3 : Int) < 0); decide), AO, AL (by show (-4611686018427387904 : Int) ≤ 1 ∧ (4 : Int) ≤ 4611686018427387904; decide), FN (by omega)]
    rw [show wr .i64 (Lp .i64 1 (wr .i64 (7 - (([a, b, c, d] : List UInt8).length : Int))) - 1) = 7 from rfl, b7' (by omega)]
    rw [show ((([a, b, c, d] : List UInt8).length : Int) - 1).toNat = 0 + 1 + 1 + 1 from rfl, show (1 : Int) = ((1 : Nat) : Int) from rfl]
    rw [NU (c := b) rfl (by omega), NU (c := c) rfl (by omega), NU (c := d) rfl (by omega), Be]
    rfl
def RU (x : List UInt8) : Bool := Bl (Um x : Int) && (KI (Um x) == x)
theorem PK {l : List UInt8} {i j k : Nat} {k6 : Unit → Option (Int × Int × Int)} (hi : i + 10 ≤ 2 ^ 60) (h1 : 1 ≤ j) (h4 : j ≤ 4) :
    CQ N l (i : Int) k6 (k + 1) (j : Int) = if i + j ≤ l.length then (if RU ((l.drop i).take j) = true then some ((Um ((l.drop i).take j) : Int), ((i + j : Nat) : Int), 0) else CQ N l (i : Int) k6 k ((j + 1 : Nat) : Int)) else k6 () := by
  rw [CQ, AO]
  have e1 : (j : Int) ≤ 4 := by omega
  have e2 : wr .i64 ((i : Int) + (j : Int)) = ((i + j : Nat) : Int) := by rw [A8 (by omega)]; simp
  have e3 : wr .i64 ((j : Int) + 1) = ((j + 1 : Nat) : Int) := by rw [A8 (by omega)]; simp
  simp only [e1, decide_true, if_true, e2, e3]
  by_cases h : i + j ≤ l.length
  · have h' : ((i + j : Nat) : Int) ≤ (l.length : Int) := by omega
    simp only [h, h', decide_true, if_true]
    rw [Df l i (i + j) (by omega) h, Option.bind_some, Nat.add_sub_cancel_left]
    have hl : ((l.drop i).take j).length = j := by simp; omega
    rw [ACV _ (by omega) (by omega), Option.bind_some, AEA, Option.bind_some, AO]
    unfold RU encR
    cases hp : Bl (Um ((l.drop i).take j) : Int)
    · simp
    · simp only [if_true, Int.toNat_natCast, Bool.true_and, beq_self_eq_true]
  · have h' : ¬ ((i + j : Nat) : Int) ≤ (l.length : Int) := by omega
    simp only [h, h', decide_false, if_false, Bool.false_eq_true]
theorem Wm (a : UInt8) : RU [a] = true ↔ a.toNat < 128 := by
  have ha := a.toNat_lt
  have hp : Bl (a.toNat : Int) = true := by simp [Bl]; omega
  simp only [RU, Um, hp, Bool.true_and, KI]
  by_cases h : a.toNat < 128
  · simp [h]
  · have : a.toNat < 2048 := by omega
    simp [h, this]
theorem Mw {n : Nat} {a : UInt8} (h : n < 256) : UInt8.ofNat n = a ↔ n = a.toNat := by
  rw [AKR, toNat_ofNat h]
theorem Po (b : UInt8) : DI b = true ↔ 128 + b.toNat % 64 = b.toNat := by
  have := b.toNat_lt
  simp only [DI, decide_eq_true_eq]; omega
theorem hit2 (a b : UInt8) : RU [a, b] = true ↔ a.toNat / 32 = 6 ∧ DI b = true ∧ 128 ≤ a.toNat % 32 * 64 + b.toNat % 64 := by
  have ha := a.toNat_lt
  have hb := b.toNat_lt
  have hp : Bl ((a.toNat % 32 * 64 + b.toNat % 64 : Nat) : Int) = true := by simp [Bl]; omega
  simp only [RU, Um, hp, Bool.true_and, KI, Po]
  by_cases h : a.toNat % 32 * 64 + b.toNat % 64 < 128
  · simp [h]
  · have h2 : a.toNat % 32 * 64 + b.toNat % 64 < 2048 := by omega
    simp only [h, h2, if_true, if_false, beq_iff_eq, List.cons.injEq, and_true]
    rw [Mw (by omega), Mw (by omega)]
    omega
theorem hit3 (a b c : UInt8) : RU [a, b, c] = true ↔ a.toNat / 16 = 14 ∧ DI b = true ∧ DI c = true ∧ 2048 ≤ (a.toNat % 16 * 64 + b.toNat % 64) * 64 + c.toNat % 64 ∧ Bl (((a.toNat % 16 * 64 + b.toNat % 64) * 64 + c.toNat % 64 : Nat)) = true := by
  have ha := a.toNat_lt
  have hb := b.toNat_lt
  have hc := c.toNat_lt
  simp only [RU, Um, KI, Po, Bool.and_eq_true]
  by_cases h0 : (a.toNat % 16 * 64 + b.toNat % 64) * 64 + c.toNat % 64 < 128
  · simp [h0]; omega
  by_cases h1 : (a.toNat % 16 * 64 + b.toNat % 64) * 64 + c.toNat % 64 < 2048
  · simp [h0, h1]; omega
  · have h2 : (a.toNat % 16 * 64 + b.toNat % 64) * 64 + c.toNat % 64 < 65536 := by omega
    simp only [h0, h1, h2, if_true, if_false, beq_iff_eq, List.cons.injEq, and_true]
    rw [Mw (by omega), Mw (by omega), Mw (by omega)]
    constructor
    · rintro ⟨hp, h⟩; exact ⟨by omega, by omega, by omega, by omega, hp⟩
    · rintro ⟨h, h', h'', _, hp⟩; exact ⟨hp, by omega, by omega, by omega⟩
theorem AFL (a b c d : UInt8) : RU [a, b, c, d] = true ↔ a.toNat / 8 = 30 ∧ DI b = true ∧ DI c = true ∧ DI d = true ∧ 65536 ≤ ((a.toNat % 8 * 64 + b.toNat % 64) * 64 + c.toNat % 64) * 64 + d.toNat % 64 ∧ Bl ((((a.toNat % 8 * 64 + b.toNat % 64) * 64 + c.toNat % 64) * 64 + d.toNat % 64 : Nat)) = true := by
  have ha := a.toNat_lt
  have hb := b.toNat_lt
  have hc := c.toNat_lt
  have hd := d.toNat_lt
  simp only [RU, Um, KI, Po, Bool.and_eq_true]
  by_cases h0 : ((a.toNat % 8 * 64 + b.toNat % 64) * 64 + c.toNat % 64) * 64 + d.toNat % 64 < 128
  · simp [h0]; omega
  by_cases h1 : ((a.toNat % 8 * 64 + b.toNat % 64) * 64 + c.toNat % 64) * 64 + d.toNat % 64 < 2048
  · simp [h0, h1]; omega
  by_cases h2 : ((a.toNat % 8 * 64 + b.toNat % 64) * 64 + c.toNat % 64) * 64 + d.toNat % 64 < 65536
  · simp [h0, h1, h2]; omega
  · simp only [h0, h1, h2, if_true, if_false, beq_iff_eq, List.cons.injEq, and_true]
    rw [Mw (by omega), Mw (by omega), Mw (by omega), Mw (by omega)]
    constructor
    · rintro ⟨hp, h⟩; exact ⟨by omega, by omega, by omega, by omega, by omega, hp⟩
    · rintro ⟨h, h', h'', h3, _, hp⟩; exact ⟨hp, by omega, by omega, by omega, by omega⟩
theorem AG0 {l : List UInt8} {i k : Nat} {k6 : Unit → Option (Int × Int × Int)} : CQ N l (i : Int) k6 (k + 1) ((4 + 1 : Nat) : Int) = k6 () := by
  rw [CQ, AO]; rfl
theorem Dl {b : Bool} {p : Prop} (h : b = true ↔ p) (k : ¬ p) : b = false := by
  cases b
  · rfl
  · exact absurd (h.1 rfl) k
theorem ADp {l : List UInt8} {i : Nat} (hN : 5 ≤ N) (hi : i < l.length) (hb : l.length + 10 ≤ 2 ^ 60) : Gw N l (i : Int) = some (Fz i (IC (l.drop i))) := by
  obtain ⟨M, rfl⟩ : ∃ M, N = M + 1 + 1 + 1 + 1 + 1 := ⟨N - 5, by omega⟩
  unfold Gw
  have c1 : ¬ ((i : Int) < 0) := by omega
  have c2 : ¬ ((i : Int) ≥ (l.length : Int)) := by omega
  simp only [AO, c1, c2, decide_false, Bool.false_eq_true, if_false]
  rw [show (1 : Int) = ((1 : Nat) : Int) from rfl, PK (by omega) (by omega) (by omega), PK (by omega) (by omega) (by omega), PK (by omega) (by omega) (by omega), PK (by omega) (by omega) (by omega), AG0]
  obtain ⟨t, ht⟩ : ∃ t, l.drop i = t := ⟨_, rfl⟩
  have hl := CL ht (by omega)
  rw [ht]
  match t, hl with
  | [], hl => simp at hl; omega
  | [a], hl =>
    simp only [List.length_cons, List.length_nil] at hl
    have e1 : i + 1 ≤ l.length := by omega
    have e2 : ¬ i + (1 + 1) ≤ l.length := by omega
    simp only [e1, e2, if_true, if_false, List.take]
    simp only [IC]
    by_cases h1 : a.toNat < 128
    · rw [if_pos ((Wm a).2 h1), if_pos h1]; rfl
    · rw [Dl (Wm a) h1]
      simp [h1, Fz]
      repeat' split
      all_goals rfl
  | [a, b], hl =>
    simp only [List.length_cons, List.length_nil] at hl
    have e1 : i + 1 ≤ l.length := by omega
    have e2 : i + (1 + 1) ≤ l.length := by omega
    have e3 : ¬ i + (1 + 1 + 1) ≤ l.length := by omega
    simp only [e1, e2, e3, if_true, if_false, List.take]
    simp only [IC]
    by_cases h1 : a.toNat < 128
    · rw [if_pos ((Wm a).2 h1), if_pos h1]; rfl
    · rw [Dl (Wm a) h1]
      simp only [Bool.false_eq_true, if_false, h1]
      by_cases h2 : a.toNat / 32 = 6
      · simp only [h2, if_true]
        by_cases k : DI b = true ∧ 128 ≤ a.toNat % 32 * 64 + b.toNat % 64
        · rw [if_pos ((hit2 a b).2 ⟨h2, k⟩), if_pos k]; rfl
        · rw [Dl (hit2 a b) (fun h => k h.2), if_neg k]; rfl
      · rw [Dl (hit2 a b) (fun h => h2 h.1)]
        simp only [Bool.false_eq_true, if_false, h2, ite_self, Fz]
  | [a, b, c], hl =>
    simp only [List.length_cons, List.length_nil] at hl
    have e1 : i + 1 ≤ l.length := by omega
    have e2 : i + (1 + 1) ≤ l.length := by omega
    have e3 : i + (1 + 1 + 1) ≤ l.length := by omega
    have e4 : ¬ i + (1 + 1 + 1 + 1) ≤ l.length := by omega
    simp only [e1, e2, e3, e4, if_true, if_false, List.take]
    simp only [IC]
    by_cases h1 : a.toNat < 128
    · rw [if_pos ((Wm a).2 h1), if_pos h1]; rfl
    · rw [Dl (Wm a) h1]
      simp only [Bool.false_eq_true, if_false, h1]
      by_cases h2 : a.toNat / 32 = 6
      · have h3 : ¬ a.toNat / 16 = 14 := by omega
        simp only [h2, if_true, Dl (hit3 a b c) (fun h => h3 h.1), Bool.false_eq_true, if_false]
        by_cases k : DI b = true ∧ 128 ≤ a.toNat % 32 * 64 + b.toNat % 64
        · rw [if_pos ((hit2 a b).2 ⟨h2, k⟩), if_pos k]; rfl
        · rw [Dl (hit2 a b) (fun h => k h.2), if_neg k]; rfl
      · rw [Dl (hit2 a b) (fun h => h2 h.1)]
        simp only [Bool.false_eq_true, if_false, h2]
        by_cases h3 : a.toNat / 16 = 14
        · simp only [h3, if_true]
          by_cases k : DI b = true ∧ DI c = true ∧ 2048 ≤ (a.toNat % 16 * 64 + b.toNat % 64) * 64 + c.toNat % 64 ∧ Bl (((a.toNat % 16 * 64 + b.toNat % 64) * 64 + c.toNat % 64 : Nat)) = true
          · rw [if_pos ((hit3 a b c).2 ⟨h3, k⟩), if_pos k]; rfl
          · rw [if_neg (fun e => k ((hit3 a b c).1 e).2), if_neg k]; rfl
        · rw [Dl (hit3 a b c) (fun h => h3 h.1)]
          simp only [Bool.false_eq_true, if_false, h3, ite_self, Fz]
  | a :: b :: c :: d :: t, hl =>
    simp only [List.length_cons] at hl
    have e1 : i + 1 ≤ l.length := by omega
    have e2 : i + (1 + 1) ≤ l.length := by omega
    have e3 : i + (1 + 1 + 1) ≤ l.length := by omega
    have e4 : i + (1 + 1 + 1 + 1) ≤ l.length := by omega
    rw [show List.take 1 (a :: b :: c :: d :: t) = [a] from rfl, show List.take (1 + 1) (a :: b :: c :: d :: t) = [a, b] from rfl, show List.take (1 + 1 + 1) (a :: b :: c :: d :: t) = [a, b, c] from rfl, show List.take (1 + 1 + 1 + 1) (a :: b :: c :: d :: t) = [a, b, c, d] from rfl]
    simp only [e1, e2, e3, e4, if_true, if_false]
    simp only [IC]
    by_cases h1 : a.toNat < 128
    · rw [if_pos ((Wm a).2 h1), if_pos h1]; rfl
    · rw [Dl (Wm a) h1]
      simp only [Bool.false_eq_true, if_false, h1]
      by_cases h2 : a.toNat / 32 = 6
      · have h3 : ¬ a.toNat / 16 = 14 := by omega
        have h4 : ¬ a.toNat / 8 = 30 := by omega
        simp only [h2, if_true, Dl (hit3 a b c) (fun h => h3 h.1), Dl (AFL a b c d) (fun h => h4 h.1), Bool.false_eq_true, if_false]
        by_cases k : DI b = true ∧ 128 ≤ a.toNat % 32 * 64 + b.toNat % 64
        · rw [if_pos ((hit2 a b).2 ⟨h2, k⟩), if_pos k]; rfl
        · rw [Dl (hit2 a b) (fun h => k h.2), if_neg k]; rfl
      · rw [Dl (hit2 a b) (fun h => h2 h.1)]
        simp only [Bool.false_eq_true, if_false, h2]
        by_cases h3 : a.toNat / 16 = 14
        · have h4 : ¬ a.toNat / 8 = 30 := by omega
          simp only [h3, if_true, Dl (AFL a b c d) (fun h => h4 h.1), Bool.false_eq_true, if_false]
          by_cases k : DI b = true ∧ DI c = true ∧ 2048 ≤ (a.toNat % 16 * 64 + b.toNat % 64) * 64 + c.toNat % 64 ∧ Bl (((a.toNat % 16 * 64 + b.toNat % 64) * 64 + c.toNat % 64 : Nat)) = true
          · rw [if_pos ((hit3 a b c).2 ⟨h3, k⟩), if_pos k]; rfl
          · rw [if_neg (fun e => k ((hit3 a b c).1 e).2), if_neg k]; rfl
        · rw [Dl (hit3 a b c) (fun h => h3 h.1)]
          simp only [Bool.false_eq_true, if_false, h3]
          by_cases h4 : a.toNat / 8 = 30
          · simp only [h4, if_true]
            by_cases k : DI b = true ∧ DI c = true ∧ DI d = true ∧ 65536 ≤ ((a.toNat % 8 * 64 + b.toNat % 64) * 64 + c.toNat % 64) * 64 + d.toNat % 64 ∧ Bl ((((a.toNat % 8 * 64 + b.toNat % 64) * 64 + c.toNat % 64) * 64 + d.toNat % 64 : Nat)) = true
            · rw [if_pos ((AFL a b c d).2 ⟨h4, k⟩), if_pos k]; rfl
            · rw [if_neg (fun e => k ((AFL a b c d).1 e).2), if_neg k]; rfl
          · rw [if_neg (fun e => h4 ((AFL a b c d).1 e).1), if_neg h4]; rfl
end
end Go.VM
namespace Go.VM
section
variable {N : Nat}
theorem EA {α : Type} [DecidableEq α] {f g : Nat → α} (h : (List.range 256).all (fun n => decide (f n = g n)) = true) (c : UInt8) : f c.toNat = g c.toNat := by
  have := List.all_eq_true.1 h c.toNat (List.mem_range.2 c.toNat_lt)
  simpa using this
def AAI (n : Nat) : Bool := (decide (48 ≤ n) && decide (n ≤ 57)) || (decide (65 ≤ n) && decide (n ≤ 70)) || (decide (97 ≤ n) && decide (n ≤ 102))
def Jj (c : UInt8) : Bool := AAI c.toNat
def Ef (n : Nat) : Nat := if n ≤ 57 then n - 48 else if n ≤ 70 then n - 55 else n - 87
theorem AAW (c : UInt8) (h : Jj c = true) : Ef c.toNat < 16 := by
  simp only [Jj, AAI, Bool.or_eq_true, Bool.and_eq_true, decide_eq_true_eq] at h
  unfold Ef; split <;> (try split) <;> omega
theorem AGB (c : UInt8) : Ht N (AP c) = some (Jj c) :=
  EA (f := fun n => Ht N (n : Int)) (g := fun n => some (AAI n)) (by kernel_rfl) c
theorem AAP (c : UInt8) (h : Jj c = true) : Fu N (AP c) = some ((Ef c.toNat : Nat) : Int) := by
  have := EA (f := fun n => if AAI n = true then Fu N (n : Int) else none) (g := fun n => if AAI n = true then some ((Ef n : Nat) : Int) else none) (by kernel_rfl) c
  simp only [show AAI c.toNat = true from h, if_true] at this
  exact this
def UK (n : Nat) : List UInt8 → Nat
  | [] => n
  | c :: l => UK (n * 16 + Ef c.toNat) l
theorem PD : ∀ (l : List UInt8) (n : Nat), l.all Jj = true → UK n l < (n + 1) * 16 ^ l.length
  | [], n, _ => by simp [UK]
  | c :: l, n, h => by
    simp only [List.all_cons, Bool.and_eq_true] at h
    have := PD l (n * 16 + Ef c.toNat) h.2
    have hd := AAW c h.1
    rw [UK, List.length_cons, Nat.pow_succ]
    have e : (n * 16 + Ef c.toNat + 1) * 16 ^ l.length ≤ (n + 1) * 16 * 16 ^ l.length := Nat.mul_le_mul_right _ (by omega)
    have : (n + 1) * 16 * 16 ^ l.length = (n + 1) * (16 ^ l.length * 16) := by rw [Nat.mul_assoc, Nat.mul_comm 16]
    omega
theorem AIG (k2 : Unit → Option (Int × Int)) : ∀ l : List UInt8, Ao N k2 l = if l.all Jj = true then k2 () else some (0, 1)
  | [] => by rw [Ao]; rfl
  | c :: l => by
    rw [Ao, AGB, Option.bind_some, AIG k2 l]
    cases h : Jj c <;> simp [h]
theorem AIM (k9 : Int → Option (Int × Int)) : ∀ (l : List UInt8) (n : Nat), l.all Jj = true → (n + 1) * 16 ^ l.length ≤ 65536 → Am N 16 65535 k9 l (n : Int) = k9 ((UK n l : Nat) : Int)
  | [], n, _, _ => by rw [Am]; rfl
  | c :: l, n, h, hn => by
    simp only [List.all_cons, Bool.and_eq_true] at h
    have hd := AAW c h.1
    have hv := PD [] (n * 16 + Ef c.toNat) rfl
    rw [List.length_cons, Nat.pow_succ] at hn
    have hp : 1 ≤ 16 ^ l.length := Nat.one_le_pow _ _ (by decide)
    have e : (n * 16 + Ef c.toNat + 1) * 16 ^ l.length ≤ 65536 := by
      have e1 : (n * 16 + Ef c.toNat + 1) * 16 ^ l.length ≤ (n + 1) * 16 * 16 ^ l.length := Nat.mul_le_mul_right _ (by omega)
      have e2 : (n + 1) * 16 * 16 ^ l.length = (n + 1) * (16 ^ l.length * 16) := by rw [Nat.mul_assoc, Nat.mul_comm 16]
      omega
    have e3 : n * 16 + Ef c.toNat + 1 ≤ 65536 := by
      have : (n * 16 + Ef c.toNat + 1) * 1 ≤ (n * 16 + Ef c.toNat + 1) * 16 ^ l.length := Nat.mul_le_mul_left _ hp
      omega
    rw [Am, AAP c h.1, Option.bind_some, AO, AL (by decide)]
    have w1 : wr .u64 ((n : Int) * 16) = ((n * 16 : Nat) : Int) := by rw [H9 (by omega)]; simp
    have w2 : wr .u64 (((n * 16 : Nat) : Int) + ((Ef c.toNat : Nat) : Int)) = ((n * 16 + Ef c.toNat : Nat) : Int) := by rw [H9 (by omega)]; simp
    have w3 : wr .u64 (18446744073709551615 - ((Ef c.toNat : Nat) : Int)) = 18446744073709551615 - ((Ef c.toNat : Nat) : Int) := H9 (by omega)
    rw [w1, w2, w3, Int.tdiv_eq_ediv_of_nonneg (by omega), H9 (by omega)]
    have c1 : ¬ ((n : Int) > (18446744073709551615 - ((Ef c.toNat : Nat) : Int)) / 16) := by omega
    have c2 : ¬ (((n * 16 + Ef c.toNat : Nat) : Int) > 65535) := by omega
    simp only [c1, c2, decide_false, Bool.false_eq_true, if_false]
    rw [AIM k9 l _ h.2 e]; rfl
def ABn (l : List UInt8) : Int × Int := if l.all Jj = true then ((UK 0 l : Nat), 0) else (0, 1)
theorem ADX (l : List UInt8) (h0 : l ≠ []) (h4 : l.length ≤ 4) : Ik N l 65535 = some (ABn l) := by
  unfold Ik DD ABn
  have e : (l == []) = false := by simpa using h0
  rw [e]
  simp only [Bool.false_eq_true, if_false, AO]
  rw [AL (by unfold Ac; omega), AL (by unfold Ac; omega), AIG]
  by_cases h : l.all Jj = true
  · rw [if_pos h, if_pos h, show (0 : Int) = ((0 : Nat) : Int) from rfl, AIM _ l 0 h (by
      have : 16 ^ l.length ≤ 16 ^ 4 := Nat.pow_le_pow_right (by decide) h4
      omega)]
    rfl
  · rw [if_neg h, if_neg h]; rfl
end
end Go.VM
