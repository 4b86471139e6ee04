import Derived.Test.YtbmilkoebhmnnaaGreatDoorVM2
import GoSem.Claim
import Derived.Test.YtbmilkoebhmnnaaGreatDoorDefs
import Derived.KernelRfl
set_option linter.unusedVariables false
set_option linter.unusedSimpArgs false
namespace Go.VM
theorem F5 {n : Nat} (h : n ≤ 9223372036854775807) : wr .i64 (n : Int) = n := by
  simp [wr, IntKind.wrap, IntKind.bits, IntKind.signed]; omega
theorem Ar {n : Int} (h : -9223372036854775808 ≤ n ∧ n ≤ 9223372036854775807) : wr .i64 n = n := by
  simp [wr, IntKind.wrap, IntKind.bits, IntKind.signed]; omega
theorem K8 {α : Type} (l : List α) (n : Nat) : idx l (n : Int) = l[n]? := by simp [idx]
theorem UG {α : Type} (pre suf : List α) (x : α) : idx (pre ++ x :: suf) (pre.length : Int) = some x := by simp [idx]
theorem Tu {α : Type} {l pre suf : List α} {x : α} (h : l = pre ++ x :: suf) : idx l (pre.length : Int) = some x := by rw [h]; exact UG ..
theorem ALa {α : Type} {l pre suf : List α} {x : α} (h : l = pre ++ x :: suf) : decide ((pre.length : Int) < (l.length : Int)) = true := by
  subst h; simp only [decide_eq_true_eq, List.length_append, List.length_cons]; omega
theorem I5 {α : Type} (pre : List α) (x : α) : (pre.length : Int) + 1 = ((pre ++ [x]).length : Int) := by simp
theorem Dj {α : Type} (l : List α) (a b : Nat) (h1 : a ≤ b) (h2 : b ≤ l.length) : sub l (a : Int) (b : Int) = some ((l.drop a).take (b - a)) := by
  have h1' : (a : Int) ≤ b := by omega
  have h2' : (b : Int) ≤ l.length := by omega
  simp [sub, h1', h2']
theorem AO {α : Type} {c : Prop} [Decidable c] {x : Option α} (h : c) : grd c x = x := by simp [grd, h]
theorem Ip {α : Type} {n : Nat} {x : Option α} (h : n ≤ 4611686018427387904) : grd (Ab n) x = x := AO h
theorem AP {α β : Type} (k : α → Option β) (body : (α → Option β) → Option β) : AR k body = body k := rfl
theorem wf_u8 {n : Int} (h : (Lit.int .u8 n).wf = true) : 0 ≤ n ∧ n ≤ 255 := by
  simp only [Lit.wf, Bool.and_eq_true, decide_eq_true_eq] at h
  have e1 : IntKind.u8.min = 0 := by decide
  have e2 : IntKind.u8.max = 255 := by decide
  rw [e1, e2] at h; exact h
end Go.VM
namespace Go.VM
theorem IC (c : UInt8) : AL c = (c.toNat : Int) := rfl
theorem Im (c : UInt8) : EN (AL c) = c := by simp [EN, AL]
theorem ALb {a b : UInt8} : a = b ↔ a.toNat = b.toNat := ⟨fun h => by rw [h], UInt8.toNat_inj.1⟩
theorem toNat_ofNat {n : Nat} (h : n < 256) : (UInt8.ofNat n).toNat = n := by simp; omega
theorem FK {P : Nat → Prop} [∀ n, Decidable (P n)] (h : (List.range 256).all (fun n => decide (P n)) = true) (c : UInt8) : P c.toNat := by
  have := List.all_eq_true.1 h c.toNat (List.mem_range.2 c.toNat_lt)
  simpa using this
theorem AJj {n : Int} (h : 0 ≤ n ∧ n < 256) : wr .u8 n = n := by
  simp [wr, IntKind.wrap, IntKind.bits, IntKind.signed]; omega
theorem IG {n : Int} (h : 0 ≤ n ∧ n < 18446744073709551616) : wr .u64 n = n := by
  simp [wr, IntKind.wrap, IntKind.bits, IntKind.signed]; omega
theorem Pg {x : Nat} (h : x < 2 ^ 63) : (BitVec.ofInt 64 (x : Int)).toNat = x := by
  rw [BitVec.toNat_ofInt]; simp; omega
theorem AJy {x y : Nat} (hx : x < 2 ^ 62) (hy : y < 2 ^ 62) : El .i64 x y = ((x ||| y : Nat) : Int) := by
  have h : x ||| y < 2 ^ 62 := Nat.or_lt_two_pow hx hy
  show IntKind.i64.wrap (((BitVec.ofInt 64 (x : Int) ||| BitVec.ofInt 64 (y : Int) : BitVec 64).toNat : Nat) : Int) = _
  rw [BitVec.toNat_or, Pg (by omega), Pg (by omega)]
  simp [IntKind.wrap, IntKind.bits, IntKind.signed]; omega
theorem AI1 {x y : Nat} (hx : x < 2 ^ 62) (hy : y < 2 ^ 62) : BM .i64 x y = ((x &&& y : Nat) : Int) := by
  have h : x &&& y < 2 ^ 62 := Nat.and_lt_two_pow _ hy
  show IntKind.i64.wrap (((BitVec.ofInt 64 (x : Int) &&& BitVec.ofInt 64 (y : Int) : BitVec 64).toNat : Nat) : Int) = _
  rw [BitVec.toNat_and, Pg (by omega), Pg (by omega)]
  simp [IntKind.wrap, IntKind.bits, IntKind.signed]; omega
theorem ALS {q y : Nat} (k : Nat) (h : y < 2 ^ k) : (q * 2 ^ k) ||| y = q * 2 ^ k + y := by
  rw [← Nat.shiftLeft_eq, Nat.shiftLeft_add_eq_or_of_lt h]
theorem Mc {q y : Nat} (k : Nat) (h : y < 2 ^ k) (hx : q * 2 ^ k < 2 ^ 62) (hy : y < 2 ^ 62) : El .i64 ((q * 2 ^ k : Nat) : Int) (y : Int) = ((q * 2 ^ k + y : Nat) : Int) := by
  rw [AJy hx hy, ALS k h]
theorem Mq {x : Nat} (k : Nat) (hx : x < 2 ^ 62) (hk : 2 ^ k ≤ 2 ^ 61) : BM .i64 (x : Int) ((2 ^ k - 1 : Nat) : Int) = ((x % 2 ^ k : Nat) : Int) := by
  have h1 : 1 ≤ 2 ^ k := Nat.one_le_two_pow
  rw [AI1 hx (by omega), Nat.and_two_pow_sub_one_eq_mod]
theorem Kz {x : Nat} (hx : x < 2 ^ 62) : BM .i64 (x : Int) 63 = ((x % 64 : Nat) : Int) := Mq 6 hx (by decide)
theorem UN {x k : Nat} (h : k ≤ 64) : H9 .i64 (x : Int) (k : Int) = ((x / 2 ^ k : Nat) : Int) := by
  simp only [H9, IntKind.bits, Int.toNat_natCast]
  rw [Nat.min_eq_left h, Int.fdiv_eq_ediv_of_nonneg]
  · simp
  · exact Int.le_of_lt (Int.pow_pos (by decide))
theorem AIS {x k : Nat} (h : k ≤ 64) (hx : x * 2 ^ k < 2 ^ 63) : MM .i64 (x : Int) (k : Int) = ((x * 2 ^ k : Nat) : Int) := by
  simp only [MM, IntKind.bits, Int.toNat_natCast]
  rw [Nat.min_eq_left h]
  have : (x : Int) * 2 ^ k = ((x * 2 ^ k : Nat) : Int) := by simp
  rw [this]
  exact F5 (n := x * 2 ^ k) (by omega)
theorem AL6 {x : Nat} : H9 .i64 (x : Int) 6 = ((x / 64 : Nat) : Int) := UN (k := 6) (by decide)
theorem ALl {x : Nat} : H9 .i64 (x : Int) 12 = ((x / 4096 : Nat) : Int) := UN (k := 12) (by decide)
theorem ALo {x : Nat} : H9 .i64 (x : Int) 18 = ((x / 262144 : Nat) : Int) := UN (k := 18) (by decide)
theorem AMg {x : Nat} (h : x < 2 ^ 50) : MM .i64 (x : Int) 6 = ((x * 64 : Nat) : Int) := AIS (k := 6) (by decide) (by omega)
theorem AJp {x y : Nat} (h : x < 2 ^ 50) (hy : y < 64) : El .i64 (MM .i64 (x : Int) 6) (y : Int) = ((x * 64 + y : Nat) : Int) := by
  rw [AMg h]; exact Mc 6 hy (by omega) (by omega)
theorem AKO {y : Nat} (hy : y < 64) : El .i64 192 (y : Int) = ((192 + y : Nat) : Int) := Mc (q := 3) 6 hy (by decide) (by omega)
theorem Nr {y : Nat} (hy : y < 64) : El .i64 128 (y : Int) = ((128 + y : Nat) : Int) := Mc (q := 2) 6 hy (by decide) (by omega)
theorem AKb {y : Nat} (hy : y < 32) : El .i64 224 (y : Int) = ((224 + y : Nat) : Int) := Mc (q := 7) 5 hy (by decide) (by omega)
theorem AKd {y : Nat} (hy : y < 16) : El .i64 240 (y : Int) = ((240 + y : Nat) : Int) := Mc (q := 15) 4 hy (by decide) (by omega)
theorem IJ {n : Nat} : wr .u8 (n : Int) = ((n % 256 : Nat) : Int) := by
  simp [wr, IntKind.wrap, IntKind.bits, IntKind.signed]
theorem Y5 {n : Nat} : EN (n : Int) = UInt8.ofNat n := by simp [EN]
theorem Ea : (List.range 256).all (fun n => decide (
    FZ .u8 (n : Int) 127 = ((n / 128 * 128 : Nat) : Int) ∧ FZ .u8 (n : Int) 31 = ((n / 32 * 32 : Nat) : Int) ∧ FZ .u8 (n : Int) 15 = ((n / 16 * 16 : Nat) : Int) ∧ FZ .u8 (n : Int) 7 = ((n / 8 * 8 : Nat) : Int) ∧
    BM .u8 (n : Int) 127 = ((n % 128 : Nat) : Int) ∧ BM .u8 (n : Int) 31 = ((n % 32 : Nat) : Int) ∧ BM .u8 (n : Int) 15 = ((n % 16 : Nat) : Int) ∧ BM .u8 (n : Int) 7 = ((n % 8 : Nat) : Int) ∧
    BM .u8 (n : Int) 192 = ((n / 64 * 64 : Nat) : Int) ∧ BM .u8 (n : Int) 63 = ((n % 64 : Nat) : Int))) = true := by decide +kernel
theorem ALt (c : UInt8) : FZ .u8 (AL c) 127 = ((c.toNat / 128 * 128 : Nat) : Int) := (FK Ea c).1
theorem AMf (c : UInt8) : FZ .u8 (AL c) 31 = ((c.toNat / 32 * 32 : Nat) : Int) := (FK Ea c).2.1
theorem AMJ (c : UInt8) : FZ .u8 (AL c) 15 = ((c.toNat / 16 * 16 : Nat) : Int) := (FK Ea c).2.2.1
theorem bn7 (c : UInt8) : FZ .u8 (AL c) 7 = ((c.toNat / 8 * 8 : Nat) : Int) := (FK Ea c).2.2.2.1
theorem AMM (c : UInt8) : BM .u8 (AL c) 127 = ((c.toNat % 128 : Nat) : Int) := (FK Ea c).2.2.2.2.1
theorem b31 (c : UInt8) : BM .u8 (AL c) 31 = ((c.toNat % 32 : Nat) : Int) := (FK Ea c).2.2.2.2.2.1
theorem b15 (c : UInt8) : BM .u8 (AL c) 15 = ((c.toNat % 16 : Nat) : Int) := (FK Ea c).2.2.2.2.2.2.1
theorem b7 (c : UInt8) : BM .u8 (AL c) 7 = ((c.toNat % 8 : Nat) : Int) := (FK Ea c).2.2.2.2.2.2.2.1
theorem AMc (c : UInt8) : BM .u8 (AL c) 192 = ((c.toNat / 64 * 64 : Nat) : Int) := (FK Ea c).2.2.2.2.2.2.2.2.1
theorem b63 (c : UInt8) : BM .u8 (AL c) 63 = ((c.toNat % 64 : Nat) : Int) := (FK Ea c).2.2.2.2.2.2.2.2.2
end Go.VM
namespace Go.VM
section
variable {N : Nat}
def Bp (r : Int) : Bool := decide (0 ≤ r) && (decide (r ≤ 1114111) && (decide (r < 55296) || decide (r > 57343)))
theorem TC {r : Int} (h : Bp r = true) : 0 ≤ r ∧ r ≤ 1114111 ∧ (r < 55296 ∨ r > 57343) := by
  simpa [Bp] using h
theorem AD1 (r : Int) : IA N r = some (Bp r) := by
  unfold IA Bp
  by_cases h1 : r ≥ 0 <;> by_cases h2 : r ≤ 1114111 <;> by_cases h3 : r < 55296 <;> simp [h1, h2, h3]
theorem TM (r : Int) : EC N r = some (Bp r) := by
  unfold EC Bp
  by_cases h1 : r ≥ 0 <;> by_cases h2 : r ≤ 1114111 <;> by_cases h3 : r < 55296 <;> simp [h1, h2, h3]
def Kc (r : Nat) : List UInt8 :=
  if r < 128 then [.ofNat r]
  else if r < 2048 then [.ofNat (192 + r / 64), .ofNat (128 + r % 64)]
  else if r < 65536 then [.ofNat (224 + r / 4096), .ofNat (128 + r / 64 % 64), .ofNat (128 + r % 64)]
  else [.ofNat (240 + r / 262144), .ofNat (128 + r / 4096 % 64), .ofNat (128 + r / 64 % 64), .ofNat (128 + r % 64)]
def encR (r : Int) : List UInt8 × Int := if Bp r = true then (Kc r.toNat, 0) else ([], 4)
theorem AFZ (r : Int) : Gj N r = some (encR r) := by
  unfold Gj encR
  rw [AD1, Option.bind_some]
  cases hp : Bp r with
  | false => rfl
  | true =>
    obtain ⟨h0, h1, _⟩ := TC hp
    obtain ⟨n, rfl⟩ : ∃ n : Nat, r = n := ⟨r.toNat, by omega⟩
    simp only [if_true, letL, Int.toNat_natCast, Kc, List.map_cons, List.map_nil, AL6, ALl, ALo]
    by_cases c1 : n < 128
    · have c1' : (n : Int) < 128 := by omega
      simp only [c1, c1', decide_true, if_true, IJ, Y5, Nat.mod_eq_of_lt (show n < 256 by omega)]
    · have c1' : ¬ (n : Int) < 128 := by omega
      simp only [c1, c1', decide_false, if_false, Bool.false_eq_true]
      by_cases c2 : n < 2048
      · have c2' : (n : Int) < 2048 := by omega
        simp only [c2, c2', decide_true, if_true]
        rw [AKO (by omega), Kz (by omega), Nr (by omega)]
        simp only [IJ, Y5, Nat.mod_eq_of_lt (show 192 + n / 64 < 256 by omega), Nat.mod_eq_of_lt (show 128 + n % 64 < 256 by omega)]
      · have c2' : ¬ (n : Int) < 2048 := by omega
        simp only [c2, c2', decide_false, if_false, Bool.false_eq_true]
        by_cases c3 : n < 65536
        · have c3' : (n : Int) < 65536 := by omega
          simp only [c3, c3', decide_true, if_true]
          rw [AKb (by omega), Kz (by omega), Kz (by omega), Nr (by omega), Nr (by omega)]
          simp only [IJ, Y5, Nat.mod_eq_of_lt (show 224 + n / 4096 < 256 by omega), Nat.mod_eq_of_lt (show 128 + n % 64 < 256 by omega), Nat.mod_eq_of_lt (show 128 + n / 64 % 64 < 256 by omega)]
        · have c3' : ¬ (n : Int) < 65536 := by omega
          simp only [c3, c3', decide_false, if_false, Bool.false_eq_true]
          rw [AKd (by omega), Kz (by omega), Kz (by omega), Kz (by omega), Nr (by omega), Nr (by omega), Nr (by omega)]
          simp only [IJ, Y5, Nat.mod_eq_of_lt (show 240 + n / 262144 < 256 by omega), Nat.mod_eq_of_lt (show 128 + n % 64 < 256 by omega), Nat.mod_eq_of_lt (show 128 + n / 64 % 64 < 256 by omega), Nat.mod_eq_of_lt (show 128 + n / 4096 % 64 < 256 by omega)]
theorem LK {n j k r : Nat} {bn : List Int} {k14 : Int × List Int → Option (List UInt8 × Int)} (hj : j < n) (hn : n ≤ 3) (hl : bn.length = n + 1) (hr : r < 2 ^ 62) :
    Aj N (n : Int) k14 (k + 1) (r : Int) ((j + 1 : Nat) : Int) bn = Aj N (n : Int) k14 k ((r / 64 : Nat) : Int) (j : Int) (bn.set (j + 1) ((128 + r % 64 : Nat) : Int)) := by
  rw [Aj]
  have h1 : ((j + 1 : Nat) : Int) > 0 := by omega
  have h2 : wr .i64 ((n : Int) + 1) = ((n + 1 : Nat) : Int) := by rw [Ar (by omega)]; simp
  have h3 : wr .i64 (((j + 1 : Nat) : Int) - 1) = (j : Int) := by rw [Ar (by omega)]; omega
  have h4 : El .u8 128 (((r % 64 : Nat) : Int)) = ((128 + r % 64 : Nat) : Int) := by
    have : r % 64 < 64 := Nat.mod_lt _ (by decide)
    have f : (List.range 64).all (fun y => decide (El .u8 128 (y : Int) = ((128 + y : Nat) : Int))) = true := by decide +kernel
    have := List.all_eq_true.1 f (r % 64) (List.mem_range.2 this)
    simpa using this
  simp only [h1, decide_true, if_true]
  rw [h2, h3, AO (by simp only [Int.toNat_natCast]; omega), AO (by rw [hl]; simp only [Int.toNat_natCast]; omega), Kz (by omega), AL6, IJ, Nat.mod_eq_of_lt (show r % 64 < 256 by omega), h4]
  simp only [Int.toNat_natCast]
theorem PZ {n k : Nat} {r : Int} {bn : List Int} {k14 : Int × List Int → Option (List UInt8 × Int)} : Aj N (n : Int) k14 (k + 1) r ((0 : Nat) : Int) bn = k14 (r, bn) := by
  rw [Aj]; rfl
theorem ALu {k : Nat} {r : Nat} {k4 : Int → Option (List UInt8 × Int)} : Bd N (r : Int) k4 (k + 4) 0 = k4 (if r < 128 then 0 else if r < 2048 then 1 else if r < 65536 then 2 else 3) := by
  rw [Bd, AP]
  rw [show idx Ak (wr .i64 (0 + 1)) = some (Utf8textForm.mk 192 31 128) from rfl, Option.bind_some]
  simp only [show decide ((0 : Int) < 3) = true from rfl, if_true]
  by_cases c1 : r < 128
  · simp [c1]; omega
  have c1' : (r : Int) ≥ 128 := by omega
  simp only [c1, c1', decide_true, if_true, if_false]
  rw [show wr .i64 (0 + 1) = 1 from rfl, Bd, AP]
  rw [show idx Ak (wr .i64 (1 + 1)) = some (Utf8textForm.mk 224 15 2048) from rfl, Option.bind_some]
  simp only [show decide ((1 : Int) < 3) = true from rfl, if_true]
  by_cases c2 : r < 2048
  · simp [c2]; omega
  have c2' : (r : Int) ≥ 2048 := by omega
  simp only [c2, c2', decide_true, if_true, if_false]
  rw [show wr .i64 (1 + 1) = 2 from rfl, Bd, AP]
  rw [show idx Ak (wr .i64 (2 + 1)) = some (Utf8textForm.mk 240 7 65536) from rfl, Option.bind_some]
  simp only [show decide ((2 : Int) < 3) = true from rfl, if_true]
  by_cases c3 : r < 65536
  · simp [c3]; omega
  have c3' : (r : Int) ≥ 65536 := by omega
  simp only [c3, c3', decide_true, if_true, if_false]
  rw [show wr .i64 (2 + 1) = 3 from rfl, Bd, AP]
  simp only [show decide ((3 : Int) < 3) = false from rfl, if_false, Bool.false_eq_true]
theorem Io (hN : 4 ≤ N) (r : Int) : FC N r = some (encR r) := by
  obtain ⟨M, rfl⟩ : ∃ M, N = M + 4 := ⟨N - 4, by omega⟩
  unfold FC encR
  rw [TM, Option.bind_some]
  cases hp : Bp r with
  | false => rfl
  | true =>
    obtain ⟨h0, h1, _⟩ := TC hp
    obtain ⟨n, rfl⟩ : ∃ n : Nat, r = n := ⟨r.toNat, by omega⟩
    have f0 : ∀ y : Nat, y < 128 → El .u8 0 (y : Int) = (y : Int) := by
      have f : (List.range 128).all (fun y => decide (El .u8 0 (y : Int) = (y : Int))) = true := by decide +kernel
      intro y hy
      simpa using List.all_eq_true.1 f y (List.mem_range.2 hy)
    have f1 : ∀ y : Nat, y < 32 → El .u8 192 (y : Int) = ((192 + y : Nat) : Int) := by
      have f : (List.range 32).all (fun y => decide (El .u8 192 (y : Int) = ((192 + y : Nat) : Int))) = true := by decide +kernel
      intro y hy
      simpa using List.all_eq_true.1 f y (List.mem_range.2 hy)
    have f2 : ∀ y : Nat, y < 16 → El .u8 224 (y : Int) = ((224 + y : Nat) : Int) := by
      have f : (List.range 16).all (fun y => decide (El .u8 224 (y : Int) = ((224 + y : Nat) : Int))) = true := by decide +kernel
      intro y hy
      simpa using List.all_eq_true.1 f y (List.mem_range.2 hy)
    have f3 : ∀ y : Nat, y < 8 → El .u8 240 (y : Int) = ((240 + y : Nat) : Int) := by
      have f : (List.range 8).all (fun y => decide (El .u8 240 (y : Int) = ((240 + y : Nat) : Int))) = true := by decide +kernel
      intro y hy
      simpa using List.all_eq_true.1 f y (List.mem_range.2 hy)
    simp only [if_true, AP, ALu, Int.toNat_natCast, Kc]
    by_cases c1 : n < 128
    · simp only [c1, if_true]
      rw [show Aj (M + 4) 0 = Aj (M + 4) ((0 : Nat) : Int) from rfl, show (0 : Int) = ((0 : Nat) : Int) from rfl, PZ]
      simp only [IJ]
      rw [show idx Ak ((0 : Nat) : Int) = some (Utf8textForm.mk 0 127 0) from rfl, Option.bind_some, Nat.mod_eq_of_lt (show n < 256 by omega)]
      rw [f0 n c1]
      rw [show wr .i64 (((0 : Nat) : Int) + 1) = 1 from rfl]
      rw [AO (by decide), AO (by decide), AO (by decide), AO (by decide)]
      simp [Y5]
    · simp only [c1, if_false]
      by_cases c2 : n < 2048
      · simp only [c2, if_true]
        rw [show Aj (M + 4) 1 = Aj (M + 4) ((1 : Nat) : Int) from rfl, show (1 : Int) = ((0 + 1 : Nat) : Int) from rfl]
        rw [LK (by omega) (by omega) (by rfl) (by omega), PZ]
        simp only [IJ]
        rw [show idx Ak ((0 + 1 : Nat) : Int) = some (Utf8textForm.mk 192 31 128) from rfl, Option.bind_some, Nat.mod_eq_of_lt (show n / 64 < 256 by omega), f1 _ (by omega)]
        rw [show wr .i64 (((0 + 1 : Nat) : Int) + ((0 + 1 : Nat) : Int)) = 2 from rfl]
        rw [AO (by decide), AO (by decide), AO (by simp), AO (by simp [Ab])]
        rfl
      · simp only [c2, if_false]
        by_cases c3 : n < 65536
        · simp only [c3, if_true]
          rw [show Aj (M + 4) 2 = Aj (M + 4) ((2 : Nat) : Int) from rfl, show (2 : Int) = ((1 + 1 : Nat) : Int) from rfl]
          rw [LK (by omega) (by omega) (by rfl) (by omega), show ((1 : Nat) : Int) = ((0 + 1 : Nat) : Int) from rfl, LK (by omega) (by omega) (by rfl) (by omega), PZ]
          simp only [IJ]
          rw [show idx Ak ((1 + 1 : Nat) : Int) = some (Utf8textForm.mk 224 15 2048) from rfl, Option.bind_some, Nat.mod_eq_of_lt (show n / 64 / 64 < 256 by omega), f2 _ (by omega)]
          rw [show wr .i64 (((1 + 1 : Nat) : Int) + 1) = 3 from rfl]
          rw [AO (by decide), AO (by decide), AO (by simp), AO (by simp [Ab])]
          simp only [Nat.div_div_eq_div_mul]
          rfl
        · simp only [c3, if_false]
          rw [show Aj (M + 4) 3 = Aj (M + 4) ((3 : Nat) : Int) from rfl, show (3 : Int) = ((2 + 1 : Nat) : Int) from rfl]
          rw [LK (by omega) (by omega) (by rfl) (by omega), show ((2 : Nat) : Int) = ((1 + 1 : Nat) : Int) from rfl, LK (by omega) (by omega) (by rfl) (by omega), show ((1 : Nat) : Int) = ((0 + 1 : Nat) : Int) from rfl, LK (by omega) (by omega) (by rfl) (by omega), PZ]
          simp only [IJ]
          rw [show idx Ak ((2 + 1 : Nat) : Int) = some (Utf8textForm.mk 240 7 65536) from rfl, Option.bind_some, Nat.mod_eq_of_lt (show n / 64 / 64 / 64 < 256 by omega), f3 _ (by omega)]
          rw [show wr .i64 (((2 + 1 : Nat) : Int) + 1) = 4 from rfl]
          rw [AO (by decide), AO (by decide), AO (by simp), AO (by simp [Ab])]
          simp only [Nat.div_div_eq_div_mul]
          rfl
end
end Go.VM
namespace Go.VM
def Ok {α : Type} (x : Option α) (P : α → Prop) : Prop := ∃ a, x = some a ∧ P a
section
variable {α β : Type} {P : α → Prop} {Q : β → Prop}
theorem Ok.ret {a : α} (h : P a) : Ok (some a) P := ⟨a, rfl, h⟩
theorem Ok.bind {x : Option β} {f : β → Option α} (h : Ok x Q) (k : ∀ b, Q b → Ok (f b) P) : Ok (Option.bind x f) P := by
  obtain ⟨b, rfl, hb⟩ := h; exact k b hb
theorem Ok.grd {c : Prop} [Decidable c] {x : Option α} (hc : c) (h : Ok x P) : Ok (grd c x) P := by rw [AO hc]; exact h
theorem Ok.meet (J : β → Prop) {k : β → Option α} {body : (β → Option α) → Option α} (hk : ∀ b, J b → Ok (k b) P) (hb : ∀ k' : β → Option α, (∀ b, J b → Ok (k' b) P) → Ok (body k') P) : Ok (AR k body) P := hb k hk
theorem Ok.letL {x : β} {f : β → Option α} (h : Ok (f x) P) : Ok (letL x f) P := h
theorem Ok.mono {x : Option α} {P' : α → Prop} (h : Ok x P) (k : ∀ a, P a → P' a) : Ok x P' := by obtain ⟨a, e, ha⟩ := h; exact ⟨a, e, k a ha⟩
theorem Ok.eq {x : Option α} {a : α} (h : x = some a) : Ok x (· = a) := ⟨a, h, rfl⟩
theorem Ok.idx {l : List α} {i : Int} (h0 : 0 ≤ i) (h1 : i < l.length) : Ok (idx l i) (fun x => l[i.toNat]? = some x) := by
  have : i.toNat < l.length := by omega
  exact ⟨l[i.toNat], by simp [VM.idx, h0, List.getElem?_eq_getElem this], List.getElem?_eq_getElem this⟩
theorem Ok.sub {l : List α} {a b : Int} (h0 : 0 ≤ a) (h1 : a ≤ b) (h2 : b ≤ l.length) : Ok (sub l a b) (fun x => x = (l.drop a.toNat).take (b.toNat - a.toNat) ∧ x.length = (b - a).toNat) := by
  refine ⟨_, by simp [VM.sub, h0, h1, h2], rfl, ?_⟩
  simp; omega
end
end Go.VM
namespace Go.VM
section
variable {N : Nat}
def DT (c : UInt8) : Bool := decide (c.toNat / 64 = 2)
def IP : List UInt8 → Option (Nat × Nat)
  | [] => none
  | a :: t =>
    if a.toNat < 128 then some (a.toNat, 1)
    else if a.toNat / 32 = 6 then
      match t with
      | b :: _ => if DT b = true ∧ 128 ≤ a.toNat % 32 * 64 + b.toNat % 64 then some (a.toNat % 32 * 64 + b.toNat % 64, 2) else none
      | _ => none
    else if a.toNat / 16 = 14 then
      match t with
      | b :: c :: _ => if DT b = true ∧ DT c = true ∧ 2048 ≤ (a.toNat % 16 * 64 + b.toNat % 64) * 64 + c.toNat % 64 ∧ Bp (((a.toNat % 16 * 64 + b.toNat % 64) * 64 + c.toNat % 64 : Nat)) = true then some ((a.toNat % 16 * 64 + b.toNat % 64) * 64 + c.toNat % 64, 3) else none
      | _ => none
    else if a.toNat / 8 = 30 then
      match t with
      | b :: c :: d :: _ => if DT b = true ∧ DT c = true ∧ DT d = true ∧ 65536 ≤ ((a.toNat % 8 * 64 + b.toNat % 64) * 64 + c.toNat % 64) * 64 + d.toNat % 64 ∧ Bp ((((a.toNat % 8 * 64 + b.toNat % 64) * 64 + c.toNat % 64) * 64 + d.toNat % 64 : Nat)) = true then some (((a.toNat % 8 * 64 + b.toNat % 64) * 64 + c.toNat % 64) * 64 + d.toNat % 64, 4) else none
      | _ => none
    else none
def F3 (i : Nat) : Option (Nat × Nat) → Int × Int × Int
  | some (r, n) => ((r : Int), ((i + n : Nat) : Int), 0)
  | none => (0, 0, 7)
theorem NM {α : Type} {l t : List α} {x : α} {i j : Nat} (h : l.drop i = t) (hx : t[j]? = some x) : idx l ((i + j : Nat) : Int) = some x := by
  rw [K8, ← List.getElem?_drop, h, hx]
theorem BG {α : Type} {l t : List α} {i : Nat} (h : l.drop i = t) (hi : i ≤ l.length) : l.length = i + t.length := by
  have := congrArg List.length h
  simp at this; omega
section
variable {l t : List UInt8} {i : Nat} {k13 : Int → Option (Int × Int × Int)}
theorem U4 (hi : i + 10 ≤ 2 ^ 60) {k m j : Nat} {r : Int} (h : m < j) (hj : j ≤ 5) : Ai N l (i : Int) (m : Int) k13 (k + 1) r (j : Int) = k13 r := by
  rw [Ai]
  have : ¬ (j : Int) ≤ m := by omega
  simp [this]
theorem LH (hi : i + 10 ≤ 2 ^ 60) {k m j r : Nat} {x : UInt8} (h : j ≤ m) (hm : m ≤ 3) (ht : l.drop i = t) (hx : t[j]? = some x) (hr : r < 2 ^ 50) :
    Ai N l (i : Int) (m : Int) k13 (k + 1) (r : Int) (j : Int) = if DT x = true then Ai N l (i : Int) (m : Int) k13 k ((r * 64 + x.toNat % 64 : Nat) : Int) ((j + 1 : Nat) : Int) else some (0, 0, 7) := by
  rw [Ai]
  have h1 : (j : Int) ≤ m := by omega
  have h2 : wr .i64 ((i : Int) + (j : Int)) = ((i + j : Nat) : Int) := by rw [Ar (by omega)]; simp
  have h3 : wr .i64 ((j : Int) + 1) = ((j + 1 : Nat) : Int) := by rw [Ar (by omega)]; simp
  have h4 : x.toNat % 64 < 64 := Nat.mod_lt _ (by decide)
  simp only [h1, decide_true, if_true, h2, h3]
  rw [NM ht hx, Option.bind_some, AMc, b63, F5 (by omega), AJp hr h4]
  have h5 : ((((x.toNat / 64 * 64 : Nat) : Int)) != 128) = !DT x := by
    unfold DT
    by_cases hc : x.toNat / 64 = 2
    · rw [hc]; rfl
    · have : ¬ ((x.toNat / 64 * 64 : Nat) : Int) = 128 := by omega
      simp only [hc, decide_false, Bool.not_false, bne_iff_ne, ne_eq]; exact this
  rw [h5]
  cases DT x <;> simp
theorem AMW : idx Ak 0 = some (Utf8textForm.mk 0 127 0) := rfl
theorem AMS : idx Ak 1 = some (Utf8textForm.mk 192 31 128) := rfl
theorem AMd : idx Ak 2 = some (Utf8textForm.mk 224 15 2048) := rfl
theorem AMj : idx Ak 3 = some (Utf8textForm.mk 240 7 65536) := rfl
def ADI (i m least r : Nat) : Int × Int × Int := if least ≤ r ∧ Bp (r : Int) = true then ((r : Int), ((i + m : Nat) : Int), 0) else (0, 0, 7)
theorem AFD (hN : 5 ≤ N) (hi : i < l.length) (hb : l.length + 10 ≤ 2 ^ 60) : FD N l (i : Int) = some (F3 i (IP (l.drop i))) := by
  obtain ⟨M, rfl⟩ : ∃ M, N = M + 5 := ⟨N - 5, by omega⟩
  unfold FD
  have c1 : ¬ ((i : Int) < 0) := by omega
  have c2 : ¬ ((i : Int) ≥ (l.length : Int)) := by omega
  simp only [AP, c1, c2, decide_false, Bool.false_eq_true, if_false]
  rw [AO (by decide)]
  obtain ⟨t, ht⟩ : ∃ t, l.drop i = t := ⟨_, rfl⟩
  have hl := BG ht (by omega)
  cases t with
  | nil => simp at hl; omega
  | cons a t =>
    have ha : idx l (i : Int) = some a := by
      have := NM (j := 0) ht rfl
      simpa using this
    have hat := a.toNat_lt
    simp only [List.length_cons] at hl
    have hw : wr .i64 (wr .i64 ((l.length : Int) - (i : Int)) - 1) = ((t.length : Nat) : Int) := by
      rw [Ar (n := (l.length : Int) - (i : Int)) (by omega), Ar (by omega)]; omega
    have he : ∀ m : Nat, m ≤ 3 → wr .i64 (wr .i64 ((i : Int) + (m : Int)) + 1) = ((i + (m + 1) : Nat) : Int) := by
      intro m hm
      rw [Ar (n := (i : Int) + (m : Int)) (by omega), Ar (by omega)]; omega
    have fin : ∀ (m least r : Nat), m ≤ 3 → (if decide ((r : Int) < (least : Int)) = true then (some (0, 0, 7) : Option (Int × Int × Int)) else Option.bind (EC (M + 5) (r : Int)) fun y22 => if (!y22) = true then some (0, 0, 7) else some ((r : Int), wr .i64 (wr .i64 ((i : Int) + (m : Int)) + 1), 0)) = some (ADI i (m + 1) least r) := by
      intro m least r hm
      rw [TM, Option.bind_some, he m hm]
      unfold ADI
      by_cases h1 : least ≤ r
      · have : ¬ (r : Int) < least := by omega
        cases hp : Bp (r : Int) <;> simp [h1, this, hp]
      · have : (r : Int) < least := by omega
        simp [h1, this]
    rw [ht]
    show BA (M + 5) l (i : Int) _ 4 0 = _
    rw [BA, AMW, Option.bind_some, ha, Option.bind_some, ALt, hw]
    unfold IP
    by_cases h1 : a.toNat < 128
    · have e1 : ((a.toNat / 128 * 128 : Nat) : Int) = 0 := by omega
      have e2 : ¬ ((t.length : Int) < 0) := by omega
      simp only [e1, bne_self_eq_false, Bool.false_eq_true, if_false, e2, decide_false, AP, h1, if_true]
      rw [AMM, Nat.mod_eq_of_lt h1, F5 (by omega)]
      rw [show Ai (M + 5) l (i : Int) 0 = Ai (M + 5) l (i : Int) ((0 : Nat) : Int) from rfl, show (1 : Int) = ((1 : Nat) : Int) from rfl, U4 (by omega) (by omega) (by omega)]
      have := fin 0 0 a.toNat (by omega)
      rw [show ((0 : Nat) : Int) = 0 from rfl] at this
      rw [show ((1 : Nat) : Int) = 1 from rfl, this]
      have hp : Bp (a.toNat : Int) = true := by simp [Bp]; omega
      simp [ADI, hp, F3]
    · have e1 : (((a.toNat / 128 * 128 : Nat) : Int) != 0) = true := by
        have : ¬ ((a.toNat / 128 * 128 : Nat) : Int) = 0 := by omega
        simpa using this
      simp only [e1, if_true, h1, if_false]
      rw [show (0 : Int) + 1 = 1 from rfl, BA, AMS, Option.bind_some, ha, Option.bind_some, AMf, hw]
      by_cases h2 : a.toNat / 32 = 6
      · rw [h2]
        simp only [show (((6 * 32 : Nat) : Int) != 192) = false from rfl, Bool.false_eq_true, if_false, if_true]
        cases t with
        | nil => simp [F3]
        | cons b t =>
          have e2 : ¬ ((((b :: t).length : Nat) : Int) < 1) := by simp only [List.length_cons]; omega
          simp only [e2, decide_false, Bool.false_eq_true, if_false, AP]
          rw [b31, F5 (by omega)]
          rw [show Ai (M + 5) l (i : Int) 1 = Ai (M + 5) l (i : Int) ((1 : Nat) : Int) from rfl, show (1 : Int) = ((1 : Nat) : Int) from rfl]
          rw [LH (by omega) (Nat.le_refl _) (by omega) ht rfl (by omega)]
          cases hc : DT b with
          | false => simp [hc, F3]
          | true =>
            simp only [if_true, true_and]
            rw [U4 (by omega) (by omega) (by omega)]
            have := fin 1 128 (a.toNat % 32 * 64 + b.toNat % 64) (by omega)
            rw [show ((1 : Nat) : Int) = 1 from rfl] at this
            rw [show ((1 : Nat) : Int) = 1 from rfl]
            refine this.trans ?_
            have hp : Bp ((a.toNat % 32 * 64 + b.toNat % 64 : Nat) : Int) = true := by
              have : a.toNat % 32 < 32 := Nat.mod_lt _ (by decide)
              have : b.toNat % 64 < 64 := Nat.mod_lt _ (by decide)
              simp [Bp]; omega
            simp only [ADI, hp, and_true]
            split <;> simp [F3]
      · have e1 : (((a.toNat / 32 * 32 : Nat) : Int) != 192) = true := by
          have : ¬ ((a.toNat / 32 * 32 : Nat) : Int) = 192 := by omega
          simpa using this
        simp only [e1, if_true, h2, if_false]
        rw [show (1 : Int) + 1 = 2 from rfl, BA, AMd, Option.bind_some, ha, Option.bind_some, AMJ, hw]
        by_cases h3 : a.toNat / 16 = 14
        · rw [h3]
          simp only [show (((14 * 16 : Nat) : Int) != 224) = false from rfl, Bool.false_eq_true, if_false, if_true]
          match t, ht, hl with
          | [], ht, hl => simp [F3]
          | [b], ht, hl => simp [F3]
          | b :: c :: t, ht, hl =>
            have e2 : ¬ ((((b :: c :: t).length : Nat) : Int) < 2) := by simp only [List.length_cons]; omega
            simp only [e2, decide_false, Bool.false_eq_true, if_false, AP]
            rw [b15, F5 (by omega)]
            rw [show Ai (M + 5) l (i : Int) 2 = Ai (M + 5) l (i : Int) ((2 : Nat) : Int) from rfl, show (1 : Int) = ((1 : Nat) : Int) from rfl]
            rw [LH (by omega) (by omega) (by omega) ht rfl (by omega)]
            cases hc : DT b with
            | false => simp [hc, F3]
            | true =>
              simp only [if_true, true_and]
              rw [LH (by omega) (by omega) (by omega) ht rfl (by omega)]
              cases hc2 : DT c with
              | false => simp [hc2, F3]
              | true =>
                simp only [if_true, true_and]
                rw [U4 (by omega) (by omega) (by omega)]
                have := fin 2 2048 ((a.toNat % 16 * 64 + b.toNat % 64) * 64 + c.toNat % 64) (by omega)
                rw [show ((2 : Nat) : Int) = 2 from rfl] at this
                refine this.trans ?_
                simp only [ADI]
                split <;> simp [F3]
        · have e1 : (((a.toNat / 16 * 16 : Nat) : Int) != 224) = true := by
            have : ¬ ((a.toNat / 16 * 16 : Nat) : Int) = 224 := by omega
            simpa using this
          simp only [e1, if_true, h3, if_false]
          rw [show (2 : Int) + 1 = 3 from rfl, BA, AMj, Option.bind_some, ha, Option.bind_some, bn7, hw]
          by_cases h4 : a.toNat / 8 = 30
          · rw [h4]
            simp only [show (((30 * 8 : Nat) : Int) != 240) = false from rfl, Bool.false_eq_true, if_false, if_true]
            match t, ht, hl with
            | [], ht, hl => simp [F3]
            | [b], ht, hl => simp [F3]
            | [b, c], ht, hl => simp [F3]
            | b :: c :: d :: t, ht, hl =>
              have e2 : ¬ ((((b :: c :: d :: t).length : Nat) : Int) < 3) := by simp only [List.length_cons]; omega
              simp only [e2, decide_false, Bool.false_eq_true, if_false, AP]
              rw [b7, F5 (by omega)]
              rw [show Ai (M + 5) l (i : Int) 3 = Ai (M + 5) l (i : Int) ((3 : Nat) : Int) from rfl, show (1 : Int) = ((1 : Nat) : Int) from rfl]
              rw [LH (by omega) (by omega) (by omega) ht rfl (by omega)]
              cases hc : DT b with
              | false => simp [hc, F3]
              | true =>
                simp only [if_true, true_and]
                rw [LH (by omega) (by omega) (by omega) ht rfl (by omega)]
                cases hc2 : DT c with
                | false => simp [hc2, F3]
                | true =>
                  simp only [if_true, true_and]
                  rw [LH (by omega) (by omega) (by omega) ht rfl (by omega)]
                  cases hc3 : DT d with
                  | false => simp [hc3, F3]
                  | true =>
                    simp only [if_true, true_and]
                    rw [U4 (by omega) (by omega) (by omega)]
                    have := fin 3 65536 (((a.toNat % 8 * 64 + b.toNat % 64) * 64 + c.toNat % 64) * 64 + d.toNat % 64) (by omega)
                    rw [show ((3 : Nat) : Int) = 3 from rfl] at this
                    refine this.trans ?_
                    simp only [ADI]
                    split <;> simp [F3]
          · have e1 : (((a.toNat / 8 * 8 : Nat) : Int) != 240) = true := by
              have : ¬ ((a.toNat / 8 * 8 : Nat) : Int) = 240 := by omega
              simpa using this
            simp only [e1, if_true, h4, if_false]
            rw [BA]
            rfl
end
end
end Go.VM
namespace Go.VM
section
variable {N : Nat}
theorem AMe {a : Nat} (h : a < 256) : BM .i64 (a : Int) 31 = ((a % 32 : Nat) : Int) := Mq 5 (by omega) (by decide)
theorem AMK {a : Nat} (h : a < 256) : BM .i64 (a : Int) 15 = ((a % 16 : Nat) : Int) := Mq 4 (by omega) (by decide)
theorem b7' {a : Nat} (h : a < 256) : BM .i64 (a : Int) 7 = ((a % 8 : Nat) : Int) := Mq 3 (by omega) (by decide)
theorem NY {x : List UInt8} {k4 : Int → Option Int} {k j r : Nat} {c : UInt8} (hx : x[j]? = some c) (hr : r < 2 ^ 50) :
    Bj N x k4 (k + 1) (j : Int) (r : Int) = Bj N x k4 k ((j + 1 : Nat) : Int) ((r * 64 + c.toNat % 64 : Nat) : Int) := by
  have hc := c.toNat_lt
  rw [Bj, K8, hx, Option.bind_some, IC, F5 (by omega), Kz (by omega), AJp hr (Nat.mod_lt _ (by decide))]
  simp
def UI : List UInt8 → Nat
  | [a] => a.toNat
  | [a, b] => a.toNat % 32 * 64 + b.toNat % 64
  | [a, b, c] => (a.toNat % 16 * 64 + b.toNat % 64) * 64 + c.toNat % 64
  | [a, b, c, d] => ((a.toNat % 8 * 64 + b.toNat % 64) * 64 + c.toNat % 64) * 64 + d.toNat % 64
  | _ => 0
theorem ACI (x : List UInt8) (h0 : 0 < x.length) (h4 : x.length ≤ 4) : Es N x = some (UI x : Int) := by
  match x, h0, h4 with
  | [a], _, _ =>
    have ha := a.toNat_lt
    unfold Es
    rw [show ((([a] : List UInt8).length : Int) == 1) = true from rfl, if_pos rfl, show idx [a] 0 = some a from rfl, Option.bind_some, IC, F5 (by omega)]
    rfl
  | [a, b], _, _ =>
    have ha := a.toNat_lt
    unfold Es
    rw [show ((([a, b] : List UInt8).length : Int) == 1) = false from rfl, if_neg (by decide), show idx [a, b] 0 = some a from rfl, Option.bind_some, IC]
    rw [AO (by show ¬ ((5 : Int) < 0); decide), AP, AO (by show (-4611686018427387904 : Int) ≤ 1 ∧ (2 : Int) ≤ 4611686018427387904; decide), F5 (by omega)]
    rw [show wr .i64 (MM .i64 1 (wr .i64 (7 - (([a, b] : List UInt8).length : Int))) - 1) = 31 from rfl, AMe (by omega)]
    rw [show ((([a, b] : List UInt8).length : Int) - 1).toNat = 0 + 1 from rfl, show (1 : Int) = ((1 : Nat) : Int) from rfl]
    rw [NY (c := b) rfl (by omega), Bj]
    rfl
  | [a, b, c], _, _ =>
    have ha := a.toNat_lt
    unfold Es
    rw [show ((([a, b, c] : List UInt8).length : Int) == 1) = false from rfl, if_neg (by decide), show idx [a, b, c] 0 = some a from rfl, Option.bind_some, IC]
    rw [AO (by show ¬ ((4 : Int) < 0); decide), AP, AO (by show (-4611686018427387904 : Int) ≤ 1 ∧ (3 : Int) ≤ 4611686018427387904; decide), F5 (by omega)]
    rw [show wr .i64 (MM .i64 1 (wr .i64 (7 - (([a, b, c] : List UInt8).length : Int))) - 1) = 15 from rfl, AMK (by omega)]
    rw [show ((([a, b, c] : List UInt8).length : Int) - 1).toNat = 0 + 1 + 1 from rfl, show (1 : Int) = ((1 : Nat) : Int) from rfl]
    rw [NY (c := b) rfl (by omega), NY (c := c) rfl (by omega), Bj]
    rfl
  | [a, b, c, d], _, _ =>
    have ha := a.toNat_lt
    unfold Es
    rw [show ((([a, b, c, d] : List UInt8).length : Int) == 1) = false from rfl, if_neg (by decide), show idx [a, b, c, d] 0 = some a from rfl, Option.bind_some, IC]
    rw [AO (by show ¬ ((3 : Int) < 0); decide), AP, AO (by show (-4611686018427387904 : Int) ≤ 1 ∧ (4 : Int) ≤ 4611686018427387904; decide), F5 (by omega)]
    rw [show wr .i64 (MM .i64 1 (wr .i64 (7 - (([a, b, c, d] : List UInt8).length : Int))) - 1) = 7 from rfl, b7' (by omega)]
    rw [show ((([a, b, c, d] : List UInt8).length : Int) - 1).toNat = 0 + 1 + 1 + 1 from rfl, show (1 : Int) = ((1 : Nat) : Int) from rfl]
    rw [NY (c := b) rfl (by omega), NY (c := c) rfl (by omega), NY (c := d) rfl (by omega), Bj]
    rfl
def RQ (x : List UInt8) : Bool := Bp (UI x : Int) && (Kc (UI x) == x)
theorem Pj {l : List UInt8} {i j k : Nat} {k6 : Unit → Option (Int × Int × Int)} (hi : i + 10 ≤ 2 ^ 60) (h1 : 1 ≤ j) (h4 : j ≤ 4) :
    CP N l (i : Int) k6 (k + 1) (j : Int) = if i + j ≤ l.length then (if RQ ((l.drop i).take j) = true then some ((UI ((l.drop i).take j) : Int), ((i + j : Nat) : Int), 0) else CP N l (i : Int) k6 k ((j + 1 : Nat) : Int)) else k6 () := by
  rw [CP, AP]
  have e1 : (j : Int) ≤ 4 := by omega
  have e2 : wr .i64 ((i : Int) + (j : Int)) = ((i + j : Nat) : Int) := by rw [Ar (by omega)]; simp
  have e3 : wr .i64 ((j : Int) + 1) = ((j + 1 : Nat) : Int) := by rw [Ar (by omega)]; simp
  simp only [e1, decide_true, if_true, e2, e3]
  by_cases h : i + j ≤ l.length
  · have h' : ((i + j : Nat) : Int) ≤ (l.length : Int) := by omega
    simp only [h, h', decide_true, if_true]
    rw [Dj l i (i + j) (by omega) h, Option.bind_some, Nat.add_sub_cancel_left]
    have hl : ((l.drop i).take j).length = j := by simp; omega
    rw [ACI _ (by omega) (by omega), Option.bind_some, AFZ, Option.bind_some, AP]
    unfold RQ encR
    cases hp : Bp (UI ((l.drop i).take j) : Int)
    · simp
    · simp only [if_true, Int.toNat_natCast, Bool.true_and, beq_self_eq_true]
  · have h' : ¬ ((i + j : Nat) : Int) ≤ (l.length : Int) := by omega
    simp only [h, h', decide_false, if_false, Bool.false_eq_true]
theorem Xl (a : UInt8) : RQ [a] = true ↔ a.toNat < 128 := by
  have ha := a.toNat_lt
  have hp : Bp (a.toNat : Int) = true := by simp [Bp]; omega
  simp only [RQ, UI, hp, Bool.true_and, Kc]
  by_cases h : a.toNat < 128
  · simp [h]
  · have : a.toNat < 2048 := by omega
    simp [h, this]
theorem NQ {n : Nat} {a : UInt8} (h : n < 256) : UInt8.ofNat n = a ↔ n = a.toNat := by
  rw [ALb, toNat_ofNat h]
theorem Pz (b : UInt8) : DT b = true ↔ 128 + b.toNat % 64 = b.toNat := by
  have := b.toNat_lt
  simp only [DT, decide_eq_true_eq]; omega
theorem hit2 (a b : UInt8) : RQ [a, b] = true ↔ a.toNat / 32 = 6 ∧ DT b = true ∧ 128 ≤ a.toNat % 32 * 64 + b.toNat % 64 := by
  have ha := a.toNat_lt
  have hb := b.toNat_lt
  have hp : Bp ((a.toNat % 32 * 64 + b.toNat % 64 : Nat) : Int) = true := by simp [Bp]; omega
  simp only [RQ, UI, hp, Bool.true_and, Kc, Pz]
  by_cases h : a.toNat % 32 * 64 + b.toNat % 64 < 128
  · simp [h]
  · have h2 : a.toNat % 32 * 64 + b.toNat % 64 < 2048 := by omega
    simp only [h, h2, if_true, if_false, beq_iff_eq, List.cons.injEq, and_true]
    rw [NQ (by omega), NQ (by omega)]
    omega
theorem hit3 (a b c : UInt8) : RQ [a, b, c] = true ↔ a.toNat / 16 = 14 ∧ DT b = true ∧ DT c = true ∧ 2048 ≤ (a.toNat % 16 * 64 + b.toNat % 64) * 64 + c.toNat % 64 ∧ Bp (((a.toNat % 16 * 64 + b.toNat % 64) * 64 + c.toNat % 64 : Nat)) = true := by
  have ha := a.toNat_lt
  have hb := b.toNat_lt
  have hc := c.toNat_lt
  simp only [RQ, UI, Kc, Pz, Bool.and_eq_true]
  by_cases h0 : (a.toNat % 16 * 64 + b.toNat % 64) * 64 + c.toNat % 64 < 128
  · simp [h0]; omega
  by_cases h1 : (a.toNat % 16 * 64 + b.toNat % 64) * 64 + c.toNat % 64 < 2048
  · simp [h0, h1]; omega
  · have h2 : (a.toNat % 16 * 64 + b.toNat % 64) * 64 + c.toNat % 64 < 65536 := by omega
    simp only [h0, h1, h2, if_true, if_false, beq_iff_eq, List.cons.injEq, and_true]
    rw [NQ (by omega), NQ (by omega), NQ (by omega)]
    constructor
    · rintro ⟨hp, h⟩; exact ⟨by omega, by omega, by omega, by omega, hp⟩
    · rintro ⟨h, h', h'', _, hp⟩; exact ⟨hp, by omega, by omega, by omega⟩
theorem AGv (a b c d : UInt8) : RQ [a, b, c, d] = true ↔ a.toNat / 8 = 30 ∧ DT b = true ∧ DT c = true ∧ DT d = true ∧ 65536 ≤ ((a.toNat % 8 * 64 + b.toNat % 64) * 64 + c.toNat % 64) * 64 + d.toNat % 64 ∧ Bp ((((a.toNat % 8 * 64 + b.toNat % 64) * 64 + c.toNat % 64) * 64 + d.toNat % 64 : Nat)) = true := by
  have ha := a.toNat_lt
  have hb := b.toNat_lt
  have hc := c.toNat_lt
  have hd := d.toNat_lt
  simp only [RQ, UI, Kc, Pz, Bool.and_eq_true]
  by_cases h0 : ((a.toNat % 8 * 64 + b.toNat % 64) * 64 + c.toNat % 64) * 64 + d.toNat % 64 < 128
  · simp [h0]; omega
  by_cases h1 : ((a.toNat % 8 * 64 + b.toNat % 64) * 64 + c.toNat % 64) * 64 + d.toNat % 64 < 2048
  · simp [h0, h1]; omega
  by_cases h2 : ((a.toNat % 8 * 64 + b.toNat % 64) * 64 + c.toNat % 64) * 64 + d.toNat % 64 < 65536
  · simp [h0, h1, h2]; omega
  · simp only [h0, h1, h2, if_true, if_false, beq_iff_eq, List.cons.injEq, and_true]
    rw [NQ (by omega), NQ (by omega), NQ (by omega), NQ (by omega)]
    constructor
    · rintro ⟨hp, h⟩; exact ⟨by omega, by omega, by omega, by omega, by omega, hp⟩
    · rintro ⟨h, h', h'', h3, _, hp⟩; exact ⟨hp, by omega, by omega, by omega, by omega⟩
theorem AId {l : List UInt8} {i k : Nat} {k6 : Unit → Option (Int × Int × Int)} : CP N l (i : Int) k6 (k + 1) ((4 + 1 : Nat) : Int) = k6 () := by
  rw [CP, AP]; rfl
theorem Dt {b : Bool} {p : Prop} (h : b = true ↔ p) (k : ¬ p) : b = false := by
  cases b
  · rfl
  · exact absurd (h.1 rfl) k
theorem AFf {l : List UInt8} {i : Nat} (hN : 5 ≤ N) (hi : i < l.length) (hb : l.length + 10 ≤ 2 ^ 60) : Gc N l (i : Int) = some (F3 i (IP (l.drop i))) := by
  obtain ⟨M, rfl⟩ : ∃ M, N = M + 1 + 1 + 1 + 1 + 1 := ⟨N - 5, by omega⟩
  unfold Gc
  have c1 : ¬ ((i : Int) < 0) := by omega
  have c2 : ¬ ((i : Int) ≥ (l.length : Int)) := by omega
  simp only [AP, c1, c2, decide_false, Bool.false_eq_true, if_false]
  rw [show (1 : Int) = ((1 : Nat) : Int) from rfl, Pj (by omega) (by omega) (by omega), Pj (by omega) (by omega) (by omega), Pj (by omega) (by omega) (by omega), Pj (by omega) (by omega) (by omega), AId]
  obtain ⟨t, ht⟩ : ∃ t, l.drop i = t := ⟨_, rfl⟩
  have hl := BG ht (by omega)
  rw [ht]
  match t, hl with
  | [], hl => simp at hl; omega
  | [a], hl =>
    simp only [List.length_cons, List.length_nil] at hl
    have e1 : i + 1 ≤ l.length := by omega
    have e2 : ¬ i + (1 + 1) ≤ l.length := by omega
    simp only [e1, e2, if_true, if_false, List.take]
    simp only [IP]
    by_cases h1 : a.toNat < 128
    · rw [if_pos ((Xl a).2 h1), if_pos h1]; rfl
    · rw [Dt (Xl a) h1]
      simp [h1, F3]
      repeat' split
      all_goals rfl
  | [a, b], hl =>
    simp only [List.length_cons, List.length_nil] at hl
    have e1 : i + 1 ≤ l.length := by omega
    have e2 : i + (1 + 1) ≤ l.length := by omega
    have e3 : ¬ i + (1 + 1 + 1) ≤ l.length := by omega
    simp only [e1, e2, e3, if_true, if_false, List.take]
    simp only [IP]
    by_cases h1 : a.toNat < 128
    · rw [if_pos ((Xl a).2 h1), if_pos h1]; rfl
    · rw [Dt (Xl a) h1]
      simp only [Bool.false_eq_true, if_false, h1]
      by_cases h2 : a.toNat / 32 = 6
      · simp only [h2, if_true]
        by_cases k : DT b = true ∧ 128 ≤ a.toNat % 32 * 64 + b.toNat % 64
        · rw [if_pos ((hit2 a b).2 ⟨h2, k⟩), if_pos k]; rfl
        · rw [Dt (hit2 a b) (fun h => k h.2), if_neg k]; rfl
      · rw [Dt (hit2 a b) (fun h => h2 h.1)]
        simp only [Bool.false_eq_true, if_false, h2, ite_self, F3]
  | [a, b, c], hl =>
    simp only [List.length_cons, List.length_nil] at hl
    have e1 : i + 1 ≤ l.length := by omega
    have e2 : i + (1 + 1) ≤ l.length := by omega
    have e3 : i + (1 + 1 + 1) ≤ l.length := by omega
    have e4 : ¬ i + (1 + 1 + 1 + 1) ≤ l.length := by omega
    simp only [e1, e2, e3, e4, if_true, if_false, List.take]
    simp only [IP]
    by_cases h1 : a.toNat < 128
    · rw [if_pos ((Xl a).2 h1), if_pos h1]; rfl
    · rw [Dt (Xl a) h1]
      simp only [Bool.false_eq_true, if_false, h1]
      by_cases h2 : a.toNat / 32 = 6
      · have h3 : ¬ a.toNat / 16 = 14 := by omega
        simp only [h2, if_true, Dt (hit3 a b c) (fun h => h3 h.1), Bool.false_eq_true, if_false]
        by_cases k : DT b = true ∧ 128 ≤ a.toNat % 32 * 64 + b.toNat % 64
        · rw [if_pos ((hit2 a b).2 ⟨h2, k⟩), if_pos k]; rfl
        · rw [Dt (hit2 a b) (fun h => k h.2), if_neg k]; rfl
      · rw [Dt (hit2 a b) (fun h => h2 h.1)]
        simp only [Bool.false_eq_true, if_false, h2]
        by_cases h3 : a.toNat / 16 = 14
        · simp only [h3, if_true]
          by_cases k : DT b = true ∧ DT c = true ∧ 2048 ≤ (a.toNat % 16 * 64 + b.toNat % 64) * 64 + c.toNat % 64 ∧ Bp (((a.toNat % 16 * 64 + b.toNat % 64) * 64 + c.toNat % 64 : Nat)) = true
          · rw [if_pos ((hit3 a b c).2 ⟨h3, k⟩), if_pos k]; rfl
          · rw [if_neg (fun e => k ((hit3 a b c).1 e).2), if_neg k]; rfl
        · rw [Dt (hit3 a b c) (fun h => h3 h.1)]
          simp only [Bool.false_eq_true, if_false, h3, ite_self, F3]
  | a :: b :: c :: d :: t, hl =>
    simp only [List.length_cons] at hl
    have e1 : i + 1 ≤ l.length := by omega
    have e2 : i + (1 + 1) ≤ l.length := by omega
    have e3 : i + (1 + 1 + 1) ≤ l.length := by omega
    have e4 : i + (1 + 1 + 1 + 1) ≤ l.length := by omega
    rw [show List.take 1 (a :: b :: c :: d :: t) = [a] from rfl, show List.take (1 + 1) (a :: b :: c :: d :: t) = [a, b] from rfl, show List.take (1 + 1 + 1) (a :: b :: c :: d :: t) = [a, b, c] from rfl, show List.take (1 + 1 + 1 + 1) (a :: b :: c :: d :: t) = [a, b, c, d] from rfl]
    simp only [e1, e2, e3, e4, if_true, if_false]
    simp only [IP]
    by_cases h1 : a.toNat < 128
    · rw [if_pos ((Xl a).2 h1), if_pos h1]; rfl
    · rw [Dt (Xl a) h1]
      simp only [Bool.false_eq_true, if_false, h1]
      by_cases h2 : a.toNat / 32 = 6
      · have h3 : ¬ a.toNat / 16 = 14 := by omega
        have h4 : ¬ a.toNat / 8 = 30 := by omega
        simp only [h2, if_true, Dt (hit3 a b c) (fun h => h3 h.1), Dt (AGv a b c d) (fun h => h4 h.1), Bool.false_eq_true, if_false]
        by_cases k : DT b = true ∧ 128 ≤ a.toNat % 32 * 64 + b.toNat % 64
        · rw [if_pos ((hit2 a b).2 ⟨h2, k⟩), if_pos k]; rfl
        · rw [Dt (hit2 a b) (fun h => k h.2), if_neg k]; rfl
      · rw [Dt (hit2 a b) (fun h => h2 h.1)]
        simp only [Bool.false_eq_true, if_false, h2]
        by_cases h3 : a.toNat / 16 = 14
        · have h4 : ¬ a.toNat / 8 = 30 := by omega
          simp only [h3, if_true, Dt (AGv a b c d) (fun h => h4 h.1), Bool.false_eq_true, if_false]
          by_cases k : DT b = true ∧ DT c = true ∧ 2048 ≤ (a.toNat % 16 * 64 + b.toNat % 64) * 64 + c.toNat % 64 ∧ Bp (((a.toNat % 16 * 64 + b.toNat % 64) * 64 + c.toNat % 64 : Nat)) = true
          · rw [if_pos ((hit3 a b c).2 ⟨h3, k⟩), if_pos k]; rfl
          · rw [if_neg (fun e => k ((hit3 a b c).1 e).2), if_neg k]; rfl
        · rw [Dt (hit3 a b c) (fun h => h3 h.1)]
          simp only [Bool.false_eq_true, if_false, h3]
          by_cases h4 : a.toNat / 8 = 30
          · simp only [h4, if_true]
            by_cases k : DT b = true ∧ DT c = true ∧ DT d = true ∧ 65536 ≤ ((a.toNat % 8 * 64 + b.toNat % 64) * 64 + c.toNat % 64) * 64 + d.toNat % 64 ∧ Bp ((((a.toNat % 8 * 64 + b.toNat % 64) * 64 + c.toNat % 64) * 64 + d.toNat % 64 : Nat)) = true
            · rw [if_pos ((AGv a b c d).2 ⟨h4, k⟩), if_pos k]; rfl
            · rw [if_neg (fun e => k ((AGv a b c d).1 e).2), if_neg k]; rfl
          · rw [if_neg (fun e => h4 ((AGv a b c d).1 e).1), if_neg h4]; rfl
end
end Go.VM
namespace Go.VM
section
variable {N : Nat}
theorem Co {α : Type} [DecidableEq α] {f g : Nat → α} (h : (List.range 256).all (fun n => decide (f n = g n)) = true) (c : UInt8) : f c.toNat = g c.toNat := by
  have := List.all_eq_true.1 h c.toNat (List.mem_range.2 c.toNat_lt)
  simpa using this
def AAl (n : Nat) : Bool := (decide (48 ≤ n) && decide (n ≤ 57)) || (decide (65 ≤ n) && decide (n ≤ 70)) || (decide (97 ≤ n) && decide (n ≤ 102))
def J6 (c : UInt8) : Bool := AAl c.toNat
def Em (n : Nat) : Nat := if n ≤ 57 then n - 48 else if n ≤ 70 then n - 55 else n - 87
theorem ABw (c : UInt8) (h : J6 c = true) : Em c.toNat < 16 := by
  simp only [J6, AAl, Bool.or_eq_true, Bool.and_eq_true, decide_eq_true_eq] at h
  unfold Em; split <;> (try split) <;> omega
theorem AIg (c : UInt8) : H8 N (AL c) = some (J6 c) :=
  Co (f := fun n => H8 N (n : Int)) (g := fun n => some (AAl n)) (by kernel_rfl) c
theorem ABa (c : UInt8) (h : J6 c = true) : Fv N (AL c) = some ((Em c.toNat : Nat) : Int) := by
  have := Co (f := fun n => if AAl n = true then Fv N (n : Int) else none) (g := fun n => if AAl n = true then some ((Em n : Nat) : Int) else none) (by kernel_rfl) c
  simp only [show AAl c.toNat = true from h, if_true] at this
  exact this
def Vl (n : Nat) : List UInt8 → Nat
  | [] => n
  | c :: l => Vl (n * 16 + Em c.toNat) l
theorem PX : ∀ (l : List UInt8) (n : Nat), l.all J6 = true → Vl n l < (n + 1) * 16 ^ l.length
  | [], n, _ => by simp [Vl]
  | c :: l, n, h => by
    simp only [List.all_cons, Bool.and_eq_true] at h
    have := PX l (n * 16 + Em c.toNat) h.2
    have hd := ABw c h.1
    rw [Vl, List.length_cons, Nat.pow_succ]
    have e : (n * 16 + Em c.toNat + 1) * 16 ^ l.length ≤ (n + 1) * 16 * 16 ^ l.length := Nat.mul_le_mul_right _ (by omega)
    have : (n + 1) * 16 * 16 ^ l.length = (n + 1) * (16 ^ l.length * 16) := by rw [Nat.mul_assoc, Nat.mul_comm 16]
    omega
theorem AJg (k2 : Unit → Option (Int × Int)) : ∀ l : List UInt8, Am N k2 l = if l.all J6 = true then k2 () else some (0, 1)
  | [] => by rw [Am]; rfl
  | c :: l => by
    rw [Am, AIg, Option.bind_some, AJg k2 l]
    cases h : J6 c <;> simp [h]
theorem AJi (k9 : Int → Option (Int × Int)) : ∀ (l : List UInt8) (n : Nat), l.all J6 = true → (n + 1) * 16 ^ l.length ≤ 65536 → Al N 16 65535 k9 l (n : Int) = k9 ((Vl n l : Nat) : Int)
  | [], n, _, _ => by rw [Al]; rfl
  | c :: l, n, h, hn => by
    simp only [List.all_cons, Bool.and_eq_true] at h
    have hd := ABw c h.1
    have hv := PX [] (n * 16 + Em c.toNat) rfl
    rw [List.length_cons, Nat.pow_succ] at hn
    have hp : 1 ≤ 16 ^ l.length := Nat.one_le_pow _ _ (by decide)
    have e : (n * 16 + Em c.toNat + 1) * 16 ^ l.length ≤ 65536 := by
      have e1 : (n * 16 + Em c.toNat + 1) * 16 ^ l.length ≤ (n + 1) * 16 * 16 ^ l.length := Nat.mul_le_mul_right _ (by omega)
      have e2 : (n + 1) * 16 * 16 ^ l.length = (n + 1) * (16 ^ l.length * 16) := by rw [Nat.mul_assoc, Nat.mul_comm 16]
      omega
    have e3 : n * 16 + Em c.toNat + 1 ≤ 65536 := by
      have : (n * 16 + Em c.toNat + 1) * 1 ≤ (n * 16 + Em c.toNat + 1) * 16 ^ l.length := Nat.mul_le_mul_left _ hp
      omega
    rw [Al, ABa c h.1, Option.bind_some, AP, AO (by decide)]
    have w1 : wr .u64 ((n : Int) * 16) = ((n * 16 : Nat) : Int) := by rw [IG (by omega)]; simp
    have w2 : wr .u64 (((n * 16 : Nat) : Int) + ((Em c.toNat : Nat) : Int)) = ((n * 16 + Em c.toNat : Nat) : Int) := by rw [IG (by omega)]; simp
    have w3 : wr .u64 (18446744073709551615 - ((Em c.toNat : Nat) : Int)) = 18446744073709551615 - ((Em c.toNat : Nat) : Int) := IG (by omega)
    rw [w1, w2, w3, Int.tdiv_eq_ediv_of_nonneg (by omega), IG (by omega)]
    have c1 : ¬ ((n : Int) > (18446744073709551615 - ((Em c.toNat : Nat) : Int)) / 16) := by omega
    have c2 : ¬ (((n * 16 + Em c.toNat : Nat) : Int) > 65535) := by omega
    simp only [c1, c2, decide_false, Bool.false_eq_true, if_false]
    rw [AJi k9 l _ h.2 e]; rfl
def AEG (l : List UInt8) : Int × Int := if l.all J6 = true then ((Vl 0 l : Nat), 0) else (0, 1)
theorem AEh (l : List UInt8) (h0 : l ≠ []) (h4 : l.length ≤ 4) : Iw N l 65535 = some (AEG l) := by
  unfold Iw DN AEG
  have e : (l == []) = false := by simpa using h0
  rw [e]
  simp only [Bool.false_eq_true, if_false, AP]
  rw [AO (by unfold Ab; omega), AO (by unfold Ab; omega), AJg]
  by_cases h : l.all J6 = true
  · rw [if_pos h, if_pos h, show (0 : Int) = ((0 : Nat) : Int) from rfl, AJi _ l 0 h (by
      have : 16 ^ l.length ≤ 16 ^ 4 := Nat.pow_le_pow_right (by decide) h4
      omega)]
    rfl
  · rw [if_neg h, if_neg h]; rfl
end
end Go.VM
