/- Plain facts on bytes and bits. -/
import Derived.Test.YtbmilkoebhmnnaaGreatDoorBase
set_option linter.unusedVariables false
set_option linter.unusedSimpArgs false
namespace Go.VM
theorem bord_nat (c : UInt8) : bord c = (c.toNat : Int) := rfl
theorem bchr_bord (c : UInt8) : bchr (bord c) = c := by simp [bchr, bord]
theorem u8_eq {a b : UInt8} : a = b ↔ a.toNat = b.toNat := ⟨fun h => by rw [h], UInt8.toNat_inj.1⟩
theorem toNat_ofNat {n : Nat} (h : n < 256) : (UInt8.ofNat n).toNat = n := by simp; omega
/-- a fact of every byte, looked up -/
theorem all_bytes {P : Nat → Prop} [∀ n, Decidable (P n)] (h : (List.range 256).all (fun n => decide (P n)) = true) (c : UInt8) : P c.toNat := by
  have := List.all_eq_true.1 h c.toNat (List.mem_range.2 c.toNat_lt)
  simpa using this
theorem wr_u8 {n : Int} (h : 0 ≤ n ∧ n < 256) : wr .u8 n = n := by
  simp [wr, IntKind.wrap, IntKind.bits, IntKind.signed]; omega
theorem wr_u64 {n : Int} (h : 0 ≤ n ∧ n < 18446744073709551616) : wr .u64 n = n := by
  simp [wr, IntKind.wrap, IntKind.bits, IntKind.signed]; omega
theorem ofInt64 {x : Nat} (h : x < 2 ^ 63) : (BitVec.ofInt 64 (x : Int)).toNat = x := by
  rw [BitVec.toNat_ofInt]; simp; omega
theorem or_i64 {x y : Nat} (hx : x < 2 ^ 62) (hy : y < 2 ^ 62) : borI .i64 x y = ((x ||| y : Nat) : Int) := by
  have h : x ||| y < 2 ^ 62 := Nat.or_lt_two_pow hx hy
  show IntKind.i64.wrap (((BitVec.ofInt 64 (x : Int) ||| BitVec.ofInt 64 (y : Int) : BitVec 64).toNat : Nat) : Int) = _
  rw [BitVec.toNat_or, ofInt64 (by omega), ofInt64 (by omega)]
  simp [IntKind.wrap, IntKind.bits, IntKind.signed]; omega
theorem and_i64 {x y : Nat} (hx : x < 2 ^ 62) (hy : y < 2 ^ 62) : bandI .i64 x y = ((x &&& y : Nat) : Int) := by
  have h : x &&& y < 2 ^ 62 := Nat.and_lt_two_pow _ hy
  show IntKind.i64.wrap (((BitVec.ofInt 64 (x : Int) &&& BitVec.ofInt 64 (y : Int) : BitVec 64).toNat : Nat) : Int) = _
  rw [BitVec.toNat_and, ofInt64 (by omega), ofInt64 (by omega)]
  simp [IntKind.wrap, IntKind.bits, IntKind.signed]; omega
/-- low bits put into a number that has none -/
theorem or_add {q y : Nat} (k : Nat) (h : y < 2 ^ k) : (q * 2 ^ k) ||| y = q * 2 ^ k + y := by
  rw [← Nat.shiftLeft_eq, Nat.shiftLeft_add_eq_or_of_lt h]
theorem bor_add {q y : Nat} (k : Nat) (h : y < 2 ^ k) (hx : q * 2 ^ k < 2 ^ 62) (hy : y < 2 ^ 62) : borI .i64 ((q * 2 ^ k : Nat) : Int) (y : Int) = ((q * 2 ^ k + y : Nat) : Int) := by
  rw [or_i64 hx hy, or_add k h]
theorem band_mod {x : Nat} (k : Nat) (hx : x < 2 ^ 62) (hk : 2 ^ k ≤ 2 ^ 61) : bandI .i64 (x : Int) ((2 ^ k - 1 : Nat) : Int) = ((x % 2 ^ k : Nat) : Int) := by
  have h1 : 1 ≤ 2 ^ k := Nat.one_le_two_pow
  rw [and_i64 hx (by omega), Nat.and_two_pow_sub_one_eq_mod]
theorem band63 {x : Nat} (hx : x < 2 ^ 62) : bandI .i64 (x : Int) 63 = ((x % 64 : Nat) : Int) := band_mod 6 hx (by decide)
theorem shr_i64 {x k : Nat} (h : k ≤ 64) : shrI .i64 (x : Int) (k : Int) = ((x / 2 ^ k : Nat) : Int) := by
  simp only [shrI, IntKind.bits, Int.toNat_natCast]
  rw [Nat.min_eq_left h, Int.fdiv_eq_ediv_of_nonneg]
  · simp
  · exact Int.le_of_lt (Int.pow_pos (by decide))
theorem shl_i64 {x k : Nat} (h : k ≤ 64) (hx : x * 2 ^ k < 2 ^ 63) : shlI .i64 (x : Int) (k : Int) = ((x * 2 ^ k : Nat) : Int) := by
  simp only [shlI, IntKind.bits, Int.toNat_natCast]
  rw [Nat.min_eq_left h]
  have : (x : Int) * 2 ^ k = ((x * 2 ^ k : Nat) : Int) := by simp
  rw [this]
  exact wr_nat (n := x * 2 ^ k) (by omega)
theorem shr6 {x : Nat} : shrI .i64 (x : Int) 6 = ((x / 64 : Nat) : Int) := shr_i64 (k := 6) (by decide)
theorem shr12 {x : Nat} : shrI .i64 (x : Int) 12 = ((x / 4096 : Nat) : Int) := shr_i64 (k := 12) (by decide)
theorem shr18 {x : Nat} : shrI .i64 (x : Int) 18 = ((x / 262144 : Nat) : Int) := shr_i64 (k := 18) (by decide)
theorem shl6 {x : Nat} (h : x < 2 ^ 50) : shlI .i64 (x : Int) 6 = ((x * 64 : Nat) : Int) := shl_i64 (k := 6) (by decide) (by omega)
/-- (r << 6) | y -/
theorem push6 {x y : Nat} (h : x < 2 ^ 50) (hy : y < 64) : borI .i64 (shlI .i64 (x : Int) 6) (y : Int) = ((x * 64 + y : Nat) : Int) := by
  rw [shl6 h]; exact bor_add 6 hy (by omega) (by omega)
theorem bor192 {y : Nat} (hy : y < 64) : borI .i64 192 (y : Int) = ((192 + y : Nat) : Int) := bor_add (q := 3) 6 hy (by decide) (by omega)
theorem bor128 {y : Nat} (hy : y < 64) : borI .i64 128 (y : Int) = ((128 + y : Nat) : Int) := bor_add (q := 2) 6 hy (by decide) (by omega)
theorem bor224 {y : Nat} (hy : y < 32) : borI .i64 224 (y : Int) = ((224 + y : Nat) : Int) := bor_add (q := 7) 5 hy (by decide) (by omega)
theorem bor240 {y : Nat} (hy : y < 16) : borI .i64 240 (y : Int) = ((240 + y : Nat) : Int) := bor_add (q := 15) 4 hy (by decide) (by omega)
theorem wrn_u8 {n : Nat} : wr .u8 (n : Int) = ((n % 256 : Nat) : Int) := by
  simp [wr, IntKind.wrap, IntKind.bits, IntKind.signed]
theorem bchrN {n : Nat} : bchr (n : Int) = UInt8.ofNat n := by simp [bchr]
/-- masks of bytes -/
theorem byte_facts : (List.range 256).all (fun n => decide (
    bandNotI .u8 (n : Int) 127 = ((n / 128 * 128 : Nat) : Int) ∧ bandNotI .u8 (n : Int) 31 = ((n / 32 * 32 : Nat) : Int) ∧ bandNotI .u8 (n : Int) 15 = ((n / 16 * 16 : Nat) : Int) ∧ bandNotI .u8 (n : Int) 7 = ((n / 8 * 8 : Nat) : Int) ∧
    bandI .u8 (n : Int) 127 = ((n % 128 : Nat) : Int) ∧ bandI .u8 (n : Int) 31 = ((n % 32 : Nat) : Int) ∧ bandI .u8 (n : Int) 15 = ((n % 16 : Nat) : Int) ∧ bandI .u8 (n : Int) 7 = ((n % 8 : Nat) : Int) ∧
    bandI .u8 (n : Int) 192 = ((n / 64 * 64 : Nat) : Int) ∧ bandI .u8 (n : Int) 63 = ((n % 64 : Nat) : Int))) = true := by decide +kernel
theorem bn127 (c : UInt8) : bandNotI .u8 (bord c) 127 = ((c.toNat / 128 * 128 : Nat) : Int) := (all_bytes byte_facts c).1
theorem bn31 (c : UInt8) : bandNotI .u8 (bord c) 31 = ((c.toNat / 32 * 32 : Nat) : Int) := (all_bytes byte_facts c).2.1
theorem bn15 (c : UInt8) : bandNotI .u8 (bord c) 15 = ((c.toNat / 16 * 16 : Nat) : Int) := (all_bytes byte_facts c).2.2.1
theorem bn7 (c : UInt8) : bandNotI .u8 (bord c) 7 = ((c.toNat / 8 * 8 : Nat) : Int) := (all_bytes byte_facts c).2.2.2.1
theorem b127 (c : UInt8) : bandI .u8 (bord c) 127 = ((c.toNat % 128 : Nat) : Int) := (all_bytes byte_facts c).2.2.2.2.1
theorem b31 (c : UInt8) : bandI .u8 (bord c) 31 = ((c.toNat % 32 : Nat) : Int) := (all_bytes byte_facts c).2.2.2.2.2.1
theorem b15 (c : UInt8) : bandI .u8 (bord c) 15 = ((c.toNat % 16 : Nat) : Int) := (all_bytes byte_facts c).2.2.2.2.2.2.1
theorem b7 (c : UInt8) : bandI .u8 (bord c) 7 = ((c.toNat % 8 : Nat) : Int) := (all_bytes byte_facts c).2.2.2.2.2.2.2.1
theorem b192 (c : UInt8) : bandI .u8 (bord c) 192 = ((c.toNat / 64 * 64 : Nat) : Int) := (all_bytes byte_facts c).2.2.2.2.2.2.2.2.1
theorem b63 (c : UInt8) : bandI .u8 (bord c) 63 = ((c.toNat % 64 : Nat) : Int) := (all_bytes byte_facts c).2.2.2.2.2.2.2.2.2
end Go.VM
