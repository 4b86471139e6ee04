/- Numbers in decimal digits: writing and reading. -/
import Derived.Test.YtbmilkoebhmnnaaGreatDoorStr
set_option linter.unusedVariables false
set_option linter.unusedSimpArgs false
namespace Go.VM
section
variable {N : Nat}
theorem bchr_bords' : ∀ l : List UInt8, List.map bchr (List.map bord l) = l
  | [] => rfl
  | c :: l => by rw [List.map_cons, List.map_cons, bchr_bord, bchr_bords' l]
/-- the digits of a number in front of others -/
def fmtF : Nat → Nat → List UInt8 → List UInt8
  | 0, _, acc => acc
  | k + 1, n, acc => if n / 10 = 0 then UInt8.ofNat (48 + n % 10) :: acc else fmtF k (n / 10) (UInt8.ofNat (48 + n % 10) :: acc)
def fmtS (n : Nat) : List UInt8 := fmtF 20 n []
theorem fmtF_len : ∀ (k n : Nat) (acc : List UInt8), (fmtF k n acc).length ≤ acc.length + k
  | 0, n, acc => by simp [fmtF]
  | k + 1, n, acc => by
    rw [fmtF]
    split
    · simp <;> omega
    · have := fmtF_len k (n / 10) (UInt8.ofNat (48 + n % 10) :: acc)
      simp only [List.length_cons] at this; omega
theorem fmtS_len (n : Nat) : (fmtS n).length ≤ 20 := by have := fmtF_len 20 n []; simpa [fmtS] using this
theorem tdiv10 (n : Nat) : wr .u64 ((n : Int).tdiv 10) = if n < 2 ^ 64 then ((n / 10 : Nat) : Int) else wr .u64 ((n : Int).tdiv 10) := by
  split
  · rw [Int.tdiv_eq_ediv_of_nonneg (by omega), wr_u64 (by omega)]; simp
  · rfl
theorem div10 {n : Nat} (h : n < 2 ^ 64) : wr .u64 ((n : Int).tdiv 10) = ((n / 10 : Nat) : Int) := by rw [tdiv10, if_pos h]
theorem mod10 {n : Nat} : wr .u64 (48 + (n : Int).tmod 10) = ((48 + n % 10 : Nat) : Int) := by
  rw [Int.tmod_eq_emod_of_nonneg (by omega), wr_u64 (by omega)]; simp
theorem rformat_loop : ∀ (k n : Nat) (acc : List UInt8), n < 10 ^ k → n < 2 ^ 64 → acc.length + k ≤ 1000 → ∀ m, k ≤ m → 0 < k → ref04_Format_L1 N m (n : Int) acc = some (fmtF k n acc)
  | 0, n, acc, h, h2, ha, m, hm, hk => by omega
  | k + 1, n, acc, h, h2, ha, m + 1, hm, hk => by
    rw [ref04_Format_L1, div10 h2, mod10, fmtF]
    rw [grd_true (by unfold fitsS; simp <;> omega)]
    have e : (List.map bchr [wr .u8 ((48 + n % 10 : Nat) : Int)] ++ acc) = UInt8.ofNat (48 + n % 10) :: acc := by
      rw [wrn_u8, Nat.mod_eq_of_lt (show 48 + n % 10 < 256 by omega)]; rfl
    rw [e]
    by_cases c : n / 10 = 0
    · rw [if_pos (by rw [c]; rfl), if_pos c]
    · have c' : ¬ ((((n / 10 : Nat) : Int)) == 0) = true := by simp <;> omega
      rw [if_neg c', if_neg c]
      have hk2 : 0 < k := by
        cases k with
        | zero => simp at h; omega
        | succ => omega
      exact rformat_loop k (n / 10) _ (by rw [Nat.pow_succ] at h; omega) (by omega) (by simp <;> omega) m (by omega) hk2
theorem rformat_eq (n : Nat) (h : n < 2 ^ 64) (hN : 20 ≤ N) : ref04_Format N (n : Int) = some (fmtS n) := by
  unfold ref04_Format fmtS
  exact rformat_loop 20 n [] (by omega) h (by simp) N hN (by omega)
theorem set_fill (a : Nat) (x : Int) (acc : List Int) : (List.replicate (a + 1) 0 ++ acc).set a x = List.replicate a 0 ++ x :: acc := by
  rw [List.replicate_succ', List.append_assoc]
  simp
theorem pformat_loop (k2 : Int × Int × List Int → Option (List UInt8)) (R : List UInt8 → Option (List UInt8)) (hk : ∀ (n a : Nat) (acc : List UInt8), n < 10 → a ≤ 19 → acc.length + a = 19 → k2 ((n : Int), (a : Int), List.replicate (a + 1) 0 ++ acc.map bord) = R (UInt8.ofNat (48 + n) :: acc)) :
    ∀ (j n a : Nat) (acc : List UInt8), n < 10 ^ (j + 1) → n < 2 ^ 64 → j ≤ a → a ≤ 19 → acc.length + a = 19 → ∀ m, j < m → number_Format_L1 N k2 m (n : Int) (a : Int) (List.replicate (a + 1) 0 ++ acc.map bord) = R (fmtF (j + 1) n acc)
  | j, n, a, acc, h, h2, hj, ha, hl, 0, hm => by omega
  | j, n, a, acc, h, h2, hj, ha, hl, m + 1, hm => by
    rw [number_Format_L1, fmtF]
    by_cases c : n / 10 = 0
    · have c' : ¬ (n : Int) ≥ 10 := by omega
      rw [if_neg (by simpa using c'), if_pos c, Nat.mod_eq_of_lt (by omega)]
      exact hk n a acc (by omega) ha hl
    · have c' : (n : Int) ≥ 10 := by omega
      rw [if_pos (decide_eq_true c'), if_neg c]
      obtain ⟨j, rfl⟩ : ∃ i, j = i + 1 := ⟨j - 1, by
        cases j with
        | zero => simp at h; omega
        | succ => omega⟩
      obtain ⟨a, rfl⟩ : ∃ i, a = i + 1 := ⟨a - 1, by omega⟩
      rw [grd_true (by omega), grd_true (by simp <;> omega), div10 h2, mod10, wrn_u8, Nat.mod_eq_of_lt (show 48 + n % 10 < 256 by omega), wr_i64 (by omega)]
      rw [show ((a + 1 : Nat) : Int) - 1 = (a : Int) by simp, Int.toNat_natCast, set_fill]
      have e : List.replicate (a + 1) 0 ++ ((48 + n % 10 : Nat) : Int) :: List.map bord acc = List.replicate (a + 1) 0 ++ List.map bord (UInt8.ofNat (48 + n % 10) :: acc) := by
        rw [List.map_cons, bord_nat, toNat_ofNat (by omega)]
      rw [e]
      exact pformat_loop k2 R hk j (n / 10) a _ (by rw [Nat.pow_succ] at h; omega) (by omega) (by omega) (by omega) (by simp <;> omega) m (by omega)
theorem pformat_eq (n : Nat) (h : n < 2 ^ 64) (hN : 20 ≤ N) : number_Format N (n : Int) = some (fmtS n) := by
  unfold number_Format fmtS
  rw [joinK_eq]
  refine pformat_loop (N := N) _ some (fun n a acc hn ha hl => ?_) 19 n 19 [] (by omega) h (by omega) (by omega) rfl N (by omega)
  have w : wr .u8 (wr .u64 (48 + (n : Int))) = ((48 + n : Nat) : Int) := by
    rw [wr_u64 (by omega), show (48 : Int) + (n : Int) = ((48 + n : Nat) : Int) by simp, wrn_u8, Nat.mod_eq_of_lt (by omega)]
  simp only [Int.toNat_natCast, w]
  rw [set_fill]
  rw [grd_true (by omega), grd_true (by simp <;> omega), grd_true (by omega), grd_true (by unfold fitsS; simp <;> omega)]
  congr 1
  rw [List.drop_append, List.drop_of_length_le (by simp), List.length_replicate, Nat.sub_self, List.drop_zero, List.nil_append, List.take_of_length_le (by simp <;> omega), List.map_cons, bchr_bords']
  rfl
end
end Go.VM
