/- Encoding of code points: the program's and the reference's are the same. -/
import Derived.Test.YtbmilkoebhmnnaaGreatDoorDefs
import Derived.Test.YtbmilkoebhmnnaaGreatDoorBit
set_option linter.unusedVariables false
set_option linter.unusedSimpArgs false
namespace Go.VM
section
variable {N : Nat}
def pointB (r : Int) : Bool := decide (0 ≤ r) && (decide (r ≤ 1114111) && (decide (r < 55296) || decide (r > 57343)))
theorem pointB_ok {r : Int} (h : pointB r = true) : 0 ≤ r ∧ r ≤ 1114111 ∧ (r < 55296 ∨ r > 57343) := by
  simpa [pointB] using h
theorem rpoint_eq (r : Int) : ref02_point N r = some (pointB r) := by
  unfold ref02_point pointB
  by_cases h1 : r ≥ 0 <;> by_cases h2 : r ≤ 1114111 <;> by_cases h3 : r < 55296 <;> simp [h1, h2, h3]
theorem ppoint_eq (r : Int) : utf8text_point N r = some (pointB r) := by
  unfold utf8text_point pointB
  by_cases h1 : r ≥ 0 <;> by_cases h2 : r ≤ 1114111 <;> by_cases h3 : r < 55296 <;> simp [h1, h2, h3]
/-- the bytes of a code point -/
def encB (r : Nat) : List UInt8 :=
  if r < 128 then [.ofNat r]
  else if r < 2048 then [.ofNat (192 + r / 64), .ofNat (128 + r % 64)]
  else if r < 65536 then [.ofNat (224 + r / 4096), .ofNat (128 + r / 64 % 64), .ofNat (128 + r % 64)]
  else [.ofNat (240 + r / 262144), .ofNat (128 + r / 4096 % 64), .ofNat (128 + r / 64 % 64), .ofNat (128 + r % 64)]
def encR (r : Int) : List UInt8 × Int := if pointB r = true then (encB r.toNat, 0) else ([], 4)
theorem ruenc_eq (r : Int) : ref02_Encode N r = some (encR r) := by
  unfold ref02_Encode encR
  rw [rpoint_eq, Option.bind_some]
  cases hp : pointB r with
  | false => rfl
  | true =>
    obtain ⟨h0, h1, _⟩ := pointB_ok hp
    obtain ⟨n, rfl⟩ : ∃ n : Nat, r = n := ⟨r.toNat, by omega⟩
    simp only [if_true, letL, Int.toNat_natCast, encB, List.map_cons, List.map_nil, shr6, shr12, shr18]
    by_cases c1 : n < 128
    · have c1' : (n : Int) < 128 := by omega
      simp only [c1, c1', decide_true, if_true, wrn_u8, bchrN, Nat.mod_eq_of_lt (show n < 256 by omega)]
    · have c1' : ¬ (n : Int) < 128 := by omega
      simp only [c1, c1', decide_false, if_false, Bool.false_eq_true]
      by_cases c2 : n < 2048
      · have c2' : (n : Int) < 2048 := by omega
        simp only [c2, c2', decide_true, if_true]
        rw [bor192 (by omega), band63 (by omega), bor128 (by omega)]
        simp only [wrn_u8, bchrN, Nat.mod_eq_of_lt (show 192 + n / 64 < 256 by omega), Nat.mod_eq_of_lt (show 128 + n % 64 < 256 by omega)]
      · have c2' : ¬ (n : Int) < 2048 := by omega
        simp only [c2, c2', decide_false, if_false, Bool.false_eq_true]
        by_cases c3 : n < 65536
        · have c3' : (n : Int) < 65536 := by omega
          simp only [c3, c3', decide_true, if_true]
          rw [bor224 (by omega), band63 (by omega), band63 (by omega), bor128 (by omega), bor128 (by omega)]
          simp only [wrn_u8, bchrN, Nat.mod_eq_of_lt (show 224 + n / 4096 < 256 by omega), Nat.mod_eq_of_lt (show 128 + n % 64 < 256 by omega), Nat.mod_eq_of_lt (show 128 + n / 64 % 64 < 256 by omega)]
        · have c3' : ¬ (n : Int) < 65536 := by omega
          simp only [c3, c3', decide_false, if_false, Bool.false_eq_true]
          rw [bor240 (by omega), band63 (by omega), band63 (by omega), band63 (by omega), bor128 (by omega), bor128 (by omega), bor128 (by omega)]
          simp only [wrn_u8, bchrN, Nat.mod_eq_of_lt (show 240 + n / 262144 < 256 by omega), Nat.mod_eq_of_lt (show 128 + n % 64 < 256 by omega), Nat.mod_eq_of_lt (show 128 + n / 64 % 64 < 256 by omega), Nat.mod_eq_of_lt (show 128 + n / 4096 % 64 < 256 by omega)]
theorem e2_succ {n j k r : Nat} {bn : List Int} {k14 : Int × List Int → Option (List UInt8 × Int)} (hj : j < n) (hn : n ≤ 3) (hl : bn.length = n + 1) (hr : r < 2 ^ 62) :
    utf8text_Encode_L2 N (n : Int) k14 (k + 1) (r : Int) ((j + 1 : Nat) : Int) bn = utf8text_Encode_L2 N (n : Int) k14 k ((r / 64 : Nat) : Int) (j : Int) (bn.set (j + 1) ((128 + r % 64 : Nat) : Int)) := by
  rw [utf8text_Encode_L2]
  have h1 : ((j + 1 : Nat) : Int) > 0 := by omega
  have h2 : wr .i64 ((n : Int) + 1) = ((n + 1 : Nat) : Int) := by rw [wr_i64 (by omega)]; simp
  have h3 : wr .i64 (((j + 1 : Nat) : Int) - 1) = (j : Int) := by rw [wr_i64 (by omega)]; omega
  have h4 : borI .u8 128 (((r % 64 : Nat) : Int)) = ((128 + r % 64 : Nat) : Int) := by
    have : r % 64 < 64 := Nat.mod_lt _ (by decide)
    have f : (List.range 64).all (fun y => decide (borI .u8 128 (y : Int) = ((128 + y : Nat) : Int))) = true := by decide +kernel
    have := List.all_eq_true.1 f (r % 64) (List.mem_range.2 this)
    simpa using this
  simp only [h1, decide_true, if_true]
  rw [h2, h3, grd_true (by simp only [Int.toNat_natCast]; omega), grd_true (by rw [hl]; simp only [Int.toNat_natCast]; omega), band63 (by omega), shr6, wrn_u8, Nat.mod_eq_of_lt (show r % 64 < 256 by omega), h4]
  simp only [Int.toNat_natCast]
theorem e2_zero {n k : Nat} {r : Int} {bn : List Int} {k14 : Int × List Int → Option (List UInt8 × Int)} : utf8text_Encode_L2 N (n : Int) k14 (k + 1) r ((0 : Nat) : Int) bn = k14 (r, bn) := by
  rw [utf8text_Encode_L2]; rfl
theorem e1_go {k : Nat} {r : Nat} {k4 : Int → Option (List UInt8 × Int)} : utf8text_Encode_L1 N (r : Int) k4 (k + 4) 0 = k4 (if r < 128 then 0 else if r < 2048 then 1 else if r < 65536 then 2 else 3) := by
  rw [utf8text_Encode_L1, joinK_eq]
  rw [show idx tab_utf8text_forms (wr .i64 (0 + 1)) = some (Utf8textForm.mk 192 31 128) from rfl, Option.bind_some]
  simp only [show decide ((0 : Int) < 3) = true from rfl, if_true]
  by_cases c1 : r < 128
  · simp [c1]; omega
  have c1' : (r : Int) ≥ 128 := by omega
  simp only [c1, c1', decide_true, if_true, if_false]
  rw [show wr .i64 (0 + 1) = 1 from rfl, utf8text_Encode_L1, joinK_eq]
  rw [show idx tab_utf8text_forms (wr .i64 (1 + 1)) = some (Utf8textForm.mk 224 15 2048) from rfl, Option.bind_some]
  simp only [show decide ((1 : Int) < 3) = true from rfl, if_true]
  by_cases c2 : r < 2048
  · simp [c2]; omega
  have c2' : (r : Int) ≥ 2048 := by omega
  simp only [c2, c2', decide_true, if_true, if_false]
  rw [show wr .i64 (1 + 1) = 2 from rfl, utf8text_Encode_L1, joinK_eq]
  rw [show idx tab_utf8text_forms (wr .i64 (2 + 1)) = some (Utf8textForm.mk 240 7 65536) from rfl, Option.bind_some]
  simp only [show decide ((2 : Int) < 3) = true from rfl, if_true]
  by_cases c3 : r < 65536
  · simp [c3]; omega
  have c3' : (r : Int) ≥ 65536 := by omega
  simp only [c3, c3', decide_true, if_true, if_false]
  rw [show wr .i64 (2 + 1) = 3 from rfl, utf8text_Encode_L1, joinK_eq]
  simp only [show decide ((3 : Int) < 3) = false from rfl, if_false, Bool.false_eq_true]
theorem puenc_eq (hN : 4 ≤ N) (r : Int) : utf8text_Encode N r = some (encR r) := by
  obtain ⟨M, rfl⟩ : ∃ M, N = M + 4 := ⟨N - 4, by omega⟩
  unfold utf8text_Encode encR
  rw [ppoint_eq, Option.bind_some]
  cases hp : pointB r with
  | false => rfl
  | true =>
    obtain ⟨h0, h1, _⟩ := pointB_ok hp
    obtain ⟨n, rfl⟩ : ∃ n : Nat, r = n := ⟨r.toNat, by omega⟩
    have f0 : ∀ y : Nat, y < 128 → borI .u8 0 (y : Int) = (y : Int) := by
      have f : (List.range 128).all (fun y => decide (borI .u8 0 (y : Int) = (y : Int))) = true := by decide +kernel
      intro y hy
      simpa using List.all_eq_true.1 f y (List.mem_range.2 hy)
    have f1 : ∀ y : Nat, y < 32 → borI .u8 192 (y : Int) = ((192 + y : Nat) : Int) := by
      have f : (List.range 32).all (fun y => decide (borI .u8 192 (y : Int) = ((192 + y : Nat) : Int))) = true := by decide +kernel
      intro y hy
      simpa using List.all_eq_true.1 f y (List.mem_range.2 hy)
    have f2 : ∀ y : Nat, y < 16 → borI .u8 224 (y : Int) = ((224 + y : Nat) : Int) := by
      have f : (List.range 16).all (fun y => decide (borI .u8 224 (y : Int) = ((224 + y : Nat) : Int))) = true := by decide +kernel
      intro y hy
      simpa using List.all_eq_true.1 f y (List.mem_range.2 hy)
    have f3 : ∀ y : Nat, y < 8 → borI .u8 240 (y : Int) = ((240 + y : Nat) : Int) := by
      have f : (List.range 8).all (fun y => decide (borI .u8 240 (y : Int) = ((240 + y : Nat) : Int))) = true := by decide +kernel
      intro y hy
      simpa using List.all_eq_true.1 f y (List.mem_range.2 hy)
    simp only [if_true, joinK_eq, e1_go, Int.toNat_natCast, encB]
    by_cases c1 : n < 128
    · simp only [c1, if_true]
      rw [show utf8text_Encode_L2 (M + 4) 0 = utf8text_Encode_L2 (M + 4) ((0 : Nat) : Int) from rfl, show (0 : Int) = ((0 : Nat) : Int) from rfl, e2_zero]
      simp only [wrn_u8]
      rw [show idx tab_utf8text_forms ((0 : Nat) : Int) = some (Utf8textForm.mk 0 127 0) from rfl, Option.bind_some, Nat.mod_eq_of_lt (show n < 256 by omega)]
      rw [f0 n c1]
      rw [show wr .i64 (((0 : Nat) : Int) + 1) = 1 from rfl]
      rw [grd_true (by decide), grd_true (by decide), grd_true (by decide), grd_true (by decide)]
      simp [bchrN]
    · simp only [c1, if_false]
      by_cases c2 : n < 2048
      · simp only [c2, if_true]
        rw [show utf8text_Encode_L2 (M + 4) 1 = utf8text_Encode_L2 (M + 4) ((1 : Nat) : Int) from rfl, show (1 : Int) = ((0 + 1 : Nat) : Int) from rfl]
        rw [e2_succ (by omega) (by omega) (by rfl) (by omega), e2_zero]
        simp only [wrn_u8]
        rw [show idx tab_utf8text_forms ((0 + 1 : Nat) : Int) = some (Utf8textForm.mk 192 31 128) from rfl, Option.bind_some, Nat.mod_eq_of_lt (show n / 64 < 256 by omega), f1 _ (by omega)]
        rw [show wr .i64 (((0 + 1 : Nat) : Int) + ((0 + 1 : Nat) : Int)) = 2 from rfl]
        rw [grd_true (by decide), grd_true (by decide), grd_true (by simp), grd_true (by simp [fitsS])]
        rfl
      · simp only [c2, if_false]
        by_cases c3 : n < 65536
        · simp only [c3, if_true]
          rw [show utf8text_Encode_L2 (M + 4) 2 = utf8text_Encode_L2 (M + 4) ((2 : Nat) : Int) from rfl, show (2 : Int) = ((1 + 1 : Nat) : Int) from rfl]
          rw [e2_succ (by omega) (by omega) (by rfl) (by omega), show ((1 : Nat) : Int) = ((0 + 1 : Nat) : Int) from rfl, e2_succ (by omega) (by omega) (by rfl) (by omega), e2_zero]
          simp only [wrn_u8]
          rw [show idx tab_utf8text_forms ((1 + 1 : Nat) : Int) = some (Utf8textForm.mk 224 15 2048) from rfl, Option.bind_some, Nat.mod_eq_of_lt (show n / 64 / 64 < 256 by omega), f2 _ (by omega)]
          rw [show wr .i64 (((1 + 1 : Nat) : Int) + 1) = 3 from rfl]
          rw [grd_true (by decide), grd_true (by decide), grd_true (by simp), grd_true (by simp [fitsS])]
          simp only [Nat.div_div_eq_div_mul]
          rfl
        · simp only [c3, if_false]
          rw [show utf8text_Encode_L2 (M + 4) 3 = utf8text_Encode_L2 (M + 4) ((3 : Nat) : Int) from rfl, show (3 : Int) = ((2 + 1 : Nat) : Int) from rfl]
          rw [e2_succ (by omega) (by omega) (by rfl) (by omega), show ((2 : Nat) : Int) = ((1 + 1 : Nat) : Int) from rfl, e2_succ (by omega) (by omega) (by rfl) (by omega), show ((1 : Nat) : Int) = ((0 + 1 : Nat) : Int) from rfl, e2_succ (by omega) (by omega) (by rfl) (by omega), e2_zero]
          simp only [wrn_u8]
          rw [show idx tab_utf8text_forms ((2 + 1 : Nat) : Int) = some (Utf8textForm.mk 240 7 65536) from rfl, Option.bind_some, Nat.mod_eq_of_lt (show n / 64 / 64 / 64 < 256 by omega), f3 _ (by omega)]
          rw [show wr .i64 (((2 + 1 : Nat) : Int) + 1) = 4 from rfl]
          rw [grd_true (by decide), grd_true (by decide), grd_true (by simp), grd_true (by simp [fitsS])]
          simp only [Nat.div_div_eq_div_mul]
          rfl
end
end Go.VM
