/- Encoding of code points: the program's and the reference's are the same. -/
import Derived.Test.YtbmilkoebhmnnaaGreatDoorDefs
import Derived.Test.YtbmilkoebhmnnaaGreatDoorBit
set_option linter.unusedVariables false
set_option linter.unusedSimpArgs false
namespace Go.VM
section
variable {N : Nat}
def pointB (r : Int) : Bool := decide (0 ≤ r) && (decide (r ≤ 1114111) && (decide (r < 55296) || decide (r > 57343)))
theorem pointB_ok {r : Int} (h : pointB r = true) : 0 ≤ r ∧ r ≤ 1114111 ∧ (r < 55296 ∨ r > 57343) := by
  simpa [pointB] using h
theorem rpoint_eq (r : Int) : ref02_point N r = some (pointB r) := by
  unfold ref02_point pointB
  by_cases h1 : r ≥ 0 <;> by_cases h2 : r ≤ 1114111 <;> by_cases h3 : r < 55296 <;> simp [h1, h2, h3]
/-- the bytes of a code point -/
def encB (r : Nat) : List UInt8 :=
  if r < 128 then [.ofNat r]
  else if r < 2048 then [.ofNat (192 + r / 64), .ofNat (128 + r % 64)]
  else if r < 65536 then [.ofNat (224 + r / 4096), .ofNat (128 + r / 64 % 64), .ofNat (128 + r % 64)]
  else [.ofNat (240 + r / 262144), .ofNat (128 + r / 4096 % 64), .ofNat (128 + r / 64 % 64), .ofNat (128 + r % 64)]
def encR (r : Int) : List UInt8 × Int := if pointB r = true then (encB r.toNat, 0) else ([], 4)
theorem ruenc_eq (r : Int) : ref02_Encode N r = some (encR r) := by
  unfold ref02_Encode encR
  rw [rpoint_eq, Option.bind_some]
  cases hp : pointB r with
  | false => rfl
  | true =>
    obtain ⟨h0, h1, _⟩ := pointB_ok hp
    obtain ⟨n, rfl⟩ : ∃ n : Nat, r = n := ⟨r.toNat, by omega⟩
    simp only [if_true, letL, Int.toNat_natCast, encB, List.map_cons, List.map_nil, shr6, shr12, shr18]
    by_cases c1 : n < 128
    · have c1' : (n : Int) < 128 := by omega
      simp only [c1, c1', decide_true, if_true, wrn_u8, bchrN, Nat.mod_eq_of_lt (show n < 256 by omega)]
    · have c1' : ¬ (n : Int) < 128 := by omega
      simp only [c1, c1', decide_false, if_false, Bool.false_eq_true]
      by_cases c2 : n < 2048
      · have c2' : (n : Int) < 2048 := by omega
        simp only [c2, c2', decide_true, if_true]
        rw [bor192 (by omega), band63 (by omega), bor128 (by omega)]
        simp only [wrn_u8, bchrN, Nat.mod_eq_of_lt (show 192 + n / 64 < 256 by omega), Nat.mod_eq_of_lt (show 128 + n % 64 < 256 by omega)]
      · have c2' : ¬ (n : Int) < 2048 := by omega
        simp only [c2, c2', decide_false, if_false, Bool.false_eq_true]
        by_cases c3 : n < 65536
        · have c3' : (n : Int) < 65536 := by omega
          simp only [c3, c3', decide_true, if_true]
          rw [bor224 (by omega), band63 (by omega), band63 (by omega), bor128 (by omega), bor128 (by omega)]
          simp only [wrn_u8, bchrN, Nat.mod_eq_of_lt (show 224 + n / 4096 < 256 by omega), Nat.mod_eq_of_lt (show 128 + n % 64 < 256 by omega), Nat.mod_eq_of_lt (show 128 + n / 64 % 64 < 256 by omega)]
        · have c3' : ¬ (n : Int) < 65536 := by omega
          simp only [c3, c3', decide_false, if_false, Bool.false_eq_true]
          rw [bor240 (by omega), band63 (by omega), band63 (by omega), band63 (by omega), bor128 (by omega), bor128 (by omega), bor128 (by omega)]
          simp only [wrn_u8, bchrN, Nat.mod_eq_of_lt (show 240 + n / 262144 < 256 by omega), Nat.mod_eq_of_lt (show 128 + n % 64 < 256 by omega), Nat.mod_eq_of_lt (show 128 + n / 64 % 64 < 256 by omega), Nat.mod_eq_of_lt (show 128 + n / 4096 % 64 < 256 by omega)]
end
end Go.VM
