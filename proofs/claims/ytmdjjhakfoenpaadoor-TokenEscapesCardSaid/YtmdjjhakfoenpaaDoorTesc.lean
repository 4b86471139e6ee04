/- The plain law of TokenEscapes: every code point can be written as an escape sequence. -/
import Derived.Test.YtmdjjhakfoenpaaDoorTquotes
set_option linter.unusedVariables false
set_option linter.unusedSimpArgs false
namespace Go.VM
section
variable {N : Nat}
def hexTU : List UInt8 := [48, 49, 50, 51, 52, 53, 54, 55, 56, 57, 65, 66, 67, 68, 69, 70]
def hexA (up : Bool) : List UInt8 := if up = true then hexTU else hexT
def hx (up : Bool) (d : Nat) : UInt8 := (hexA up).getD d 0
theorem hx_ok (up : Bool) : (List.range 16).all (fun d => decide (idx (hexA up) (d : Int) = some (hx up d) ∧ hexB (hx up d) = true ∧ hexD (hx up d).toNat = d)) = true := by
  cases up <;> kernel_rfl
theorem hx_at (up : Bool) {d : Nat} (h : d < 16) : idx (hexA up) (d : Int) = some (hx up d) ∧ hexB (hx up d) = true ∧ hexD (hx up d).toNat = d := by
  have := List.all_eq_true.1 (hx_ok up) d (List.mem_range.2 h)
  simpa using this
/-- four digits -/
def u4 (up : Bool) (n : Nat) : List UInt8 := [hx up (n / 4096 % 16), hx up (n / 256 % 16), hx up (n / 16 % 16), hx up (n % 16)]
theorem b15n {x : Nat} (hx : x < 2 ^ 62) : bandI .i64 (x : Int) 15 = ((x % 16 : Nat) : Int) := band_mod 4 hx (by decide)
theorem shr4 {x : Nat} : shrI .i64 (x : Int) 4 = ((x / 16 : Nat) : Int) := shr_i64 (k := 4) (by decide)
theorem shr8 {x : Nat} : shrI .i64 (x : Int) 8 = ((x / 256 : Nat) : Int) := shr_i64 (k := 8) (by decide)
theorem unit4_eq (up : Bool) (n : Nat) (h : n < 2 ^ 60) : law13_unit N (n : Int) up = some (92 :: 117 :: u4 up n) := by
  unfold law13_unit
  refine (join_to (a := hexA up) fun k2 => ?_).trans ?_
  · cases up <;> rfl
  try dsimp only
  have m : ∀ x : Nat, x % 16 < 16 := fun x => Nat.mod_lt _ (by decide)
  rw [shr12, shr8, shr4, b15n (by omega), b15n (by omega), b15n (by omega), b15n (by omega)]
  rw [(hx_at up (m _)).1, Option.bind_some, (hx_at up (m _)).1, Option.bind_some, (hx_at up (m _)).1, Option.bind_some, (hx_at up (m _)).1, Option.bind_some]
  simp only [letL]
  rw [grd_true (by unfold fitsS; simp)]
  simp only [List.map_cons, List.map_nil, bchr_bord]
  rfl
theorem unitB_u4 (up : Bool) {n : Nat} (h : n < 65536) (r : List UInt8) : unitB (92 :: 117 :: (u4 up n ++ r)) = some n := by
  have m : ∀ x : Nat, x % 16 < 16 := fun x => Nat.mod_lt _ (by decide)
  obtain ⟨_, a1, a2⟩ := hx_at up (m (n / 4096))
  obtain ⟨_, b1, b2⟩ := hx_at up (m (n / 256))
  obtain ⟨_, c1, c2⟩ := hx_at up (m (n / 16))
  obtain ⟨_, d1, d2⟩ := hx_at up (m n)
  simp only [u4, List.cons_append, List.nil_append, unitB]
  rw [if_pos ⟨trivial, trivial, by simp only [List.all_cons, List.all_nil, a1, b1, c1, d1]; rfl⟩]
  simp only [hexV, a2, b2, c2, d2]
  congr 1; omega
theorem drop6 (up : Bool) (n : Nat) (r : List UInt8) : (92 :: 117 :: (u4 up n ++ r)).drop 6 = r := rfl
theorem unitB_34 : unitB [34] = none := rfl
/-- one sequence -/
theorem esc_one (up : Bool) {n : Nat} (h : n < 65536) (hs : ¬ (55296 ≤ n ∧ n ≤ 57343)) (r : List UInt8) : escB (92 :: 117 :: (u4 up n ++ r)) = (encB n, 6, 0) := by
  rw [escB_some (unitB_u4 up h r), if_neg (by omega), if_neg (by omega)]
theorem esc_none (up : Bool) {n : Nat} (h : n < 65536) (hs : 55296 ≤ n ∧ n ≤ 57343) : escB (92 :: 117 :: (u4 up n ++ [34])) = ([], 0, 7) := by
  rw [escB_some (unitB_u4 up h [34])]
  by_cases c : 55296 ≤ n ∧ n ≤ 56319
  · rw [if_pos c, drop6, unitB_34]
  · rw [if_neg c, if_pos (by omega)]
theorem esc_pair (up : Bool) {hi lo : Nat} (h1 : 55296 ≤ hi ∧ hi ≤ 56319) (h2 : 56320 ≤ lo ∧ lo ≤ 57343) (r : List UInt8) : escB (92 :: 117 :: (u4 up hi ++ (92 :: 117 :: (u4 up lo ++ r)))) = (encB (surB hi lo), 12, 0) := by
  rw [escB_some (unitB_u4 up (by omega) _), if_pos h1, drop6, unitB_u4 up (by omega) r]
  simp only []
  rw [if_pos h2]
/-- what is read of a text of one sequence -/
theorem next_esc {t x : List UInt8} {n : Nat} (h : escB (92 :: t) = (x, n, 0)) (hd : (92 :: t).drop n = [34]) (hN : 3 ≤ N) : nextS N (34 :: 92 :: t) 0 = (ApiToken.mk 3 x 0, ((n + 2 : Nat) : Int), 0) := by
  obtain ⟨M, rfl⟩ : ∃ M, N = M + 1 + 1 := ⟨N - 2, by omega⟩
  unfold nextS
  rw [List.drop_zero, List.takeWhile_cons, ws34]
  simp only [Bool.false_eq_true, if_false, List.length_nil, Nat.add_zero, List.drop_zero]
  rw [tokS_cons, if_neg (by decide), if_pos (by decide), textS_esc h, hd]
  have : textS (M + 1) [34] (0 + 1 + n) ([] ++ x) = (x, 0 + 1 + n + 1, 0) := by
    rw [textS, if_pos (by decide)]; rfl
  rw [this, if_pos rfl]
  simp only []
  congr 2; congr 1; omega
theorem next_bad {t : List UInt8} (h : escB (92 :: t) = ([], 0, 7)) (hN : 3 ≤ N) : nextS N (34 :: 92 :: t) 0 = noTok 7 := by
  obtain ⟨M, rfl⟩ : ∃ M, N = M + 1 + 1 := ⟨N - 2, by omega⟩
  unfold nextS
  rw [List.drop_zero, List.takeWhile_cons, ws34]
  simp only [Bool.false_eq_true, if_false, List.length_nil, Nat.add_zero, List.drop_zero]
  rw [tokS_cons, if_neg (by decide), if_pos (by decide)]
  have : textS (M + 1 + 1) (92 :: t) (0 + 1) [] = ([], 0, 7) := by
    rw [textS, if_neg (by decide), if_pos (by decide), h, if_neg (by decide)]
  rw [this, if_neg (by decide)]
end
theorem tokenEscapes_said (r : Int) (hr : (Lit.int .u32 r).wf = true) (up : Bool) (_ : True) : law13_TokenEscapes 10000 r up = some true := by
  have hw := wf_u32 hr
  obtain ⟨q, rfl⟩ : ∃ q : Nat, r = q := ⟨r.toNat, by omega⟩
  have hmod : (q : Int).tmod 1114112 = ((q % 1114112 : Nat) : Int) := by rw [Int.tmod_eq_emod_of_nonneg (by omega)]; simp
  unfold law13_TokenEscapes
  rw [sane13q, Option.bind_some, if_pos rfl, hmod]
  obtain ⟨p, hp⟩ : ∃ p, q % 1114112 = p := ⟨_, rfl⟩
  have hpl : p < 1114112 := by rw [← hp]; exact Nat.mod_lt _ (by decide)
  rw [hp, wr_nat (by omega), ruenc_eq, Option.bind_some, unit4_eq up p (by omega), Option.bind_some]
  rw [grd_true (by unfold fitsS; simp [u4]), grd_true (by unfold fitsS; simp [u4])]
  have hl4 : ∀ n, (u4 up n).length = 4 := fun _ => rfl
  by_cases hbig : 65536 ≤ p
  · have hhi : ((p : Int) - 65536).tdiv 1024 = (((p - 65536) / 1024 : Nat) : Int) := by rw [Int.tdiv_eq_ediv_of_nonneg (by omega)]; omega
    have hlo : ((p : Int) - 65536).tmod 1024 = (((p - 65536) % 1024 : Nat) : Int) := by rw [Int.tmod_eq_emod_of_nonneg (by omega)]; omega
    have e1 : wr .i64 (55296 + wr .i64 ((wr .i64 ((p : Int) - 65536)).tdiv 1024)) = ((55296 + (p - 65536) / 1024 : Nat) : Int) := by
      rw [wr_i64 (n := (p : Int) - 65536) (by omega), hhi, wr_nat (by omega), wr_i64 (by omega)]; simp
    have e2 : wr .i64 (56320 + (wr .i64 ((p : Int) - 65536)).tmod 1024) = ((56320 + (p - 65536) % 1024 : Nat) : Int) := by
      rw [wr_i64 (n := (p : Int) - 65536) (by omega), hlo, wr_i64 (by omega)]; simp
    have hge : (p : Int) ≥ 65536 := by omega
    refine (join_to (a := 34 :: 92 :: 117 :: (u4 up (55296 + (p - 65536) / 1024) ++ (92 :: 117 :: (u4 up (56320 + (p - 65536) % 1024) ++ [34])))) fun k => ?_).trans ?_
    · rw [if_pos (decide_eq_true hge), e1, e2, unit4_eq up _ (by omega), Option.bind_some, grd_true (by unfold fitsS; simp [u4]), unit4_eq up _ (by omega), Option.bind_some, grd_true (by unfold fitsS; simp [u4]), grd_true (by unfold fitsS; simp [u4])]
      rfl
    try dsimp only
    rw [show (0 : Int) = ((0 : Nat) : Int) from rfl, pnext_eq (by simp [u4]) (by simp [u4]) (by omega), Option.bind_some]
    have hpt : pointB (p : Int) = true := by simp only [pointB, Bool.and_eq_true, Bool.or_eq_true, decide_eq_true_eq]; omega
    rw [next_esc (esc_pair up (by omega) (by omega) [34]) (by rfl) (by decide), encR_ok hpt]
    have hs : surB (55296 + (p - 65536) / 1024) (56320 + (p - 65536) % 1024) = p := by unfold surB; omega
    rw [hs]
    simp [u4]
  · have hlt : ¬ (p : Int) ≥ 65536 := by omega
    refine (join_to (a := 34 :: 92 :: 117 :: (u4 up p ++ [34])) fun k => ?_).trans ?_
    · rw [if_neg (by simpa using hlt)]; rfl
    try dsimp only
    rw [show (0 : Int) = ((0 : Nat) : Int) from rfl, pnext_eq (by simp [u4]) (by simp [u4]) (by omega), Option.bind_some]
    by_cases hs : 55296 ≤ p ∧ p ≤ 57343
    · have hpt : pointB (p : Int) = false := by
        have : ¬ pointB (p : Int) = true := by simp only [pointB, Bool.and_eq_true, Bool.or_eq_true, decide_eq_true_eq]; omega
        simpa using this
      rw [next_bad (esc_none up (by omega) hs) (by decide), encR_no hpt]
      rfl
    · have hpt : pointB (p : Int) = true := by simp only [pointB, Bool.and_eq_true, Bool.or_eq_true, decide_eq_true_eq]; omega
      rw [next_esc (esc_one up (by omega) hs [34]) (by rfl) (by decide), encR_ok hpt]
      simp [u4]
end Go.VM
