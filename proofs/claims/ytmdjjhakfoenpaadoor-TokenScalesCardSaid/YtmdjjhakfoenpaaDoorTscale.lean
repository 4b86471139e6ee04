/- The plain law of TokenScales: a power of ten moves between digits and exponent. -/
import Derived.Test.YtmdjjhakfoenpaaDoorTonce
set_option linter.unusedVariables false
set_option linter.unusedSimpArgs false
namespace Go.VM
section
variable {N : Nat}
theorem mod10i {n : Nat} : wr .i64 (48 + (n : Int).tmod 10) = ((48 + n % 10 : Nat) : Int) := by
  rw [Int.tmod_eq_emod_of_nonneg (by omega), wr_i64 (by omega)]; simp
theorem div10i {n : Nat} (h : n < 2 ^ 60) : wr .i64 ((n : Int).tdiv 10) = ((n / 10 : Nat) : Int) := by
  rw [Int.tdiv_eq_ediv_of_nonneg (by omega), wr_i64 (by omega)]; simp
theorem digits_loop : ∀ (k n : Nat) (acc : List UInt8), n < 10 ^ k → n < 2 ^ 60 → acc.length + k ≤ 1000 → ∀ m, k ≤ m → 0 < k → law13_digits_L1 N m (n : Int) acc = some (fmtF k n acc)
  | 0, n, acc, h, h2, ha, m, hm, hk => by omega
  | k + 1, n, acc, h, h2, ha, m + 1, hm, hk => by
    rw [law13_digits_L1, div10i h2, mod10i, fmtF]
    rw [grd_true (by unfold fitsS; simp; omega)]
    have e : (List.map bchr [wr .u8 ((48 + n % 10 : Nat) : Int)] ++ acc) = UInt8.ofNat (48 + n % 10) :: acc := by
      rw [wrn_u8, Nat.mod_eq_of_lt (show 48 + n % 10 < 256 by omega)]; rfl
    rw [e]
    by_cases c : n / 10 = 0
    · rw [if_pos (by rw [c]; rfl), if_pos c]
    · have c' : ¬ ((((n / 10 : Nat) : Int)) == 0) = true := by simp <;> omega
      rw [if_neg c', if_neg c]
      have hk2 : 0 < k := by
        cases k with
        | zero => simp at h; omega
        | succ => omega
      exact digits_loop k (n / 10) _ (by rw [Nat.pow_succ] at h; omega) (by omega) (by simp; omega) m (by omega) hk2
theorem digits_eq (n : Nat) (h : n < 2 ^ 60) (hN : 20 ≤ N) : law13_digits N (n : Int) = some (fmtS n) := by
  unfold law13_digits fmtS
  exact digits_loop 20 n [] (by omega) h (by simp) N hN (by omega)
theorem zeros_loop (k6 : List UInt8 → Option Bool) : ∀ (k : Nat) (s : List UInt8), s.length + k ≤ 1000 → law13_TokenScales_L1 N k6 k s = k6 (s ++ List.replicate k 48)
  | 0, s, h => by rw [law13_TokenScales_L1]; simp
  | k + 1, s, h => by
    rw [law13_TokenScales_L1, grd_true (by unfold fitsS; simp; omega), zeros_loop k6 k (s ++ [48]) (by simp; omega), List.append_assoc, List.replicate_succ]; rfl
theorem trimE_zeros (D : List UInt8) : ∀ k : Nat, trimE (fun x : UInt8 => x == 48) (D ++ List.replicate k 48) = trimE (fun x : UInt8 => x == 48) D
  | 0 => by simp
  | k + 1 => by rw [List.replicate_succ', ← List.append_assoc, trimE_snoc, if_pos (by decide), trimE_zeros D k]
/-- digits that begin with no nought -/
def Lead (D : List UInt8) : Prop := ∃ c r, D = c :: r ∧ (c == 48) = false
theorem Lead.app {D : List UInt8} (h : Lead D) (r : List UInt8) : Lead (D ++ r) := by
  obtain ⟨c, q, rfl, hc⟩ := h; exact ⟨c, q ++ r, rfl, hc⟩
theorem Lead.drop {D : List UInt8} (h : Lead D) : D.dropWhile (fun x : UInt8 => x == 48) = D := by
  obtain ⟨c, q, rfl, hc⟩ := h; rw [List.dropWhile_cons, hc]; rfl
theorem canonS_zeros {D : List UInt8} (h : Lead D) (k : Nat) (x : Int) : canonS [] (D ++ List.replicate k 48) x = canonS [] D (x + k) := by
  unfold canonS
  dsimp only
  rw [(h.app _).drop, h.drop, trimE_zeros]
  have : x + ((D ++ List.replicate k 48).length : Int) - ((trimE (fun x : UInt8 => x == 48) D).length : Int) = x + (k : Int) + (D.length : Int) - ((trimE (fun x : UInt8 => x == 48) D).length : Int) := by
    simp only [List.length_append, List.length_replicate]; omega
  rw [this]
theorem canonS_ok {D : List UInt8} (h : Lead D) (hd : D.all digC = true) (hl : D.length ≤ 40) {x : Int} (hx : 0 ≤ x ∧ x ≤ 350) : (canonS [] D x).2 = 0 := by
  have hz : trimE (fun x : UInt8 => x == 48) (D.dropWhile (fun x : UInt8 => x == 48)) ≠ [] := by
    rw [h.drop]
    obtain ⟨c, r, rfl, hc⟩ := h
    have key : ∀ (n : Nat) (r : List UInt8), r.length = n → trimE (fun x : UInt8 => x == 48) (c :: r) ≠ [] := by
      intro n
      induction n with
      | zero =>
        intro r hr
        have : r = [] := List.length_eq_zero_iff.1 hr
        subst this
        unfold trimE; simp [hc]
      | succ n ih =>
        intro r hr
        obtain ⟨r', y, rfl⟩ : ∃ l' y, r = l' ++ [y] := by
          have hne : r ≠ [] := fun e => by subst e; simp at hr
          exact ⟨r.dropLast, r.getLast hne, (List.dropLast_concat_getLast hne).symm⟩
        rw [← List.cons_append, trimE_snoc]
        split
        · exact ih r' (by simpa using hr)
        · simp
    exact key _ r rfl
  have hle := trimE_le (fun x : UInt8 => x == 48) (D.dropWhile (fun x : UInt8 => x == 48))
  unfold canonS
  dsimp only
  rw [if_neg hz]
  rw [h.drop] at hle ⊢
  rw [if_neg (by omega)]
/-- a numeral of digits with an exponent -/
theorem num_of {W P EX s : List UInt8} {F FR : List UInt8} {e : Nat} (hs : s = W ++ (FR ++ EX)) (hW : Lead W) (hd : W.all digC = true) (hF : (FR = [] ∧ F = []) ∨ FR = 46 :: F) (hFn : FR = [] ∨ F ≠ []) (hFd : F.all digC = true) (hE : EX = 101 :: P ∨ EX = 69 :: P) (hP : P = fmtS e ∨ P = 43 :: fmtS e) (he : e ≤ 1000) (hl : s.length ≤ 1000) (hN : 2000 ≤ N) :
    token_Number N s = some (canonS [] (W ++ F) ((e : Int) - F.length)) := by
  obtain ⟨f1, f2, f3, f4⟩ := fmtS_parts e (by omega)
  have hpw : PowOK P := by
    rcases hP with h | h
    · exact .inr ⟨[], _, h, .inl rfl, f3, f1⟩
    · exact .inr ⟨[43], _, h, .inr (.inl rfl), f3, f1⟩
  have hne : P ≠ [] := by
    rcases hP with h | h
    · rw [h]; exact f3
    · rw [h]; simp
  have hWn : W ≠ [] := by obtain ⟨c, r, e, _⟩ := hW; rw [e]; simp
  have h : NumP s [] W F FR P EX := ⟨by rw [hs]; rfl, .inl rfl, hd, hWn, hF, hFd, .inr hE, hpw⟩
  have hnum := num_whole h (.inr hW) hFn (.inr hne)
  have hv : expV (2 ^ 40) P = (e : Int) := by
    unfold expV
    rcases hP with h | h
    · rw [h, drop_dig f1, f2, head_dig f1 (by decide), if_neg (by decide), Nat.min_eq_left (by omega)]
    · have e1 : (43 :: fmtS e).dropWhile ([43, 45] : List UInt8).contains = fmtS e := by
        rw [List.dropWhile_cons, show ([43, 45] : List UInt8).contains 43 = true from rfl, if_pos rfl]; exact drop_dig f1
      rw [h, e1, f2, show headB [45] (43 :: fmtS e) = false from rfl, if_neg (by decide), Nat.min_eq_left (by omega)]
  rw [pnum_eq h hnum (by omega) (by omega), hv]
end
theorem tokenScales_said (m : Int) (hm : (Lit.int .u32 m).wf = true) (z : Int) (hz : (Lit.int .u8 z).wf = true) (e : Int) (he : (Lit.int .u8 e).wf = true) : law13_TokenScales 5000 m z e = some true := by
  have h1 := wf_u32 hm
  have h2 := wf_u8 hz
  have h3 := wf_u8 he
  obtain ⟨m, rfl⟩ : ∃ n : Nat, m = n := ⟨m.toNat, by omega⟩
  obtain ⟨z, rfl⟩ : ∃ n : Nat, z = n := ⟨z.toNat, by omega⟩
  obtain ⟨e, rfl⟩ : ∃ n : Nat, e = n := ⟨e.toNat, by omega⟩
  have hmod : wr .i64 ((z : Int).tmod 30) = ((z % 30 : Nat) : Int) := by
    rw [Int.tmod_eq_emod_of_nonneg (by omega), wr_i64 (by omega)]; simp
  obtain ⟨k, hk⟩ : ∃ k, z % 30 = k := ⟨_, rfl⟩
  have hkl : k < 30 := by rw [← hk]; exact Nat.mod_lt _ (by decide)
  rw [hk] at hmod
  unfold law13_TokenScales
  rw [sane13o, Option.bind_some, if_pos rfl]
  by_cases h0 : m = 0
  · subst h0; rfl
  have h0' : ¬ ((m : Int) == 0) = true := by simpa using h0
  rw [if_neg h0', wr_nat (by omega), digits_eq m (by omega) (by omega), Option.bind_some, hmod]
  obtain ⟨f1, f2, f3, f4⟩ := fmtS_parts m (by omega)
  have hD : Lead (fmtS m) := f4 h0
  have hlD := fmtS_len m
  have hle := fmtS_len e
  have hlk := fmtS_len (e + k)
  refine (join_to (a := fmtS m ++ List.replicate k 48) fun k6 => ?_).trans ?_
  · rw [grd_true (by omega), show ((k : Int) - 0).toNat = k by omega, zeros_loop k6 k _ (by omega)]
  try dsimp only
  have w3 : wr .i64 ((e : Int) + (k : Int)) = ((e + k : Nat) : Int) := by rw [wr_i64 (by omega)]; simp
  rw [wr_nat (n := e) (by omega), w3, digits_eq e (by omega) (by omega), digits_eq (e + k) (by omega) (by omega)]
  simp only [Option.bind_some]
  have g : ∀ n : Nat, n ≤ 1000 → fitsS n := fun n h => by unfold fitsS; omega
  rw [grd_true (g _ (by simp; omega)), grd_true (g _ (by simp; omega))]
  have n1 := num_of (N := 5000) (W := fmtS m ++ List.replicate k 48) (P := fmtS e) (EX := 101 :: fmtS e) (F := []) (FR := []) (e := e) (s := (fmtS m ++ List.replicate k 48) ++ [101] ++ fmtS e) (by simp) (hD.app _) (by rw [List.all_append, f1]; simp [List.all_replicate]; right; decide) (.inl ⟨rfl, rfl⟩) (.inl rfl) rfl (.inl rfl) (.inl rfl) (by omega) (by simp; omega) (by omega)
  have n2 := num_of (N := 5000) (W := fmtS m) (P := 43 :: fmtS (e + k)) (EX := 69 :: 43 :: fmtS (e + k)) (F := []) (FR := []) (e := e + k) (s := fmtS m ++ [69, 43] ++ fmtS (e + k)) (by simp) hD f1 (.inl ⟨rfl, rfl⟩) (.inl rfl) rfl (.inr rfl) (.inr rfl) (by omega) (by simp; omega) (by omega)
  have n3 := num_of (N := 5000) (W := fmtS m) (P := fmtS (e + k)) (EX := 101 :: fmtS (e + k)) (F := [48]) (FR := [46, 48]) (e := e + k) (s := fmtS m ++ [46, 48, 101] ++ fmtS (e + k)) (by simp) hD f1 (.inr rfl) (.inr (by simp)) rfl (.inl rfl) (.inl rfl) (by omega) (by simp; omega) (by omega)
  rw [n1, Option.bind_some, grd_true (g _ (by simp; omega)), grd_true (g _ (by simp; omega)), n2, Option.bind_some, grd_true (g _ (by simp; omega)), grd_true (g _ (by simp; omega)), n3, Option.bind_some]
  have c1 : canonS [] ((fmtS m ++ List.replicate k 48) ++ []) ((e : Int) - (([] : List UInt8).length : Int)) = canonS [] (fmtS m) ((e + k : Nat) : Int) := by
    rw [List.append_nil, canonS_zeros hD]; simp
  have c2 : canonS [] (fmtS m ++ []) (((e + k : Nat) : Int) - (([] : List UInt8).length : Int)) = canonS [] (fmtS m) ((e + k : Nat) : Int) := by
    rw [List.append_nil]; simp
  have c3 : canonS [] (fmtS m ++ [48]) (((e + k : Nat) : Int) - (([48] : List UInt8).length : Int)) = canonS [] (fmtS m) ((e + k : Nat) : Int) := by
    rw [show ([48] : List UInt8) = List.replicate 1 48 from rfl, canonS_zeros hD]; simp
  rw [c1, c2, c3, canonS_ok hD f1 (by omega) (by omega)]
  simp
end Go.VM
