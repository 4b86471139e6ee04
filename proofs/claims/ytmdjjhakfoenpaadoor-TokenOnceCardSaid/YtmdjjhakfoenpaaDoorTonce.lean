/- The plain law of TokenOnce: a canonical form is its own. -/
import Derived.Test.YtmdjjhakfoenpaaDoorTnum
import Derived.Test.YtmdjjhakfoenpaaDoorNext
set_option linter.unusedVariables false
set_option linter.unusedSimpArgs false
namespace Go.VM
theorem val10_snoc : ∀ (l : List UInt8) (v : Nat) (c : UInt8), val10 v (l ++ [c]) = val10 v l * 10 + hexD c.toNat
  | [], v, c => by rw [List.nil_append, val10, val10, val10]
  | x :: l, v, c => by rw [List.cons_append, val10, val10, val10_snoc l]
theorem digit_is {d : Nat} (h : d < 10) : digC (UInt8.ofNat (48 + d)) = true ∧ hexD (UInt8.ofNat (48 + d)).toNat = d ∧ (d ≠ 0 → ((UInt8.ofNat (48 + d)) == 48) = false) := by
  have e : (UInt8.ofNat (48 + d)).toNat = 48 + d := toNat_ofNat (by omega)
  refine ⟨?_, ?_, fun hd => ?_⟩
  · unfold digC; rw [e]; simp; omega
  · unfold hexD; rw [e, if_pos (by omega)]; omega
  · have : UInt8.ofNat (48 + d) ≠ 48 := fun h => by
      have := congrArg UInt8.toNat h
      rw [e] at this
      have h2 : (48 : UInt8).toNat = 48 := rfl
      omega
    simpa using this
theorem fmtF_parts : ∀ (k n : Nat) (acc : List UInt8), n < 10 ^ k → 0 < k → ∃ D, fmtF k n acc = D ++ acc ∧ D.all digC = true ∧ (∀ v, val10 v D = v * 10 ^ D.length + n) ∧ D ≠ [] ∧ D.length ≤ k ∧ (n ≠ 0 → ∃ c r, D = c :: r ∧ (c == 48) = false)
  | 0, n, acc, h, hk => by omega
  | k + 1, n, acc, h, hk => by
    have hd : n % 10 < 10 := Nat.mod_lt _ (by decide)
    obtain ⟨d1, d2, d3⟩ := digit_is hd
    rw [fmtF]
    by_cases c : n / 10 = 0
    · rw [if_pos c]
      refine ⟨[UInt8.ofNat (48 + n % 10)], rfl, by rw [List.all_cons, d1]; rfl, fun v => ?_, by simp, by simp, fun hn => ⟨_, _, rfl, d3 (by omega)⟩⟩
      rw [val10, val10, d2]
      simp; omega
    · rw [if_neg c]
      have hk2 : 0 < k := by
        cases k with
        | zero => simp at h; omega
        | succ => omega
      obtain ⟨D, e1, e2, e3, e4, e5, e6⟩ := fmtF_parts k (n / 10) (UInt8.ofNat (48 + n % 10) :: acc) (by rw [Nat.pow_succ] at h; omega) hk2
      refine ⟨D ++ [UInt8.ofNat (48 + n % 10)], by rw [e1]; simp, by rw [List.all_append, e2, List.all_cons, d1]; rfl, fun v => ?_, by simp, by simp; omega, fun hn => ?_⟩
      · rw [val10_snoc, e3, d2, List.length_append, List.length_cons, List.length_nil, Nat.pow_succ]
        have e : v * (10 ^ D.length * 10) = v * 10 ^ D.length * 10 := by rw [Nat.mul_assoc]
        rw [e]; omega
      · obtain ⟨a, r, rfl, ha⟩ := e6 c
        exact ⟨a, r ++ _, rfl, ha⟩
theorem fmtS_parts (n : Nat) (h : n < 2 ^ 64) : (fmtS n).all digC = true ∧ val10 0 (fmtS n) = n ∧ fmtS n ≠ [] ∧ (n ≠ 0 → ∃ c r, fmtS n = c :: r ∧ (c == 48) = false) := by
  obtain ⟨D, e1, e2, e3, e4, e5, e6⟩ := fmtF_parts 20 n [] (by omega) (by decide)
  rw [List.append_nil] at e1
  unfold fmtS; rw [e1]
  refine ⟨e2, ?_, e4, e6⟩
  rw [e3]; simp
theorem head_app {set a b : List UInt8} (h : a ≠ []) : headB set (a ++ b) = headB set a := by
  cases a with
  | nil => exact absurd rfl h
  | cons => rfl
theorem head_dig {k : UInt8} {D : List UInt8} (h : D.all digC = true) (hk : digC k = false) : headB [k] D = false := by
  cases D with
  | nil => rfl
  | cons c D =>
    simp only [List.all_cons, Bool.and_eq_true] at h
    have := dig_ne h.1 hk
    show ([k] : List UInt8).contains c = false
    simpa using this
/-- what has the parts of a numeral, with no nought too many, is all numeral -/
theorem num_whole {s sg W F FR P EX : List UInt8} (h : NumP s sg W F FR P EX) (hW : W = [48] ∨ ∃ c r, W = c :: r ∧ (c == 48) = false) (hF : FR = [] ∨ F ≠ []) (hP : EX = [] ∨ P ≠ []) : numN s = s.length := by
  have h45 : headB [45] (W ++ (FR ++ EX)) = false := by rw [head_app h.Wn]; exact head_dig h.Wd (by decide)
  have hs : signN s = sg.length := by
    unfold signN
    rcases h.sg with e | e
    · rw [h.eq, e, List.nil_append, h45]; rfl
    · rw [h.eq, e]; rfl
  have d1 : s.drop (signN s) = W ++ (FR ++ EX) := by rw [hs, h.eq, List.drop_left]
  have nodig : ∀ r : List UInt8, r = [] ∨ (∃ c q, r = c :: q ∧ digC c = false) → ∀ D : List UInt8, D.all digC = true → runC (D ++ r) = D.length := fun r hr D hD => run_of hD hr
  have hEX : EX = [] ∨ ∃ c q, EX = c :: q ∧ digC c = false := by
    rcases h.ex with ⟨e, _⟩ | e | e
    · exact .inl e
    · exact .inr ⟨_, _, e, rfl⟩
    · exact .inr ⟨_, _, e, rfl⟩
  have hFE : FR ++ EX = [] ∨ ∃ c q, FR ++ EX = c :: q ∧ digC c = false := by
    rcases h.fr with ⟨e, _⟩ | e
    · rw [e]; exact hEX
    · rw [e]; exact .inr ⟨_, _, rfl, rfl⟩
  have hi : intN (W ++ (FR ++ EX)) = W.length := by
    unfold intN
    rw [head_app h.Wn]
    rcases hW with e | ⟨c, r, e, hc⟩
    · rw [e]; rfl
    · have : headB [48] W = false := by
        rw [e]; show ([48] : List UInt8).contains c = false
        simpa using hc
      rw [this, if_neg (by decide)]
      exact run_of h.Wd hFE
  have hWl : W.length ≠ 0 := fun e => h.Wn (List.length_eq_zero_iff.1 e)
  have d2 : s.drop (signN s + intN (s.drop (signN s))) = FR ++ EX := by
    rw [← List.drop_drop, d1, hi, List.drop_left]
  have hf : fracN (FR ++ EX) = FR.length := by
    unfold fracN
    rcases h.fr with ⟨e, _⟩ | e
    · rw [e, List.nil_append]
      have : headB [46] EX = false := by
        rcases h.ex with ⟨e, _⟩ | e | e <;> rw [e] <;> rfl
      rw [this, if_neg (by simp)]; rfl
    · have hF' : F ≠ [] := by
        rcases hF with e2 | e2
        · rw [e2] at e; cases e
        · exact e2
      have hr : runC ((FR ++ EX).drop 1) = F.length := by rw [e]; exact run_of h.Fd hEX
      have hpos : 0 < F.length := List.length_pos_iff.2 hF'
      rw [if_pos ⟨by rw [e]; rfl, by rw [hr]; exact hpos⟩, hr, e]; simp; omega
  have d3 : s.drop (signN s + intN (s.drop (signN s)) + fracN (s.drop (signN s + intN (s.drop (signN s))))) = EX := by
    rw [← List.drop_drop, d2, hf, List.drop_left]
  have he : expN EX = EX.length := by
    have key : ∀ c : UInt8, headB [101, 69] (c :: P) = true → P ≠ [] → expN (c :: P) = (c :: P).length := by
      intro c hc hP'
      unfold expN
      rcases h.pw with e | ⟨sn, D, e, hs, hD, hd⟩
      · exact absurd e hP'
      · have hpos : 0 < D.length := List.length_pos_iff.2 hD
        have hes : esgN (c :: P) = sn.length := by
          unfold esgN
          show (if headB [43, 45] P = true then 1 else 0) = sn.length
          rw [e]
          rcases hs with e | e | e
          · rw [e, List.nil_append]
            have : headB [43, 45] D = false := by
              cases D with
              | nil => exact absurd rfl hD
              | cons x D =>
                simp only [List.all_cons, Bool.and_eq_true] at hd
                exact dig_set hd.1
            rw [this]; rfl
          · rw [e]; rfl
          · rw [e]; rfl
        have hdr : (c :: P).drop (1 + esgN (c :: P)) = D := by
          rw [hes, Nat.add_comm, List.drop_succ_cons, e, List.drop_left]
        have hrun : runC D = D.length := by
          have := run_of (r := []) hd (.inl rfl)
          rwa [List.append_nil] at this
        rw [hdr, hrun, if_pos ⟨hc, hpos⟩, hes, e]
        simp; omega
    rcases h.ex with ⟨e, _⟩ | e | e
    · rw [e]; rfl
    · have hP' : P ≠ [] := by
        rcases hP with e2 | e2
        · rw [e2] at e; cases e
        · exact e2
      rw [e]; exact key 101 rfl hP'
    · have hP' : P ≠ [] := by
        rcases hP with e2 | e2
        · rw [e2] at e; cases e
        · exact e2
      rw [e]; exact key 69 rfl hP'
  unfold numN
  rw [d1, hi, if_neg hWl, ← hi, ← d1, d3, he, d2, hf, d1, hi, hs, h.eq]
  simp only [List.length_append]; omega
/-- digits without noughts at their ends -/
def Tight (sh : List UInt8) : Prop := sh.all digC = true ∧ (∃ c r, sh = c :: r ∧ (c == 48) = false) ∧ trimE (· == 48) sh = sh
theorem tight_of {m : List UInt8} (hm : m.all digC = true) (hz : trimE (· == 48) (m.dropWhile (· == 48)) ≠ []) : Tight (trimE (· == 48) (m.dropWhile (· == 48))) := by
  have hd : (m.dropWhile (· == 48)).all digC = true := by
    have := (List.dropWhile_sublist (fun x : UInt8 => x == 48) (l := m)).subset
    simp only [List.all_eq_true] at hm ⊢
    exact fun c hc => hm c (this hc)
  have hhd : m.dropWhile (fun x : UInt8 => x == 48) = [] ∨ ∃ c r, m.dropWhile (fun x : UInt8 => x == 48) = c :: r ∧ (c == 48) = false := by
    clear hz hd hm
    induction m with
    | nil => exact .inl rfl
    | cons c l ih =>
      rw [List.dropWhile_cons]
      cases hc : (c == 48)
      · exact .inr ⟨c, l, rfl, hc⟩
      · exact ih
  generalize m.dropWhile (fun x : UInt8 => x == 48) = m1 at *
  rcases hhd with rfl | ⟨c, r, rfl, hc⟩
  · exact absurd rfl hz
  -- by the length of what is behind the head
  have key : ∀ (n : Nat) (r : List UInt8), r.length = n → (c :: r).all digC = true → ∃ q, trimE (fun x : UInt8 => x == 48) (c :: r) = c :: q ∧ (c :: q).all digC = true ∧ trimE (fun x : UInt8 => x == 48) (c :: q) = c :: q := by
    intro n
    induction n with
    | zero =>
      intro r hr hd
      have : r = [] := List.length_eq_zero_iff.1 hr
      subst this
      exact ⟨[], by unfold trimE; simp [hc], hd, by unfold trimE; simp [hc]⟩
    | succ n ih =>
      intro r hr hd
      obtain ⟨r', y, rfl⟩ : ∃ l' y, r = l' ++ [y] := by
        have hne : r ≠ [] := fun e => by subst e; simp at hr
        exact ⟨r.dropLast, r.getLast hne, (List.dropLast_concat_getLast hne).symm⟩
      rw [← List.cons_append, trimE_snoc]
      by_cases hy : (y == 48) = true
      · rw [if_pos hy]
        refine ih r' (by simpa using hr) ?_
        rw [← List.cons_append, List.all_append, Bool.and_eq_true] at hd
        exact hd.1
      · rw [if_neg hy]
        refine ⟨r' ++ [y], rfl, hd, ?_⟩
        rw [← List.cons_append, trimE_snoc, if_neg hy]
  obtain ⟨q, e1, e2, e3⟩ := key r.length r rfl hd
  rw [e1]
  exact ⟨e2, ⟨c, q, rfl, hc⟩, e3⟩
/-- the exponent of a canonical form -/
def powT (y : Int) : List UInt8 := if y < 0 then 45 :: fmtS (-y).toNat else if y > 0 then fmtS y.toNat else []
theorem powT_ok (y : Int) (hy : -400 ≤ y ∧ y ≤ 400) : PowOK (powT y) ∧ expV (2 ^ 40) (powT y) = y ∧ (expT y = [] ∨ powT y ≠ []) ∧ ((expT y = [] ∧ powT y = []) ∨ expT y = 101 :: powT y) := by
  unfold powT expT
  by_cases c1 : y < 0
  · rw [if_pos c1, if_pos c1]
    obtain ⟨f1, f2, f3, f4⟩ := fmtS_parts (-y).toNat (by omega)
    refine ⟨.inr ⟨[45], _, rfl, .inr (.inr rfl), f3, f1⟩, ?_, .inr (by simp), .inr rfl⟩
    unfold expV
    have e : (45 :: fmtS (-y).toNat).dropWhile ([43, 45] : List UInt8).contains = fmtS (-y).toNat := by
      rw [List.dropWhile_cons, show ([43, 45] : List UInt8).contains 45 = true from rfl, if_pos rfl]; exact drop_dig f1
    rw [e, f2, if_pos (by rfl), Nat.min_eq_left (by omega)]; omega
  · rw [if_neg c1, if_neg c1]
    by_cases c2 : y > 0
    · rw [if_pos c2, if_pos c2]
      obtain ⟨f1, f2, f3, f4⟩ := fmtS_parts y.toNat (by omega)
      refine ⟨.inr ⟨[], _, rfl, .inl rfl, f3, f1⟩, ?_, .inr f3, .inr rfl⟩
      unfold expV
      rw [drop_dig f1, f2, head_dig f1 (by decide), if_neg (by decide), Nat.min_eq_left (by omega)]; omega
    · rw [if_neg c2, if_neg c2]
      refine ⟨.inl rfl, ?_, .inl rfl, .inl ⟨rfl, rfl⟩⟩
      have : y = 0 := by omega
      subst this; rfl
theorem canonS_tight {sg sh : List UInt8} {y : Int} (h : Tight sh) (hl : sh.length ≤ 40) (hy : -400 ≤ y ∧ y ≤ 400) : canonS sg sh y = (sg ++ sh ++ expT y, 0) := by
  obtain ⟨h1, ⟨c, r, e, hc⟩, h3⟩ := h
  have hd : sh.dropWhile (fun x : UInt8 => x == 48) = sh := by rw [e, List.dropWhile_cons, hc]; rfl
  have hne : sh ≠ [] := by rw [e]; simp
  unfold canonS
  dsimp only
  rw [hd, h3, if_neg hne, if_neg (by omega), show y + (sh.length : Int) - (sh.length : Int) = y by omega]
theorem canon_parts {sg sh : List UInt8} {y : Int} (hsg : sg = [] ∨ sg = [45]) (h : Tight sh) (hy : -400 ≤ y ∧ y ≤ 400) : NumP (sg ++ sh ++ expT y) sg sh [] [] (powT y) (expT y) ∧ numN (sg ++ sh ++ expT y) = (sg ++ sh ++ expT y).length := by
  obtain ⟨p1, p2, p3, p4⟩ := powT_ok y hy
  have hp : NumP (sg ++ sh ++ expT y) sg sh [] [] (powT y) (expT y) := ⟨by simp, hsg, h.1, by obtain ⟨c, r, e, _⟩ := h.2.1; rw [e]; simp, .inl ⟨rfl, rfl⟩, rfl, by
    rcases p4 with ⟨a, b⟩ | a
    · exact .inl ⟨a, b⟩
    · exact .inr (.inl a), p1⟩
  exact ⟨hp, num_whole hp (.inr h.2.1) (.inl rfl) p3⟩
theorem zero_parts : NumP [48] [] [48] [] [] [] [] := ⟨rfl, .inl rfl, rfl, by simp, .inl ⟨rfl, rfl⟩, rfl, .inl ⟨rfl, rfl⟩, .inl rfl⟩
theorem zero_num : numN [48] = 1 := num_whole zero_parts (.inl rfl) (.inl rfl) (.inl rfl)
theorem zero_canon (x : Int) : canonS [] [48] x = ([48], 0) := rfl
/-- a numeral at the head is read as a number -/
theorem next_num {N : Nat} {s sg W F FR P EX : List UInt8} (h : NumP s sg W F FR P EX) (hn : numN s = s.length) : nextS N s 0 = (ApiToken.mk 4 s 0, (s.length : Int), 0) := by
  have hhead : ∃ c r, s = c :: r ∧ (c = 45 ∨ digC c = true) := by
    rcases h.sg with e | e
    · cases hW : W with
      | nil => exact absurd hW h.Wn
      | cons c W' =>
        have := h.Wd
        rw [hW, List.all_cons, Bool.and_eq_true] at this
        exact ⟨c, _, by rw [h.eq, e, hW]; rfl, .inr this.1⟩
    · exact ⟨45, _, by rw [h.eq, e]; rfl, .inl rfl⟩
  obtain ⟨c, r, rfl, hc⟩ := hhead
  have hcN : c.toNat = 45 ∨ (48 ≤ c.toNat ∧ c.toNat ≤ 57) := by
    rcases hc with rfl | hc
    · exact .inl rfl
    · exact .inr (dig_rng hc)
  have hws : wsB c = false := by
    simp only [wsB, wsN, Bool.or_eq_false_iff, decide_eq_false_iff_not]; omega
  have hpu : punct.contains c = false := by
    have := bytes_eq (f := fun n => if decide (n = 45 ∨ (48 ≤ n ∧ n ≤ 57)) = true then punct.contains (UInt8.ofNat n) else false) (g := fun _ => false) (by kernel_rfl) c
    simp only [UInt8.ofNat_toNat, decide_eq_true hcN, if_true] at this
    exact this
  unfold nextS
  rw [List.drop_zero, List.takeWhile_cons, hws]
  simp only [Bool.false_eq_true, if_false, List.length_nil, Nat.add_zero, List.drop_zero]
  rw [tokS_cons, if_neg (by rw [hpu]; decide), if_neg (by omega)]
  have hc2 : (([45] : List UInt8).contains c || digC c) = true := by
    rcases hc with rfl | hc
    · rfl
    · rw [hc]; simp
  rw [if_pos hc2, hn, if_neg (by simp), List.take_of_length_le (Nat.le_refl _)]
  simp
theorem sane13o : law13_sane 5000 = some true := by kernel_rfl
theorem once_end {x : List UInt8} {sg W F FR P EX : List UInt8} (h : NumP x sg W F FR P EX) (hn : numN x = x.length) (hl : x.length ≤ 2000) (hc : canonS sg (W ++ F) (expV (2 ^ 40) P - F.length) = (x, 0)) :
    (Option.bind (token_Number 5000 x) fun y5 => Option.bind (token_Next 5000 x 0) fun y7 => if (y5.2 == 0) = true then if (x == y5.1) = true then if (y7.2.2 == 0) = true then if (y7.1.kind == 4 && (y7.1.text == x && y7.1.at_ == 0)) = true then some (y7.2.1 == (x.length : Int)) else some false else some false else some false else some false) = some true := by
  rw [pnum_eq h hn (by omega) (by omega), Option.bind_some, hc, show (0 : Int) = ((0 : Nat) : Int) from rfl, pnext_eq (by omega) (by omega) (by omega), Option.bind_some, next_num h hn]
  simp
theorem tokenOnce_said (s : List UInt8) (hs : s.length ≤ reachBytes) : law13_TokenOnce 5000 s = some true := by
  unfold law13_TokenOnce
  rw [sane13o, Option.bind_some, if_pos rfl]
  by_cases hl : (s.length : Int) > 1000
  · rw [if_pos (decide_eq_true hl)]
  rw [if_neg (by simpa using hl)]
  by_cases hn : s = [] ∨ numN s ≠ s.length
  · rw [pnum_bad s hn (by omega), Option.bind_some]; rfl
  have hne : s ≠ [] := fun e => hn (.inl e)
  have hnum : numN s = s.length := Classical.not_not.1 fun e => hn (.inr e)
  obtain ⟨sg, W, F, FR, P, EX, h⟩ := num_parts hne hnum
  obtain ⟨l1, l2, l3⟩ := h.len
  rw [pnum_eq h hnum (by omega) (by omega), Option.bind_some]
  have hm : (W ++ F).all digC = true := by rw [List.all_append, h.Wd, h.Fd]; rfl
  generalize hx : expV (2 ^ 40) P - (F.length : Int) = x
  by_cases hz : trimE (fun x : UInt8 => x == 48) ((W ++ F).dropWhile (fun x : UInt8 => x == 48)) = []
  · have hc : canonS sg (W ++ F) x = ([48], 0) := by unfold canonS; dsimp only; rw [if_pos hz]
    rw [hc, if_neg (by simp)]
    exact once_end zero_parts zero_num (by simp) (zero_canon _)
  · have ht := tight_of hm hz
    have hc : canonS sg (W ++ F) x = if (trimE (fun x : UInt8 => x == 48) ((W ++ F).dropWhile (fun x : UInt8 => x == 48))).length > 40 ∨ x + ((W ++ F).dropWhile (fun x : UInt8 => x == 48)).length - (trimE (fun x : UInt8 => x == 48) ((W ++ F).dropWhile (fun x : UInt8 => x == 48))).length < -400 ∨ x + ((W ++ F).dropWhile (fun x : UInt8 => x == 48)).length - (trimE (fun x : UInt8 => x == 48) ((W ++ F).dropWhile (fun x : UInt8 => x == 48))).length > 400 then ([], 144) else (sg ++ trimE (fun x : UInt8 => x == 48) ((W ++ F).dropWhile (fun x : UInt8 => x == 48)) ++ expT (x + ((W ++ F).dropWhile (fun x : UInt8 => x == 48)).length - (trimE (fun x : UInt8 => x == 48) ((W ++ F).dropWhile (fun x : UInt8 => x == 48))).length), 0) := by
      unfold canonS; dsimp only; rw [if_neg hz]
    rw [hc]
    generalize trimE (fun x : UInt8 => x == 48) ((W ++ F).dropWhile (fun x : UInt8 => x == 48)) = sh at *
    generalize x + (((W ++ F).dropWhile (fun x : UInt8 => x == 48)).length : Int) - (sh.length : Int) = y at *
    by_cases hb : sh.length > 40 ∨ y < -400 ∨ y > 400
    · rw [if_pos hb]; rfl
    · rw [if_neg hb, if_neg (by simp)]
      have hy : -400 ≤ y ∧ y ≤ 400 := by omega
      obtain ⟨p1, p2⟩ := canon_parts h.sg ht hy
      have hlen : (sg ++ sh ++ expT y).length ≤ 2000 := by
        have f := fmtS_len
        have : (expT y).length ≤ 22 := by
          unfold expT
          have := f (-y).toNat
          have := f y.toNat
          split
          · simp; omega
          · split
            · simp; omega
            · simp
        simp only [List.length_append]
        omega
      refine once_end p1 p2 hlen ?_
      rw [List.append_nil, (powT_ok y hy).2.1]
      have := canonS_tight (sg := sg) ht (by omega) hy
      simpa using this
end Go.VM
