import Derived.Test.YtooeobhihpkicaaGreatDoorVM2
import GoSem.Claim
import Derived.Test.YtooeobhihpkicaaGreatDoorDefs
import Derived.KernelRfl
set_option linter.unusedVariables false
set_option linter.unusedSimpArgs false
namespace Go.VM
theorem JW {n : Nat} (h : n ≤ 9223372036854775807) : wr .i64 (n : Int) = n := by
  simp [wr, IntKind.wrap, IntKind.bits, IntKind.signed]; omega
theorem A8 {n : Int} (h : -9223372036854775808 ≤ n ∧ n ≤ 9223372036854775807) : wr .i64 n = n := by
  simp [wr, IntKind.wrap, IntKind.bits, IntKind.signed]; omega
theorem OH {α : Type} (l : List α) (n : Nat) : idx l (n : Int) = l[n]? := by simp [idx]
theorem AFK {α : Type} (pre suf : List α) (x : α) : idx (pre ++ x :: suf) (pre.length : Int) = some x := by simp [idx]
theorem ADo {α : Type} (pre : List α) (x : α) : (pre.length : Int) + 1 = ((pre ++ [x]).length : Int) := by simp
theorem FE {α : Type} (l : List α) (a b : Nat) (h1 : a ≤ b) (h2 : b ≤ l.length) : sub l (a : Int) (b : Int) = some ((l.drop a).take (b - a)) := by
  have h1' : (a : Int) ≤ b := by omega
  have h2' : (b : Int) ≤ l.length := by omega
  simp [sub, h1', h2']
theorem Aa {α : Type} {c : Prop} [Decidable c] {x : Option α} (h : c) : grd c x = x := by simp [grd, h]
theorem Z5 {α : Type} {n : Nat} {x : Option α} (h : n ≤ 4611686018427387904) : grd (Bi n) x = x := Aa h
theorem Au {α β : Type} (k : α → Option β) (body : (α → Option β) → Option β) : AZ k body = body k := rfl
theorem wf_u8 {n : Int} (h : (Lit.int .u8 n).wf = true) : 0 ≤ n ∧ n ≤ 255 := by
  simp only [Lit.wf, Bool.and_eq_true, decide_eq_true_eq] at h
  have e1 : IntKind.u8.min = 0 := by decide
  have e2 : IntKind.u8.max = 255 := by decide
  rw [e1, e2] at h; exact h
end Go.VM
namespace Go.VM
theorem MP (c : UInt8) : Ap c = (c.toNat : Int) := rfl
theorem Jo (c : UInt8) : IB (Ap c) = c := by simp [IB, Ap]
theorem toNat_ofNat {n : Nat} (h : n < 256) : (UInt8.ofNat n).toNat = n := by simp; omega
theorem F3 {P : Nat → Prop} [∀ n, Decidable (P n)] (h : (List.range 256).all (fun n => decide (P n)) = true) (c : UInt8) : P c.toNat := by
  have := List.all_eq_true.1 h c.toNat (List.mem_range.2 c.toNat_lt)
  simpa using this
theorem AHJ {n : Int} (h : 0 ≤ n ∧ n < 256) : wr .u8 n = n := by
  simp [wr, IntKind.wrap, IntKind.bits, IntKind.signed]; omega
theorem K8 {n : Int} (h : 0 ≤ n ∧ n < 18446744073709551616) : wr .u64 n = n := by
  simp [wr, IntKind.wrap, IntKind.bits, IntKind.signed]; omega
theorem ZZ {x : Nat} (h : x < 2 ^ 63) : (BitVec.ofInt 64 (x : Int)).toNat = x := by
  rw [BitVec.toNat_ofInt]; simp; omega
theorem AHz {x y : Nat} (hx : x < 2 ^ 62) (hy : y < 2 ^ 62) : JU .i64 x y = ((x ||| y : Nat) : Int) := by
  have h : x ||| y < 2 ^ 62 := Nat.or_lt_two_pow hx hy
  show IntKind.i64.wrap (((BitVec.ofInt 64 (x : Int) ||| BitVec.ofInt 64 (y : Int) : BitVec 64).toNat : Nat) : Int) = _
  rw [BitVec.toNat_or, ZZ (by omega), ZZ (by omega)]
  simp [IntKind.wrap, IntKind.bits, IntKind.signed]; omega
theorem AH4 {q y : Nat} (k : Nat) (h : y < 2 ^ k) : (q * 2 ^ k) ||| y = q * 2 ^ k + y := by
  rw [← Nat.shiftLeft_eq, Nat.shiftLeft_add_eq_or_of_lt h]
theorem AGH {q y : Nat} (k : Nat) (h : y < 2 ^ k) (hx : q * 2 ^ k < 2 ^ 62) (hy : y < 2 ^ 62) : JU .i64 ((q * 2 ^ k : Nat) : Int) (y : Int) = ((q * 2 ^ k + y : Nat) : Int) := by
  rw [AHz hx hy, AH4 k h]
theorem AFR {x k : Nat} (h : k ≤ 64) (hx : x * 2 ^ k < 2 ^ 63) : I5 .i64 (x : Int) (k : Int) = ((x * 2 ^ k : Nat) : Int) := by
  simp only [I5, IntKind.bits, Int.toNat_natCast]
  rw [Nat.min_eq_left h]
  have : (x : Int) * 2 ^ k = ((x * 2 ^ k : Nat) : Int) := by simp
  rw [this]
  exact JW (n := x * 2 ^ k) (by omega)
theorem AJ4 {x : Nat} (h : x < 2 ^ 50) : I5 .i64 (x : Int) 6 = ((x * 64 : Nat) : Int) := AFR (k := 6) (by decide) (by omega)
theorem AJX {x y : Nat} (h : x < 2 ^ 50) (hy : y < 64) : JU .i64 (I5 .i64 (x : Int) 6) (y : Int) = ((x * 64 + y : Nat) : Int) := by
  rw [AJ4 h]; exact AGH 6 hy (by omega) (by omega)
theorem Yh {n : Nat} : wr .u8 (n : Int) = ((n % 256 : Nat) : Int) := by
  simp [wr, IntKind.wrap, IntKind.bits, IntKind.signed]
theorem E9 : (List.range 256).all (fun n => decide (
    GQ .u8 (n : Int) 127 = ((n / 128 * 128 : Nat) : Int) ∧ GQ .u8 (n : Int) 31 = ((n / 32 * 32 : Nat) : Int) ∧ GQ .u8 (n : Int) 15 = ((n / 16 * 16 : Nat) : Int) ∧ GQ .u8 (n : Int) 7 = ((n / 8 * 8 : Nat) : Int) ∧
    Db .u8 (n : Int) 127 = ((n % 128 : Nat) : Int) ∧ Db .u8 (n : Int) 31 = ((n % 32 : Nat) : Int) ∧ Db .u8 (n : Int) 15 = ((n % 16 : Nat) : Int) ∧ Db .u8 (n : Int) 7 = ((n % 8 : Nat) : Int) ∧
    Db .u8 (n : Int) 192 = ((n / 64 * 64 : Nat) : Int) ∧ Db .u8 (n : Int) 63 = ((n % 64 : Nat) : Int))) = true := by decide +kernel
theorem AJM (c : UInt8) : GQ .u8 (Ap c) 127 = ((c.toNat / 128 * 128 : Nat) : Int) := (F3 E9 c).1
theorem AJ0 (c : UInt8) : GQ .u8 (Ap c) 31 = ((c.toNat / 32 * 32 : Nat) : Int) := (F3 E9 c).2.1
theorem AJf (c : UInt8) : GQ .u8 (Ap c) 15 = ((c.toNat / 16 * 16 : Nat) : Int) := (F3 E9 c).2.2.1
theorem bn7 (c : UInt8) : GQ .u8 (Ap c) 7 = ((c.toNat / 8 * 8 : Nat) : Int) := (F3 E9 c).2.2.2.1
theorem AJj (c : UInt8) : Db .u8 (Ap c) 127 = ((c.toNat % 128 : Nat) : Int) := (F3 E9 c).2.2.2.2.1
theorem b31 (c : UInt8) : Db .u8 (Ap c) 31 = ((c.toNat % 32 : Nat) : Int) := (F3 E9 c).2.2.2.2.2.1
theorem b15 (c : UInt8) : Db .u8 (Ap c) 15 = ((c.toNat % 16 : Nat) : Int) := (F3 E9 c).2.2.2.2.2.2.1
theorem b7 (c : UInt8) : Db .u8 (Ap c) 7 = ((c.toNat % 8 : Nat) : Int) := (F3 E9 c).2.2.2.2.2.2.2.1
theorem AJy (c : UInt8) : Db .u8 (Ap c) 192 = ((c.toNat / 64 * 64 : Nat) : Int) := (F3 E9 c).2.2.2.2.2.2.2.2.1
theorem b63 (c : UInt8) : Db .u8 (Ap c) 63 = ((c.toNat % 64 : Nat) : Int) := (F3 E9 c).2.2.2.2.2.2.2.2.2
end Go.VM
namespace Go.VM
section
variable {N : Nat}
def Jh (r : Int) : Bool := decide (0 ≤ r) && (decide (r ≤ 1114111) && (decide (r < 55296) || decide (r > 57343)))
theorem Zl (r : Int) : FO N r = some (Jh r) := by
  unfold FO Jh
  by_cases h1 : r ≥ 0 <;> by_cases h2 : r ≤ 1114111 <;> by_cases h3 : r < 55296 <;> simp [h1, h2, h3]
end
end Go.VM
namespace Go.VM
def Ok {α : Type} (x : Option α) (P : α → Prop) : Prop := ∃ a, x = some a ∧ P a
section
variable {α β : Type} {P : α → Prop} {Q : β → Prop}
theorem Ok.ret {a : α} (h : P a) : Ok (some a) P := ⟨a, rfl, h⟩
theorem Ok.bind {x : Option β} {f : β → Option α} (h : Ok x Q) (k : ∀ b, Q b → Ok (f b) P) : Ok (Option.bind x f) P := by
  obtain ⟨b, rfl, hb⟩ := h; exact k b hb
theorem Ok.grd {c : Prop} [Decidable c] {x : Option α} (hc : c) (h : Ok x P) : Ok (grd c x) P := by rw [Aa hc]; exact h
theorem Ok.meet (J : β → Prop) {k : β → Option α} {body : (β → Option α) → Option α} (hk : ∀ b, J b → Ok (k b) P) (hb : ∀ k' : β → Option α, (∀ b, J b → Ok (k' b) P) → Ok (body k') P) : Ok (AZ k body) P := hb k hk
theorem Ok.letL {x : β} {f : β → Option α} (h : Ok (f x) P) : Ok (letL x f) P := h
theorem Ok.mono {x : Option α} {P' : α → Prop} (h : Ok x P) (k : ∀ a, P a → P' a) : Ok x P' := by obtain ⟨a, e, ha⟩ := h; exact ⟨a, e, k a ha⟩
theorem Ok.eq {x : Option α} {a : α} (h : x = some a) : Ok x (· = a) := ⟨a, h, rfl⟩
theorem Ok.idx {l : List α} {i : Int} (h0 : 0 ≤ i) (h1 : i < l.length) : Ok (idx l i) (fun x => l[i.toNat]? = some x) := by
  have : i.toNat < l.length := by omega
  exact ⟨l[i.toNat], by simp [VM.idx, h0, List.getElem?_eq_getElem this], List.getElem?_eq_getElem this⟩
theorem Ok.sub {l : List α} {a b : Int} (h0 : 0 ≤ a) (h1 : a ≤ b) (h2 : b ≤ l.length) : Ok (sub l a b) (fun x => x = (l.drop a.toNat).take (b.toNat - a.toNat) ∧ x.length = (b - a).toNat) := by
  refine ⟨_, by simp [VM.sub, h0, h1, h2], rfl, ?_⟩
  simp; omega
end
end Go.VM
namespace Go.VM
section
variable {N : Nat}
def Ig (c : UInt8) : Bool := decide (c.toNat / 64 = 2)
def AAi : List UInt8 → Option (Nat × Nat)
  | [] => none
  | a :: t =>
    if a.toNat < 128 then some (a.toNat, 1)
    else if a.toNat / 32 = 6 then
      match t with
      | b :: _ => if Ig b = true ∧ 128 ≤ a.toNat % 32 * 64 + b.toNat % 64 then some (a.toNat % 32 * 64 + b.toNat % 64, 2) else none
      | _ => none
    else if a.toNat / 16 = 14 then
      match t with
      | b :: c :: _ => if Ig b = true ∧ Ig c = true ∧ 2048 ≤ (a.toNat % 16 * 64 + b.toNat % 64) * 64 + c.toNat % 64 ∧ Jh (((a.toNat % 16 * 64 + b.toNat % 64) * 64 + c.toNat % 64 : Nat)) = true then some ((a.toNat % 16 * 64 + b.toNat % 64) * 64 + c.toNat % 64, 3) else none
      | _ => none
    else if a.toNat / 8 = 30 then
      match t with
      | b :: c :: d :: _ => if Ig b = true ∧ Ig c = true ∧ Ig d = true ∧ 65536 ≤ ((a.toNat % 8 * 64 + b.toNat % 64) * 64 + c.toNat % 64) * 64 + d.toNat % 64 ∧ Jh ((((a.toNat % 8 * 64 + b.toNat % 64) * 64 + c.toNat % 64) * 64 + d.toNat % 64 : Nat)) = true then some (((a.toNat % 8 * 64 + b.toNat % 64) * 64 + c.toNat % 64) * 64 + d.toNat % 64, 4) else none
      | _ => none
    else none
def Hu (i : Nat) : Option (Nat × Nat) → Int × Int × Int
  | some (r, n) => ((r : Int), ((i + n : Nat) : Int), 0)
  | none => (0, 0, 7)
theorem PU {α : Type} {l t : List α} {x : α} {i j : Nat} (h : l.drop i = t) (hx : t[j]? = some x) : idx l ((i + j : Nat) : Int) = some x := by
  rw [OH, ← List.getElem?_drop, h, hx]
theorem Fq {α : Type} {l t : List α} {i : Nat} (h : l.drop i = t) (hi : i ≤ l.length) : l.length = i + t.length := by
  have := congrArg List.length h
  simp at this; omega
section
variable {l t : List UInt8} {i : Nat} {k13 : Int → Option (Int × Int × Int)}
theorem Tx (hi : i + 10 ≤ 2 ^ 60) {k m j : Nat} {r : Int} (h : m < j) (hj : j ≤ 5) : BK N l (i : Int) (m : Int) k13 (k + 1) r (j : Int) = k13 r := by
  rw [BK]
  have : ¬ (j : Int) ≤ m := by omega
  simp [this]
theorem LM (hi : i + 10 ≤ 2 ^ 60) {k m j r : Nat} {x : UInt8} (h : j ≤ m) (hm : m ≤ 3) (ht : l.drop i = t) (hx : t[j]? = some x) (hr : r < 2 ^ 50) :
    BK N l (i : Int) (m : Int) k13 (k + 1) (r : Int) (j : Int) = if Ig x = true then BK N l (i : Int) (m : Int) k13 k ((r * 64 + x.toNat % 64 : Nat) : Int) ((j + 1 : Nat) : Int) else some (0, 0, 7) := by
  rw [BK]
  have h1 : (j : Int) ≤ m := by omega
  have h2 : wr .i64 ((i : Int) + (j : Int)) = ((i + j : Nat) : Int) := by rw [A8 (by omega)]; simp
  have h3 : wr .i64 ((j : Int) + 1) = ((j + 1 : Nat) : Int) := by rw [A8 (by omega)]; simp
  have h4 : x.toNat % 64 < 64 := Nat.mod_lt _ (by decide)
  simp only [h1, decide_true, if_true, h2, h3]
  rw [PU ht hx, Option.bind_some, AJy, b63, JW (by omega), AJX hr h4]
  have h5 : ((((x.toNat / 64 * 64 : Nat) : Int)) != 128) = !Ig x := by
    unfold Ig
    by_cases hc : x.toNat / 64 = 2
    · rw [hc]; rfl
    · have : ¬ ((x.toNat / 64 * 64 : Nat) : Int) = 128 := by omega
      simp only [hc, decide_false, Bool.not_false, bne_iff_ne, ne_eq]; exact this
  rw [h5]
  cases Ig x <;> simp
theorem AJs : idx DK 0 = some (Utf8textForm.mk 0 127 0) := rfl
theorem AJt : idx DK 1 = some (Utf8textForm.mk 192 31 128) := rfl
theorem AJx : idx DK 2 = some (Utf8textForm.mk 224 15 2048) := rfl
theorem AJn : idx DK 3 = some (Utf8textForm.mk 240 7 65536) := rfl
def AA1 (i m least r : Nat) : Int × Int × Int := if least ≤ r ∧ Jh (r : Int) = true then ((r : Int), ((i + m : Nat) : Int), 0) else (0, 0, 7)
theorem ACP (hN : 5 ≤ N) (hi : i < l.length) (hb : l.length + 10 ≤ 2 ^ 60) : Fp N l (i : Int) = some (Hu i (AAi (l.drop i))) := by
  obtain ⟨M, rfl⟩ : ∃ M, N = M + 5 := ⟨N - 5, by omega⟩
  unfold Fp
  have c1 : ¬ ((i : Int) < 0) := by omega
  have c2 : ¬ ((i : Int) ≥ (l.length : Int)) := by omega
  simp only [Au, c1, c2, decide_false, Bool.false_eq_true, if_false]
  rw [Aa (by decide)]
  obtain ⟨t, ht⟩ : ∃ t, l.drop i = t := ⟨_, rfl⟩
  have hl := Fq ht (by omega)
  cases t with
  | nil => simp at hl; omega
  | cons a t =>
    have ha : idx l (i : Int) = some a := by
      have := PU (j := 0) ht rfl
      simpa using this
    have hat := a.toNat_lt
    simp only [List.length_cons] at hl
    have hw : wr .i64 (wr .i64 ((l.length : Int) - (i : Int)) - 1) = ((t.length : Nat) : Int) := by
      rw [A8 (n := (l.length : Int) - (i : Int)) (by omega), A8 (by omega)]; omega
    have he : ∀ m : Nat, m ≤ 3 → wr .i64 (wr .i64 ((i : Int) + (m : Int)) + 1) = ((i + (m + 1) : Nat) : Int) := by
      intro m hm
      rw [A8 (n := (i : Int) + (m : Int)) (by omega), A8 (by omega)]; omega
    have fin : ∀ (m least r : Nat), m ≤ 3 → (if decide ((r : Int) < (least : Int)) = true then (some (0, 0, 7) : Option (Int × Int × Int)) else Option.bind (FO (M + 5) (r : Int)) fun y22 => if (!y22) = true then some (0, 0, 7) else some ((r : Int), wr .i64 (wr .i64 ((i : Int) + (m : Int)) + 1), 0)) = some (AA1 i (m + 1) least r) := by
      intro m least r hm
      rw [Zl, Option.bind_some, he m hm]
      unfold AA1
      by_cases h1 : least ≤ r
      · have : ¬ (r : Int) < least := by omega
        cases hp : Jh (r : Int) <;> simp [h1, this, hp]
      · have : (r : Int) < least := by omega
        simp [h1, this]
    rw [ht]
    show Br (M + 5) l (i : Int) _ 4 0 = _
    rw [Br, AJs, Option.bind_some, ha, Option.bind_some, AJM, hw]
    unfold AAi
    by_cases h1 : a.toNat < 128
    · have e1 : ((a.toNat / 128 * 128 : Nat) : Int) = 0 := by omega
      have e2 : ¬ ((t.length : Int) < 0) := by omega
      simp only [e1, bne_self_eq_false, Bool.false_eq_true, if_false, e2, decide_false, Au, h1, if_true]
      rw [AJj, Nat.mod_eq_of_lt h1, JW (by omega)]
      rw [show BK (M + 5) l (i : Int) 0 = BK (M + 5) l (i : Int) ((0 : Nat) : Int) from rfl, show (1 : Int) = ((1 : Nat) : Int) from rfl, Tx (by omega) (by omega) (by omega)]
      have := fin 0 0 a.toNat (by omega)
      rw [show ((0 : Nat) : Int) = 0 from rfl] at this
      rw [show ((1 : Nat) : Int) = 1 from rfl, this]
      have hp : Jh (a.toNat : Int) = true := by simp [Jh]; omega
      simp [AA1, hp, Hu]
    · have e1 : (((a.toNat / 128 * 128 : Nat) : Int) != 0) = true := by
        have : ¬ ((a.toNat / 128 * 128 : Nat) : Int) = 0 := by omega
        simpa using this
      simp only [e1, if_true, h1, if_false]
      rw [show (0 : Int) + 1 = 1 from rfl, Br, AJt, Option.bind_some, ha, Option.bind_some, AJ0, hw]
      by_cases h2 : a.toNat / 32 = 6
      · rw [h2]
        simp only [show (((6 * 32 : Nat) : Int) != 192) = false from rfl, Bool.false_eq_true, if_false, if_true]
        cases t with
        | nil => simp [Hu]
        | cons b t =>
          have e2 : ¬ ((((b :: t).length : Nat) : Int) < 1) := by simp only [List.length_cons]; omega
          simp only [e2, decide_false, Bool.false_eq_true, if_false, Au]
          rw [b31, JW (by omega)]
          rw [show BK (M + 5) l (i : Int) 1 = BK (M + 5) l (i : Int) ((1 : Nat) : Int) from rfl, show (1 : Int) = ((1 : Nat) : Int) from rfl]
          rw [LM (by omega) (Nat.le_refl _) (by omega) ht rfl (by omega)]
          cases hc : Ig b with
          | false => simp [hc, Hu]
          | true =>
            simp only [if_true, true_and]
            rw [Tx (by omega) (by omega) (by omega)]
            have := fin 1 128 (a.toNat % 32 * 64 + b.toNat % 64) (by omega)
            rw [show ((1 : Nat) : Int) = 1 from rfl] at this
            rw [show ((1 : Nat) : Int) = 1 from rfl]
            refine this.trans ?_
            have hp : Jh ((a.toNat % 32 * 64 + b.toNat % 64 : Nat) : Int) = true := by
              have : a.toNat % 32 < 32 := Nat.mod_lt _ (by decide)
              have : b.toNat % 64 < 64 := Nat.mod_lt _ (by decide)
              simp [Jh]; omega
            simp only [AA1, hp, and_true]
            split <;> simp [Hu]
      · have e1 : (((a.toNat / 32 * 32 : Nat) : Int) != 192) = true := by
          have : ¬ ((a.toNat / 32 * 32 : Nat) : Int) = 192 := by omega
          simpa using this
        simp only [e1, if_true, h2, if_false]
        rw [show (1 : Int) + 1 = 2 from rfl, Br, AJx, Option.bind_some, ha, Option.bind_some, AJf, hw]
        by_cases h3 : a.toNat / 16 = 14
        · rw [h3]
          simp only [show (((14 * 16 : Nat) : Int) != 224) = false from rfl, Bool.false_eq_true, if_false, if_true]
          match t, ht, hl with
          | [], ht, hl => simp [Hu]
          | [b], ht, hl => simp [Hu]
          | b :: c :: t, ht, hl =>
            have e2 : ¬ ((((b :: c :: t).length : Nat) : Int) < 2) := by simp only [List.length_cons]; omega
            simp only [e2, decide_false, Bool.false_eq_true, if_false, Au]
            rw [b15, JW (by omega)]
            rw [show BK (M + 5) l (i : Int) 2 = BK (M + 5) l (i : Int) ((2 : Nat) : Int) from rfl, show (1 : Int) = ((1 : Nat) : Int) from rfl]
            rw [LM (by omega) (by omega) (by omega) ht rfl (by omega)]
            cases hc : Ig b with
            | false => simp [hc, Hu]
            | true =>
              simp only [if_true, true_and]
              rw [LM (by omega) (by omega) (by omega) ht rfl (by omega)]
              cases hc2 : Ig c with
              | false => simp [hc2, Hu]
              | true =>
                simp only [if_true, true_and]
                rw [Tx (by omega) (by omega) (by omega)]
                have := fin 2 2048 ((a.toNat % 16 * 64 + b.toNat % 64) * 64 + c.toNat % 64) (by omega)
                rw [show ((2 : Nat) : Int) = 2 from rfl] at this
                refine this.trans ?_
                simp only [AA1]
                split <;> simp [Hu]
        · have e1 : (((a.toNat / 16 * 16 : Nat) : Int) != 224) = true := by
            have : ¬ ((a.toNat / 16 * 16 : Nat) : Int) = 224 := by omega
            simpa using this
          simp only [e1, if_true, h3, if_false]
          rw [show (2 : Int) + 1 = 3 from rfl, Br, AJn, Option.bind_some, ha, Option.bind_some, bn7, hw]
          by_cases h4 : a.toNat / 8 = 30
          · rw [h4]
            simp only [show (((30 * 8 : Nat) : Int) != 240) = false from rfl, Bool.false_eq_true, if_false, if_true]
            match t, ht, hl with
            | [], ht, hl => simp [Hu]
            | [b], ht, hl => simp [Hu]
            | [b, c], ht, hl => simp [Hu]
            | b :: c :: d :: t, ht, hl =>
              have e2 : ¬ ((((b :: c :: d :: t).length : Nat) : Int) < 3) := by simp only [List.length_cons]; omega
              simp only [e2, decide_false, Bool.false_eq_true, if_false, Au]
              rw [b7, JW (by omega)]
              rw [show BK (M + 5) l (i : Int) 3 = BK (M + 5) l (i : Int) ((3 : Nat) : Int) from rfl, show (1 : Int) = ((1 : Nat) : Int) from rfl]
              rw [LM (by omega) (by omega) (by omega) ht rfl (by omega)]
              cases hc : Ig b with
              | false => simp [hc, Hu]
              | true =>
                simp only [if_true, true_and]
                rw [LM (by omega) (by omega) (by omega) ht rfl (by omega)]
                cases hc2 : Ig c with
                | false => simp [hc2, Hu]
                | true =>
                  simp only [if_true, true_and]
                  rw [LM (by omega) (by omega) (by omega) ht rfl (by omega)]
                  cases hc3 : Ig d with
                  | false => simp [hc3, Hu]
                  | true =>
                    simp only [if_true, true_and]
                    rw [Tx (by omega) (by omega) (by omega)]
                    have := fin 3 65536 (((a.toNat % 8 * 64 + b.toNat % 64) * 64 + c.toNat % 64) * 64 + d.toNat % 64) (by omega)
                    rw [show ((3 : Nat) : Int) = 3 from rfl] at this
                    refine this.trans ?_
                    simp only [AA1]
                    split <;> simp [Hu]
          · have e1 : (((a.toNat / 8 * 8 : Nat) : Int) != 240) = true := by
              have : ¬ ((a.toNat / 8 * 8 : Nat) : Int) = 240 := by omega
              simpa using this
            simp only [e1, if_true, h4, if_false]
            rw [Br]
            rfl
end
end
end Go.VM
namespace Go.VM
section
variable {N : Nat}
end
end Go.VM
namespace Go.VM
section
variable {N : Nat}
theorem Jn {α : Type} [DecidableEq α] {f g : Nat → α} (h : (List.range 256).all (fun n => decide (f n = g n)) = true) (c : UInt8) : f c.toNat = g c.toNat := by
  have := List.all_eq_true.1 h c.toNat (List.mem_range.2 c.toNat_lt)
  simpa using this
def ACT (n : Nat) : Bool := (decide (48 ≤ n) && decide (n ≤ 57)) || (decide (65 ≤ n) && decide (n ≤ 70)) || (decide (97 ≤ n) && decide (n ≤ 102))
def AIq (c : UInt8) : Bool := ACT c.toNat
def Iw (n : Nat) : Nat := if n ≤ 57 then n - 48 else if n ≤ 70 then n - 55 else n - 87
theorem AFf (c : UInt8) (h : AIq c = true) : G7 N (Ap c) = some ((Iw c.toNat : Nat) : Int) := by
  have := Jn (f := fun n => if ACT n = true then G7 N (n : Int) else none) (g := fun n => if ACT n = true then some ((Iw n : Nat) : Int) else none) (by kernel_rfl) c
  simp only [show ACT c.toNat = true from h, if_true] at this
  exact this
end
end Go.VM
namespace Go.VM
section
variable {N : Nat}
end
end Go.VM
namespace Go.VM
section
variable {N : Nat}
theorem AE3 {t : List UInt8} {r n : Nat} (h : AAi t = some (r, n)) : 1 ≤ n ∧ n ≤ t.length ∧ n ≤ 4 := by
  match t, h with
  | [], h => cases h
  | a :: t, h =>
    simp only [AAi] at h
    split at h
    · simp only [Option.some.injEq, Prod.mk.injEq] at h; obtain ⟨_, rfl⟩ := h; simp
    · split at h
      · match t, h with
        | [], h => cases h
        | b :: t, h =>
          simp only at h
          split at h
          · simp only [Option.some.injEq, Prod.mk.injEq] at h; obtain ⟨_, rfl⟩ := h; simp
          · cases h
      · split at h
        · match t, h with
          | [], h => cases h
          | [_], h => cases h
          | b :: c :: t, h =>
            simp only at h
            split at h
            · simp only [Option.some.injEq, Prod.mk.injEq] at h; obtain ⟨_, rfl⟩ := h; simp
            · cases h
        · split at h
          · match t, h with
            | [], h => cases h
            | [_], h => cases h
            | [_, _], h => cases h
            | b :: c :: d :: t, h =>
              simp only at h
              split at h
              · simp only [Option.some.injEq, Prod.mk.injEq] at h; obtain ⟨_, rfl⟩ := h; simp
              · cases h
          · cases h
theorem YW {n : Nat} {k : Nat} : ((n : Int) == (k : Int)) = decide (n = k) := by
  by_cases h : n = k
  · simp [h]
  · have : ¬ (n : Int) = (k : Int) := by omega
    simp [h]; omega
theorem X7 {i r n : Nat} : Hu i (some (r, n)) = ((r : Int), ((i + n : Nat) : Int), 0) := rfl
theorem head_drop {l t : List UInt8} {c : UInt8} {i : Nat} (ht : l.drop i = c :: t) : idx l (i : Int) = some c := by
  have := PU (j := 0) ht rfl
  simpa using this
section
variable {l : List UInt8}
end
end
end Go.VM
namespace Go.VM
section
variable {N : Nat}
theorem MC {α : Type} (p : α → Bool) (t : List α) : t.take (t.takeWhile p).length = t.takeWhile p :=
  (List.prefix_iff_eq_take.1 (List.takeWhile_prefix p)).symm
theorem Wi {α : Type} (p : α → Bool) (t : List α) : (t.takeWhile p).length ≤ t.length := (List.takeWhile_sublist p).length_le
def EE (c : UInt8) : Bool := decide (48 ≤ c.toNat) && decide (c.toNat ≤ 57)
theorem ZC (c : UInt8) : E5 N (Ap c) = some (EE c) :=
  Jn (f := fun n => E5 N (n : Int)) (g := fun n => some (decide (48 ≤ n) && decide (n ≤ 57))) (by kernel_rfl) c
theorem Zf (c : UInt8) : Dt N (Ap c) = some (EE c) :=
  Jn (f := fun n => Dt N (n : Int)) (g := fun n => some (decide (48 ≤ n) && decide (n ≤ 57))) (by kernel_rfl) c
theorem XI (c : UInt8) (k2 : Unit → Option Bool) (h : k2 () = some false) : ∀ l : List UInt8, EL N (Ap c) k2 l = some (l.contains c)
  | [] => by rw [EL]; simpa using h
  | x :: l => by
    rw [EL, XI c k2 h l, List.contains_cons]
    by_cases e : x = c
    · subst e; simp
    · have e1 : ¬ c = x := fun h => e h.symm
      have : (Ap x == Ap c) = false := by
        have : ¬ x.toNat = c.toNat := fun h => e (UInt8.toNat_inj.1 h)
        simp only [Ap, beq_eq_false_iff_ne, ne_eq]; omega
      simp [this, e1]
theorem RQ (c : UInt8) (l : List UInt8) (h : l.length ≤ 1000) : GN N (Ap c) l = some (l.contains c) := by
  unfold GN
  rw [Au, Z5 (by omega)]
  exact XI c _ rfl l
theorem index_ge : ∀ (l : List UInt8) (c : UInt8), decide (Go.Lib.indexByte l c ≥ 0) = l.contains c
  | [], c => rfl
  | x :: l, c => by
    have ih := index_ge l c
    have h := Go.Lib.indexByte_ge l c
    rw [Go.Lib.indexByte, List.contains_cons]
    by_cases e : x = c
    · subst e; simp
    · have e1 : (c == x) = false := by simpa using fun h : c = x => e h.symm
      have e2 : (x == c) = false := by simpa using e
      rw [e1, e2, Bool.false_or, ← ih]
      simp only [Bool.false_eq_true, if_false]
      by_cases k : Go.Lib.indexByte l c = -1
      · simp [k]
      · have k' : (Go.Lib.indexByte l c == -1) = false := by simpa using k
        rw [k']; simp only [Bool.false_eq_true, if_false]
        congr 1; simp only [eq_iff_iff]; omega
theorem Q7 (l : List UInt8) (c : UInt8) : strings_IndexByte N l (Ap c) = some (Go.Lib.indexByte l c) := by
  unfold strings_IndexByte Bq; rw [Jo]; rfl
section
variable {l : List UInt8}
theorem XB (hb : l.length ≤ 2 ^ 50) (s : Int) (k2 : Int → Option (List UInt8 × TokenReader)) : ∀ (t : List UInt8) (i : Nat), l.drop i = t → i ≤ l.length → Az N ⟨l, s⟩ k2 t.length (i : Int) = k2 ((i + (t.takeWhile EE).length : Nat) : Int)
  | [], i, ht, hi => by rw [List.length_nil, Az]; rfl
  | c :: t, i, ht, hi => by
    have hl := Fq ht hi
    simp only [List.length_cons] at hl
    rw [List.length_cons, Az]
    rw [head_drop ht, Option.bind_some, ZC, Option.bind_some, List.takeWhile_cons]
    cases EE c
    · simp
    · rw [if_pos rfl, if_pos rfl, show (i : Int) + 1 = ((i + 1 : Nat) : Int) by simp, XB hb s k2 t (i + 1) (by rw [← List.drop_drop, ht]; rfl) (by omega)]
      rw [List.length_cons]; congr 2; omega
variable {t : List UInt8} {i : Nat}
theorem ABP (p : UInt8 → Bool) (ht : l.drop i = t) (hi : i ≤ l.length) : sub l (i : Int) ((i + (t.takeWhile p).length : Nat) : Int) = some (t.takeWhile p) := by
  have hl := Fq ht hi
  have := Wi p t
  rw [FE l i _ (by omega) (by omega), Nat.add_sub_cancel_left, ht, MC]
theorem ACg (ht : l.drop i = t) (hi : i ≤ l.length) (hb : l.length ≤ 2 ^ 50) : Bt N ⟨l, (i : Int)⟩ = some (t.takeWhile EE, ⟨l, ((i + (t.takeWhile EE).length : Nat) : Int)⟩) := by
  have hl := Fq ht hi
  unfold Bt
  rw [Au, Aa (by simp only []; omega)]
  rw [show ((l.length : Int) - (i : Int)).toNat = t.length by omega, XB hb _ _ t i ht hi]
  simp only []
  rw [ABP EE ht hi, Option.bind_some]
def DN (set t : List UInt8) : Bool := match t with | c :: _ => set.contains c | [] => false
theorem LA (set : List UInt8) (ht : l.drop i = t) (hi : i ≤ l.length) (hb : l.length ≤ 2 ^ 50) : Bp N ⟨l, (i : Int)⟩ set = some (DN set t, ⟨l, ((i + (if DN set t = true then 1 else 0) : Nat) : Int)⟩) := by
  have hl := Fq ht hi
  unfold Bp
  rw [Au]
  match t, ht, hl with
  | [], ht, hl =>
    simp only [List.length_nil] at hl
    have c : ¬ (i : Int) < (l.length : Int) := by omega
    rw [if_neg (by simpa using c)]; rfl
  | c :: t, ht, hl =>
    simp only [List.length_cons] at hl
    have c0 : (i : Int) < (l.length : Int) := by omega
    rw [if_pos (decide_eq_true c0)]
    simp only []
    rw [head_drop ht, Option.bind_some, Q7, Option.bind_some, index_ge, A8 (by omega)]
    have key : ∀ b : Bool, (if b = true then some (true, (⟨l, (i : Int) + 1⟩ : TokenReader)) else some (false, (⟨l, (i : Int)⟩ : TokenReader))) = some (b, (⟨l, ((i + (if b = true then 1 else 0) : Nat) : Int)⟩ : TokenReader)) := by
      intro b; cases b <;> simp
    exact key _
def Ee (t : List UInt8) : Nat := (t.takeWhile EE).length
theorem KM (t : List UInt8) : Ee t ≤ t.length := Wi _ _
theorem Q5 (t : List UInt8) : (t.takeWhile EE == []) = decide (Ee t = 0) := by
  unfold Ee
  cases t.takeWhile EE <;> simp
def A7 (t : List UInt8) : Nat := if DN [45] t = true then 1 else 0
def DI (t : List UInt8) : Nat := if DN [48] t = true then 1 else Ee t
def Ef (t : List UInt8) : Nat := if DN [46] t = true ∧ 0 < Ee (t.drop 1) then 1 + Ee (t.drop 1) else 0
def IZ (t : List UInt8) : Nat := if DN [43, 45] (t.drop 1) = true then 1 else 0
def Jj (t : List UInt8) : Nat := if DN [101, 69] t = true ∧ 0 < Ee (t.drop (1 + IZ t)) then 1 + IZ t + Ee (t.drop (1 + IZ t)) else 0
def FT (t : List UInt8) : Nat :=
  if DI (t.drop (A7 t)) = 0 then 0
  else A7 t + DI (t.drop (A7 t)) + Ef (t.drop (A7 t + DI (t.drop (A7 t)))) +
    Jj (t.drop (A7 t + DI (t.drop (A7 t)) + Ef (t.drop (A7 t + DI (t.drop (A7 t))))))
theorem GZ {set t : List UInt8} (h : DN set t = true) : 0 < t.length := by
  cases t with
  | nil => cases h
  | cons => simp
theorem Oi (t : List UInt8) : A7 t ≤ t.length := by
  unfold A7; split
  · rename_i h; exact GZ h
  · omega
theorem OP (t : List UInt8) : DI t ≤ t.length := by
  unfold DI; split
  · rename_i h; exact GZ h
  · exact KM t
theorem Og (t : List UInt8) : Ef t ≤ t.length := by
  unfold Ef; split
  · rename_i h
    have := GZ h.1
    have := KM (t.drop 1)
    rw [List.length_drop] at this; omega
  · omega
theorem Ra (t : List UInt8) : Jj t ≤ t.length := by
  unfold Jj; split
  · rename_i h
    have h1 := GZ h.1
    have := KM (t.drop (1 + IZ t))
    rw [List.length_drop] at this
    have h2 := h.2
    omega
  · omega
theorem ZW (t : List UInt8) : FT t ≤ t.length := by
  unfold FT
  split
  · omega
  · have h1 := Oi t
    have h2 := OP (t.drop (A7 t))
    have h3 := Og (t.drop (A7 t + DI (t.drop (A7 t))))
    have h4 := Ra (t.drop (A7 t + DI (t.drop (A7 t)) + Ef (t.drop (A7 t + DI (t.drop (A7 t))))))
    simp only [List.length_drop] at h2 h3 h4
    omega
theorem PX {f : Int} (ht : l.drop i = t) (hi : i ≤ l.length) (hb : l.length ≤ 2 ^ 50) : Cc N ⟨l, (i : Int)⟩ f = some ⟨l, if 0 < Ee t then ((i + Ee t : Nat) : Int) else f⟩ := by
  unfold Cc
  rw [ACg ht hi hb, Option.bind_some]
  simp only [Q5]
  by_cases h : Ee t = 0
  · rw [if_pos (decide_eq_true h), if_neg (by omega)]
  · rw [if_neg (by simpa using h), if_pos (by omega)]; rfl
theorem Js {a : Nat} (ht : l.drop i = t) (n : Nat) (h : a = i + n) : l.drop a = t.drop n := by rw [h, ← List.drop_drop, ht]
theorem PN (ht : l.drop i = t) (hi : i ≤ l.length) (hb : l.length ≤ 2 ^ 50) :
    if FT t = 0 then ∃ q, Cb N ⟨l, (i : Int)⟩ = some ([], false, q) else Cb N ⟨l, (i : Int)⟩ = some (t.take (FT t), true, ⟨l, ((i + FT t : Nat) : Int)⟩) := by
  have hl := Fq ht hi
  have h1 := Oi t
  have h2 := OP (t.drop (A7 t))
  have h3 := Og (t.drop (A7 t + DI (t.drop (A7 t))))
  have h4 := Ra (t.drop (A7 t + DI (t.drop (A7 t)) + Ef (t.drop (A7 t + DI (t.drop (A7 t))))))
  simp only [List.length_drop] at h2 h3 h4
  unfold Cb
  rw [LA [45] ht hi hb, Option.bind_some]
  change if FT t = 0 then ∃ q, AZ _ _ = some ([], false, q) else AZ _ _ = _
  rw [show (if DN [45] t = true then 1 else 0) = A7 t from rfl]
  have hta := Js ht (A7 t) rfl
  rw [LA [48] hta (by omega) hb]
  simp only [Option.bind_some]
  have rest : ∀ a : Nat, a = i + (A7 t + DI (t.drop (A7 t))) → DI (t.drop (A7 t)) ≠ 0 →
      (AZ (fun j11 : TokenReader => AZ (fun j19 : TokenReader => Option.bind (sub j19.s (i : Int) j19.at_) fun x29 => some (x29, true, j19)) fun k20 =>
        Option.bind (Bp N j11 ([101, 69] : List UInt8)) fun y23 => if y23.1 = true then Option.bind (Bp N y23.2 ([43, 45] : List UInt8)) fun y25 => Option.bind (Cc N y25.2 j11.at_) fun y27 => k20 y27 else k20 y23.2) fun k12 =>
      Option.bind (Bp N ⟨l, (a : Int)⟩ ([46] : List UInt8)) fun y15 => if y15.1 = true then Option.bind (Cc N y15.2 (a : Int)) fun y17 => k12 y17 else k12 y15.2) = some (t.take (FT t), true, (⟨l, ((i + FT t : Nat) : Int)⟩ : TokenReader)) := by
    intro a ha hne
    have htb := Js ht (A7 t + DI (t.drop (A7 t))) ha
    have hnum : FT t = A7 t + DI (t.drop (A7 t)) + Ef (t.drop (A7 t + DI (t.drop (A7 t)))) + Jj (t.drop (A7 t + DI (t.drop (A7 t)) + Ef (t.drop (A7 t + DI (t.drop (A7 t)))))) := by
      unfold FT; rw [if_neg hne]
    have last : ∀ b : Nat, b = i + (A7 t + DI (t.drop (A7 t)) + Ef (t.drop (A7 t + DI (t.drop (A7 t))))) →
        (AZ (fun j19 : TokenReader => Option.bind (sub j19.s (i : Int) j19.at_) fun x29 => some (x29, true, j19)) fun k20 =>
          Option.bind (Bp N ⟨l, (b : Int)⟩ ([101, 69] : List UInt8)) fun y23 => if y23.1 = true then Option.bind (Bp N y23.2 ([43, 45] : List UInt8)) fun y25 => Option.bind (Cc N y25.2 (b : Int)) fun y27 => k20 y27 else k20 y23.2) = some (t.take (FT t), true, (⟨l, ((i + FT t : Nat) : Int)⟩ : TokenReader)) := by
      intro b hb'
      have htc := Js ht _ hb'
      have fin : ∀ e : Nat, e = i + FT t → (Option.bind (sub l (i : Int) (e : Int)) fun x29 => some (x29, true, (⟨l, (e : Int)⟩ : TokenReader))) = some (t.take (FT t), true, (⟨l, ((i + FT t : Nat) : Int)⟩ : TokenReader)) := by
        rintro e rfl
        have := ZW t
        rw [FE l i _ (by omega) (by omega), Option.bind_some, Nat.add_sub_cancel_left, ht]
      rw [Au, LA [101, 69] htc (by omega) hb, Option.bind_some]
      generalize hc : t.drop (A7 t + DI (t.drop (A7 t)) + Ef (t.drop (A7 t + DI (t.drop (A7 t))))) = c at *
      by_cases he : DN [101, 69] c = true
      · have hpos := GZ he
        have hcl : c.length = t.length - (A7 t + DI (t.drop (A7 t)) + Ef (t.drop (A7 t + DI (t.drop (A7 t))))) := by rw [← hc, List.length_drop]
        simp only [he, if_true]
        rw [LA [43, 45] (Js htc 1 rfl) (by omega) hb, Option.bind_some]
        rw [show (if DN [43, 45] (c.drop 1) = true then 1 else 0) = IZ c from rfl]
        have hes : IZ c ≤ c.length - 1 := by
          unfold IZ; split
          · rename_i h; have := GZ h; rw [List.length_drop] at this; omega
          · omega
        rw [PX (Js htc (1 + IZ c) (by omega)) (by omega) hb, Option.bind_some]
        by_cases hr : 0 < Ee (c.drop (1 + IZ c))
        · rw [if_pos hr]
          refine fin _ ?_
          rw [hnum, show Jj c = 1 + IZ c + Ee (c.drop (1 + IZ c)) by unfold Jj; rw [if_pos ⟨he, hr⟩]]
          omega
        · rw [if_neg hr]
          refine fin _ ?_
          rw [hnum, show Jj c = 0 by unfold Jj; rw [if_neg (fun h => hr h.2)]]
          omega
      · rw [Bool.not_eq_true] at he
        simp only [he, Bool.false_eq_true, if_false]
        refine fin _ ?_
        rw [hnum, show Jj c = 0 by unfold Jj; rw [if_neg (by rw [he]; simp)]]
        omega
    rw [Au, LA [46] htb (by omega) hb, Option.bind_some]
    generalize hc : t.drop (A7 t + DI (t.drop (A7 t))) = c at *
    by_cases he : DN [46] c = true
    · have hpos := GZ he
      have hcl : c.length = t.length - (A7 t + DI (t.drop (A7 t))) := by rw [← hc, List.length_drop]
      simp only [he, if_true]
      rw [PX (Js htb 1 rfl) (by omega) hb, Option.bind_some]
      by_cases hr : 0 < Ee (c.drop 1)
      · rw [if_pos hr]
        refine last _ ?_
        rw [show Ef c = 1 + Ee (c.drop 1) by unfold Ef; rw [if_pos ⟨he, hr⟩]]
        omega
      · rw [if_neg hr]
        refine last _ ?_
        rw [show Ef c = 0 by unfold Ef; rw [if_neg (fun h => hr h.2)]]
        omega
    · rw [Bool.not_eq_true] at he
      simp only [he, Bool.false_eq_true, if_false]
      refine last _ ?_
      rw [show Ef c = 0 by unfold Ef; rw [if_neg (by rw [he]; simp)]]
      omega
  have hnz : FT t = 0 ↔ DI (t.drop (A7 t)) = 0 := by
    unfold FT
    constructor
    · intro h; by_cases k : DI (t.drop (A7 t)) = 0
      · exact k
      · rw [if_neg k] at h; omega
    · intro h; rw [if_pos h]
  by_cases h0 : DN [48] (t.drop (A7 t)) = true
  · have hin : DI (t.drop (A7 t)) = 1 := by unfold DI; rw [if_pos h0]
    rw [if_neg (by rw [hnz, hin]; decide)]
    simp only [h0, if_true]
    rw [Au]
    simp only [Bool.false_eq_true, if_false]
    exact rest _ (by rw [hin]; omega) (by rw [hin]; decide)
  · have hin : DI (t.drop (A7 t)) = Ee (t.drop (A7 t)) := by unfold DI; rw [if_neg h0]
    rw [Bool.not_eq_true] at h0
    simp only [h0, Bool.false_eq_true, if_false, Nat.add_zero]
    rw [ACg hta (by omega) hb]
    simp only [Option.bind_some, Au, Q5]
    by_cases hr : Ee (t.drop (A7 t)) = 0
    · rw [if_pos (by rw [hnz, hin]; exact hr)]
      simp only [hr, decide_true, if_true]
      exact ⟨_, rfl⟩
    · rw [if_neg (by rw [hnz, hin]; exact hr)]
      simp only [hr, decide_false, Bool.false_eq_true, if_false]
      have := rest (i + A7 t + Ee (t.drop (A7 t))) (by rw [hin]; omega) (by rw [hin]; exact hr)
      simp only [Au] at this
      exact this
end
end
end Go.VM
namespace Go.VM
section
variable {N : Nat}
theorem CZ {α β : Type} {K : α → Option β} {body : (α → Option β) → Option β} {a : α} (h : ∀ k : α → Option β, body k = k a) : AZ K body = K a := h K
theorem Q6 (l : List UInt8) (k2 : Int → Option Int) (hb : l.length ≤ 2 ^ 50) : ∀ (t : List UInt8) (i k : Nat), l.drop i = t → i ≤ l.length → t.length < k → Et N l k2 k (i : Int) = k2 ((i + Ee t : Nat) : Int)
  | [], i, k + 1, ht, hi, _ => by
    have hl := Fq ht hi
    simp only [List.length_nil] at hl
    have c : ¬ (i : Int) < (l.length : Int) := by omega
    rw [Et, Au, if_neg (by simpa using c)]
    dsimp only
    rw [if_neg (by decide)]; rfl
  | c :: t, i, k + 1, ht, hi, hk => by
    have hl := Fq ht hi
    simp only [List.length_cons] at hl hk
    have c0 : (i : Int) < (l.length : Int) := by omega
    rw [Et, Au, if_pos (decide_eq_true c0), head_drop ht, Option.bind_some, Zf, Option.bind_some]
    unfold Ee
    rw [List.takeWhile_cons]
    cases EE c
    · simp
    · dsimp only
      rw [if_pos rfl, if_pos rfl, A8 (by omega), show (i : Int) + 1 = ((i + 1 : Nat) : Int) by simp, Q6 l k2 hb t (i + 1) k (by rw [← List.drop_drop, ht]; rfl) (by omega) (by omega)]
      rw [List.length_cons]; unfold Ee; congr 2; omega
theorem AHE (t : List UInt8) (hb : t.length ≤ 2 ^ 50) (hN : t.length < N) : Gx N t = some ((Ee t : Nat) : Int) := by
  unfold Gx
  rw [Au]
  have := Q6 (N := N) t (fun j => some j) hb t 0 N (by simp) (by omega) hN
  simpa using this
theorem Pm (t : List UInt8) (i : Nat) : Gn N t (i : Int) = some (t.drop i) := by
  unfold Gn
  by_cases h : (i : Int) ≥ (t.length : Int)
  · rw [if_pos (decide_eq_true h), List.drop_of_length_le (by omega)]
  · rw [if_neg (by simpa using h), FE t i t.length (by omega) (by omega), Option.bind_some, List.take_of_length_le (by simp)]
theorem LX {β : Type} (t : List UInt8) (i : Nat) (k : Bool → Option β) (f : UInt8 → Option β) (set : List UInt8) (hf : ∀ c r, t.drop i = c :: r → f c = k (set.contains c)) :
    (if decide ((i : Int) < (t.length : Int)) = true then Option.bind (idx t (i : Int)) f else k false) = k (DN set (t.drop i)) := by
  by_cases hi : i ≤ t.length
  · obtain ⟨u, hu⟩ : ∃ u, t.drop i = u := ⟨_, rfl⟩
    have hl := Fq hu hi
    rw [hu]
    cases u with
    | nil =>
      simp only [List.length_nil] at hl
      have c : ¬ (i : Int) < (t.length : Int) := by omega
      rw [if_neg (by simpa using c)]; rfl
    | cons c r =>
      simp only [List.length_cons] at hl
      have c0 : (i : Int) < (t.length : Int) := by omega
      rw [if_pos (decide_eq_true c0), head_drop hu, Option.bind_some, hf c r hu]; rfl
  · have c : ¬ (i : Int) < (t.length : Int) := by omega
    rw [if_neg (by simpa using c), List.drop_of_length_le (by omega)]; rfl
theorem MG (c : UInt8) (k : UInt8) : ([k] : List UInt8).contains c = decide (c.toNat = k.toNat) := by
  by_cases h : c = k
  · subst h; simp
  · have : ¬ c.toNat = k.toNat := fun e => h (UInt8.toNat_inj.1 e)
    simp [h, this]
theorem AGg (c : UInt8) : (Ap c == 45) = ([45] : List UInt8).contains c := by rw [MG]; exact YW (k := 45)
theorem AJu (c : UInt8) : (Ap c == 46) = ([46] : List UInt8).contains c := by rw [MG]; exact YW (k := 46)
theorem AJ3 (c : UInt8) : (Ap c == 48) = ([48] : List UInt8).contains c := by rw [MG]; exact YW (k := 48)
theorem UZ {t : List UInt8} : DI t = 0 ↔ (t = [] ∨ ∃ c r, t = c :: r ∧ EE c = false) := by
  cases t with
  | nil => exact ⟨fun _ => .inl rfl, fun _ => rfl⟩
  | cons c r =>
    constructor
    · intro h
      refine .inr ⟨c, r, rfl, ?_⟩
      unfold DI at h
      split at h
      · cases h
      · unfold Ee at h
        rw [List.takeWhile_cons] at h
        cases hd : EE c
        · rfl
        · rw [hd] at h; simp at h
    · rintro (h | ⟨c', r', h, hd⟩)
      · cases h
      · cases h
        have h48 : DN [48] (c :: r) = false := by
          show ([48] : List UInt8).contains c = false
          rw [MG]
          have : ¬ c.toNat = 48 := fun e => by simp [EE, e] at hd
          simpa using this
        unfold DI; rw [h48, if_neg (by simp)]
        unfold Ee; rw [List.takeWhile_cons, hd]; rfl
theorem NY (t : List UInt8) (hb : t.length ≤ 2 ^ 50) (hN : t.length < N) : Fz N t = some ((FT t : Nat) : Int) := by
  have h1 := Oi t
  have h2 := OP (t.drop (A7 t))
  have h3 := Og (t.drop (A7 t + DI (t.drop (A7 t))))
  have h4 := Ra (t.drop (A7 t + DI (t.drop (A7 t)) + Ef (t.drop (A7 t + DI (t.drop (A7 t))))))
  simp only [List.length_drop] at h2 h3 h4
  have run : ∀ n : Nat, Gx N (t.drop n) = some ((Ee (t.drop n) : Nat) : Int) := fun n => AHE _ (by rw [List.length_drop]; omega) (by rw [List.length_drop]; omega)
  have wn : ∀ n : Nat, n ≤ 2 ^ 51 → wr .i64 (n : Int) = (n : Int) := fun n h => JW (by omega)
  have w1 : ∀ n : Nat, n ≤ 2 ^ 51 → wr .i64 ((n : Int) + 1) = ((n + 1 : Nat) : Int) := fun n h => by rw [A8 (by omega)]; simp
  have hsub : sub t (A7 t : Int) (t.length : Int) = some (t.drop (A7 t)) := by
    rw [FE t (A7 t) t.length h1 (Nat.le_refl _), List.take_of_length_le (by simp)]
  have hs2 : A7 t ≤ 1 := by unfold A7; split <;> omega
  unfold Fz
  refine (CZ (a := ((A7 t : Nat) : Int)) fun k2 => (CZ (a := DN [45] t) fun k6 => ?_).trans ?_).trans ?_
  · have key := LX t 0 k6 (fun x9 => k6 (Ap x9 == 45)) [45] (fun c r _ => by rw [AGg])
    simpa using key
  · unfold A7
    cases DN [45] t <;> rfl
  try dsimp only
  refine (CZ (a := decide (DI (t.drop (A7 t)) = 0)) fun k11 => ?_).trans ?_
  · obtain ⟨u, hu⟩ : ∃ u, t.drop (A7 t) = u := ⟨_, rfl⟩
    have hl := Fq hu h1
    rw [hu]
    cases u with
    | nil =>
      simp only [List.length_nil] at hl
      rw [if_pos (by simp; omega)]; rfl
    | cons c r =>
      simp only [List.length_cons] at hl
      rw [if_neg (by simp; omega), head_drop hu, Option.bind_some, Zf, Option.bind_some]
      congr 1
      cases hd : EE c
      · rw [decide_eq_true (UZ.2 (.inr ⟨c, r, rfl, hd⟩))]; rfl
      · have : ¬ DI (c :: r) = 0 := fun h => by
          rcases UZ.1 h with h | ⟨c', r', h, hd'⟩
          · cases h
          · cases h; rw [hd] at hd'; cases hd'
        rw [decide_eq_false this]; rfl
  try dsimp only
  by_cases hz : DI (t.drop (A7 t)) = 0
  · rw [if_pos (decide_eq_true hz)]
    unfold FT; rw [if_pos hz]; rfl
  rw [if_neg (by simpa using hz)]
  have hnum : FT t = A7 t + DI (t.drop (A7 t)) + Ef (t.drop (A7 t + DI (t.drop (A7 t)))) + Jj (t.drop (A7 t + DI (t.drop (A7 t)) + Ef (t.drop (A7 t + DI (t.drop (A7 t)))))) := by
    unfold FT; rw [if_neg hz]
  refine (CZ (a := ((A7 t + DI (t.drop (A7 t)) : Nat) : Int)) fun k18 => ?_).trans ?_
  · obtain ⟨u, hu⟩ : ∃ u, t.drop (A7 t) = u := ⟨_, rfl⟩
    cases u with
    | nil => rw [hu] at hz; exact absurd rfl hz
    | cons c r =>
      rw [head_drop hu, Option.bind_some, AJ3, hsub, Option.bind_some, run]
      rw [hu] at h2 ⊢
      rw [show ([48] : List UInt8).contains c = DN [48] (c :: r) from rfl]
      unfold DI at h2 ⊢
      by_cases h0 : DN [48] (c :: r) = true
      · rw [if_pos h0] at h2
        rw [if_pos h0, if_pos h0, w1 _ (by omega)]
      · rw [if_neg h0] at h2
        rw [if_neg h0, if_neg h0, Option.bind_some, A8 (by omega)]; congr 1
  try dsimp only
  rw [w1 _ (by omega), Pm]
  generalize hi' : A7 t + DI (t.drop (A7 t)) = i at *
  have hil : i ≤ t.length := by omega
  refine (CZ (a := ((i + Ef (t.drop i) : Nat) : Int)) fun k26 => ?_).trans ?_
  · rw [Option.bind_some, run, Option.bind_some]
    have hr := KM (t.drop (i + 1))
    rw [List.length_drop] at hr
    refine (CZ (a := DN [46] (t.drop i) && decide (0 < Ee (t.drop (i + 1)))) fun k34 => ?_).trans ?_
    · refine (LX t i (fun b => k34 (b && decide (0 < Ee (t.drop (i + 1))))) _ [46] (fun c r _ => ?_)).trans rfl
      rw [AJu]
      cases ([46] : List UInt8).contains c
      · rfl
      · rw [if_pos rfl]; congr 1; rw [Bool.true_and]; congr 1; simp only [eq_iff_iff]; omega
    try dsimp only
    unfold Ef
    rw [List.drop_drop]
    by_cases hc : DN [46] (t.drop i) = true ∧ 0 < Ee (t.drop (i + 1))
    · rw [if_pos (by simpa using hc), if_pos hc, A8 (n := 1 + _) (by omega), A8 (by omega)]; congr 1
    · rw [if_neg (by simpa using hc), if_neg hc]; rfl
  try dsimp only
  generalize hj : i + Ef (t.drop i) = j at *
  have hjl : j ≤ t.length := by omega
  rw [w1 _ (by omega)]
  refine (CZ (a := ((j + Jj (t.drop j) : Nat) : Int)) fun k39 => ?_).trans ?_
  · refine (CZ (a := DN [101, 69] (t.drop j)) fun k43 => LX t j k43 _ [101, 69] (fun c r _ => by rw [RQ _ _ (by decide), Option.bind_some])).trans ?_
    try dsimp only
    by_cases he : DN [101, 69] (t.drop j) = true
    · rw [if_pos he]
      have hpos := GZ he
      rw [List.length_drop] at hpos
      have hes : IZ (t.drop j) ≤ t.length - j - 1 := by
        unfold IZ; split
        · rename_i h
          have := GZ h
          simp only [List.length_drop] at this; omega
        · omega
      refine (CZ (a := ((j + (1 + IZ (t.drop j)) : Nat) : Int)) fun k50 => (CZ (a := DN [43, 45] (t.drop (j + 1))) fun k54 => LX t (j + 1) k54 _ [43, 45] (fun c r _ => by rw [RQ _ _ (by decide), Option.bind_some])).trans ?_).trans ?_
      · try dsimp only
        unfold IZ
        rw [List.drop_drop]
        by_cases h : DN [43, 45] (t.drop (j + 1)) = true
        · rw [if_pos h, if_pos h, w1 _ (by omega)]
        · rw [if_neg h, if_neg h]
      try dsimp only
      rw [Pm, Option.bind_some, run, Option.bind_some]
      have hr := KM (t.drop (j + (1 + IZ (t.drop j))))
      rw [List.length_drop] at hr
      have hex : Jj (t.drop j) = if 0 < Ee (t.drop (j + (1 + IZ (t.drop j)))) then 1 + IZ (t.drop j) + Ee (t.drop (j + (1 + IZ (t.drop j)))) else 0 := by
        unfold Jj
        rw [List.drop_drop]
        by_cases h : 0 < Ee (t.drop (j + (1 + IZ (t.drop j))))
        · rw [if_pos ⟨he, h⟩, if_pos h]
        · rw [if_neg (fun k => h k.2), if_neg h]
      rw [hex]
      by_cases h : 0 < Ee (t.drop (j + (1 + IZ (t.drop j))))
      · rw [if_pos (by simp; omega), if_pos h, A8 (by omega)]; congr 1; omega
      · rw [if_neg (by simp; omega), if_neg h]; rfl
    · rw [if_neg he, show Jj (t.drop j) = 0 by unfold Jj; rw [if_neg (fun k => he k.1)]]; rfl
  try dsimp only
  rw [hnum]
end
end Go.VM
namespace Go.VM
section
variable {N : Nat}
section
variable {l t : List UInt8} {i p : Nat}
end
end
end Go.VM
namespace Go.VM
section
variable {N : Nat}
def Em : Nat → List UInt8 → Option Nat
  | 0, _ => none
  | _ + 1, [] => some 0
  | k + 1, c :: t =>
    match AAi (c :: t) with
    | some (_, n) => (Em k ((c :: t).drop n)).map (· + 1)
    | none => none
def Xj (n : Nat) : Option Nat → Int
  | some m => ((n + m : Nat) : Int)
  | none => -1
section
variable {l : List UInt8}
theorem Nb (hb : l.length ≤ 2 ^ 50) (hN : 5 ≤ N) : ∀ (k : Nat) (t : List UInt8) (i n : Nat), l.drop i = t → i ≤ l.length → t.length < k → n ≤ i → Cw N l (fun j => some j) k (n : Int) (i : Int) = some (Xj n (Em k t))
  | 0, t, i, n, ht, hi, hk, hn => by omega
  | k + 1, [], i, n, ht, hi, hk, hn => by
    have hl := Fq ht hi
    simp only [List.length_nil] at hl
    have c : ¬ (i : Int) < (l.length : Int) := by omega
    rw [Cw, if_neg (by simpa using c)]; rfl
  | k + 1, c :: t, i, n, ht, hi, hk, hn => by
    have hl := Fq ht hi
    simp only [List.length_cons] at hl hk
    have c0 : (i : Int) < (l.length : Int) := by omega
    rw [Cw, if_pos (decide_eq_true c0), ACP hN (by omega) (by omega), Option.bind_some, ht, Em]
    cases hd : AAi (c :: t) with
    | none => rfl
    | some p =>
      obtain ⟨r, m⟩ := p
      obtain ⟨e1, e2, _⟩ := AE3 hd
      simp only [List.length_cons] at e2
      rw [X7, if_neg (by simp), A8 (by omega), show (n : Int) + 1 = ((n + 1 : Nat) : Int) by simp]
      rw [Nb hb hN k _ (i + m) (n + 1) (by rw [← List.drop_drop, ht]) (by omega) (by rw [List.length_drop, List.length_cons]; omega) (by omega)]
      simp only []
      cases Em k ((c :: t).drop m) with
      | none => rfl
      | some q => simp only [Xj, Option.map_some]; congr 1; omega
theorem M8 (hb : l.length ≤ 2 ^ 50) (hN : l.length + 5 ≤ N) : ET N l = some (Em N l).isSome := by
  unfold ET G5
  rw [Au]
  have := Nb (N := N) hb (by omega) N l 0 0 (by simp) (by omega) (by omega) (by omega)
  rw [show (0 : Int) = ((0 : Nat) : Int) from rfl, this, Option.bind_some]
  cases Em N l with
  | none => rfl
  | some q => simp [Xj]
end
def AD3 : List UInt8 := [48, 49, 50, 51, 52, 53, 54, 55, 56, 57, 97, 98, 99, 100, 101, 102]
def qN (n : Nat) : List UInt8 :=
  if n = 34 then [92, 34] else if n = 92 then [92, 92] else if n = 8 then [92, 98] else if n = 12 then [92, 102] else if n = 10 then [92, 110] else if n = 13 then [92, 114] else if n = 9 then [92, 116]
  else if n < 32 then [92, 117, 48, 48, AD3.getD (n / 16) 0, AD3.getD (n % 16) 0] else [UInt8.ofNat n]
def qB (c : UInt8) : List UInt8 := qN c.toNat
theorem ADq (c : UInt8) : 1 ≤ (qB c).length ∧ (qB c).length ≤ 6 := by
  unfold qB qN
  repeat' split
  all_goals simp
def gP (n : Nat) : Option (List Int) :=
  if decide (Go.Lib.indexByte ([34, 92, 8, 12, 10, 13, 9] : List UInt8) (UInt8.ofNat n) ≥ 0) = true then (idx ([34, 92, 98, 102, 110, 114, 116] : List UInt8) (Go.Lib.indexByte ([34, 92, 8, 12, 10, 13, 9] : List UInt8) (UInt8.ofNat n))).map fun x => [92, Ap x]
  else if decide ((n : Int) < 32) = true then (idx AD3 (Ju .u8 (n : Int) 4)).bind fun x => (idx AD3 (Db .u8 (n : Int) 15)).map fun y => [92, 117, 48, 48, Ap x, Ap y]
  else some [(n : Int)]
theorem AI5 (c : UInt8) : gP c.toNat = some ((qB c).map Ap) := Jn (f := gP) (g := fun n => some ((qN n).map Ap)) (by kernel_rfl) c
theorem XL (k4 : List Int → Option (List UInt8 × Int)) (c : UInt8) (xs : List UInt8) (s : List Int) (hs : s.length ≤ 2 ^ 40) : Ci N k4 (c :: xs) s = Ci N k4 xs (s ++ (qB c).map Ap) := by
  have key := AI5 c
  unfold gP at key
  simp only [UInt8.ofNat_toNat] at key
  rw [Ci]
  simp only [Au]
  rw [Q7, Option.bind_some]
  by_cases h1 : Go.Lib.indexByte ([34, 92, 8, 12, 10, 13, 9] : List UInt8) c ≥ 0
  · rw [if_pos (decide_eq_true h1)] at key ⊢
    rw [Option.map_eq_some_iff] at key
    obtain ⟨x, hx, he⟩ := key
    rw [hx, Option.bind_some, Aa (by unfold EK; omega), ← he]
  · rw [if_neg (by simpa using h1)] at key ⊢
    by_cases h2 : Ap c < 32
    · rw [← MP, if_pos (decide_eq_true h2)] at key
      rw [if_pos (decide_eq_true h2)]
      rw [Option.bind_eq_some_iff] at key
      obtain ⟨x, hx, key⟩ := key
      rw [Option.map_eq_some_iff] at key
      obtain ⟨y, hy, he⟩ := key
      rw [show ([48, 49, 50, 51, 52, 53, 54, 55, 56, 57, 97, 98, 99, 100, 101, 102] : List UInt8) = AD3 from rfl, hx, Option.bind_some, hy, Option.bind_some, Aa (by unfold EK; omega), ← he]
    · rw [← MP, if_neg (by simpa using h2)] at key
      rw [if_neg (by simpa using h2)]
      simp only [Option.some.injEq] at key
      rw [Aa (by unfold EK; omega), ← key]
theorem Nu (k4 : List Int → Option (List UInt8 × Int)) : ∀ (l : List UInt8) (s : List Int), s.length + 6 * l.length ≤ 2 ^ 40 → Ci N k4 l s = k4 (s ++ (l.flatMap qB).map Ap)
  | [], s, h => by rw [Ci]; simp
  | c :: l, s, h => by
    have hq := ADq c
    simp only [List.length_cons] at h
    rw [XL k4 c l s (by omega), Nu k4 l _ (by rw [List.length_append, List.length_map]; omega)]
    rw [List.flatMap_cons, List.map_append, List.append_assoc]
theorem P6 : ∀ l : List UInt8, List.map IB (List.map Ap l) = l
  | [] => rfl
  | c :: l => by rw [List.map_cons, List.map_cons, Jo, P6 l]
theorem q_len : ∀ l : List UInt8, (l.flatMap qB).length ≤ 6 * l.length
  | [] => by simp
  | c :: l => by
    have := q_len l
    have := ADq c
    rw [List.flatMap_cons, List.length_append, List.length_cons]; omega
def I7 (l : List UInt8) : List UInt8 := 34 :: (l.flatMap qB ++ [34])
def Tt (N : Nat) (l : List UInt8) : List UInt8 × Int := if l.length > 1048576 then ([], 5) else if (Em N l).isSome = true then (I7 l, 0) else ([], 7)
theorem AAW (l : List UInt8) (h : l.length ≤ 1048576) : (grd (EK (([34] ++ (l.flatMap qB).map Ap : List Int).length + 1) 1) (some ((List.map IB (([34] ++ (l.flatMap qB).map Ap) ++ [34])), (0 : Int)))) = some (I7 l, 0) := by
  have := q_len l
  rw [Aa (by unfold EK; simp only [List.length_append, List.length_map, List.length_cons, List.length_nil]; omega)]
  rw [List.map_append, List.map_append, P6]; rfl
theorem AAd (l : List UInt8) (hN : l.length + 5 ≤ N ∨ 1048576 < l.length) : IM N l = some (Tt N l) := by
  unfold IM Tt
  by_cases h : l.length > 1048576
  · have : (l.length : Int) > 1048576 := by omega
    rw [if_pos (decide_eq_true this), if_pos h]
  · have h' : ¬ (l.length : Int) > 1048576 := by omega
    rw [if_neg (by simpa using h'), if_neg h, M8 (by omega) (by omega), Option.bind_some]
    by_cases hv : (Em N l).isSome = true
    · rw [if_pos hv, if_pos hv, Au, Aa (by unfold Bi; omega), Nu _ l [34] (by simp; omega)]
      exact AAW l (by omega)
    · rw [if_neg hv, if_neg hv]
end
end Go.VM
namespace Go.VM
theorem AHb (a b : UInt8) : a < b ∨ a = b ∨ b < a := by
  rcases Nat.lt_trichotomy a.toNat b.toNat with h | h | h
  · exact .inl (UInt8.lt_iff_toNat_lt.2 h)
  · exact .inr (.inl (UInt8.toNat_inj.1 h))
  · exact .inr (.inr (UInt8.lt_iff_toNat_lt.2 h))
theorem AIe (a : UInt8) : ¬ a < a := fun h => Nat.lt_irrefl _ (UInt8.lt_iff_toNat_lt.1 h)
theorem AJB {a b c : UInt8} (h : a < b) (k : b < c) : a < c := UInt8.lt_iff_toNat_lt.2 (Nat.lt_trans (UInt8.lt_iff_toNat_lt.1 h) (UInt8.lt_iff_toNat_lt.1 k))
theorem YY : ∀ a b : List UInt8, Op.bytesLess a b = true ∨ a = b ∨ Op.bytesLess b a = true
  | [], [] => .inr (.inl rfl)
  | [], _ :: _ => .inl (by simp [Op.bytesLess])
  | _ :: _, [] => .inr (.inr (by simp [Op.bytesLess]))
  | a :: x, b :: y => by
    simp only [Op.bytesLess, Bool.or_eq_true, decide_eq_true_eq, Bool.and_eq_true, beq_iff_eq]
    rcases AHb a b with h | rfl | h
    · exact .inl (.inl h)
    · rcases YY x y with h | rfl | h
      · exact .inl (.inr ⟨rfl, h⟩)
      · exact .inr (.inl rfl)
      · exact .inr (.inr (.inr ⟨rfl, h⟩))
    · exact .inr (.inr (.inl h))
theorem YR : ∀ a : List UInt8, Op.bytesLess a a = false
  | [] => rfl
  | a :: x => by simp [Op.bytesLess, AIe, YR x]
theorem ZV : ∀ {a b c : List UInt8}, Op.bytesLess a b = true → Op.bytesLess b c = true → Op.bytesLess a c = true
  | [], [], _, h, _ => by simp [Op.bytesLess] at h
  | [], _ :: _, [], _, k => by simp [Op.bytesLess] at k
  | [], _ :: _, _ :: _, _, _ => by simp [Op.bytesLess]
  | _ :: _, [], _, h, _ => by simp [Op.bytesLess] at h
  | _ :: _, _ :: _, [], _, k => by simp [Op.bytesLess] at k
  | a :: x, b :: y, c :: z, h, k => by
    simp only [Op.bytesLess, Bool.or_eq_true, decide_eq_true_eq, Bool.and_eq_true, beq_iff_eq] at h k ⊢
    rcases h with h | ⟨rfl, h⟩
    · rcases k with k | ⟨rfl, k⟩
      · exact .inl (AJB h k)
      · exact .inl h
    · rcases k with k | ⟨rfl, k⟩
      · exact .inl k
      · exact .inr ⟨rfl, ZV h k⟩
def leB (a b : List UInt8) : Bool := Op.bytesLess a b || a == b
theorem ABC (a b : List UInt8) : (leB a b || leB b a) = true := by
  unfold leB
  rcases YY a b with h | rfl | h <;> simp [*]
theorem ABQ (a b c : List UInt8) (h : leB a b = true) (k : leB b c = true) : leB a c = true := by
  unfold leB at *
  simp only [Bool.or_eq_true, beq_iff_eq] at *
  rcases h with h | rfl
  · rcases k with k | rfl
    · exact .inl (ZV h k)
    · exact .inl h
  · exact k
theorem ACN {a b : List UInt8} (h : leB a b = true) (k : leB b a = true) : a = b := by
  unfold leB at *
  simp only [Bool.or_eq_true, beq_iff_eq] at *
  rcases h with h | rfl
  · rcases k with k | rfl
    · have := ZV h k; rw [YR] at this; cases this
    · rfl
  · rfl
def Asc (l : List (List UInt8)) : Prop := l.Pairwise fun a b => leB a b = true
theorem Pp {l m : List (List UInt8)} (hp : l.Perm m) (h1 : Asc l) (h2 : Asc m) : l = m :=
  List.Perm.eq_of_pairwise (le := fun a b => leB a b = true) (fun a b _ _ => ACN) h1 h2 hp
def Gw (l : List (List UInt8)) : List (List UInt8) := l.mergeSort leB
theorem H5 (l : List (List UInt8)) : (Gw l).Perm l := List.mergeSort_perm l leB
theorem Mt (l : List (List UInt8)) : Asc (Gw l) := List.pairwise_mergeSort ABQ ABC l
section
variable {N : Nat}
theorem AEA {n : Nat} (h : n ≤ 1000000000) : EK n 16 := by unfold EK; omega
def JK (N : Nat) (l : List (List UInt8)) : Bool := decide l.Nodup && l.all fun k => (Em N k).isSome
end
end Go.VM
