/- How many aliases, properties and links a JRD may have. -/
import Derived.Test.YtdbeiialamganaaDefs
import Derived.Test.YtdbeiialamganaaRd
import Derived.Test.YtdbeiialamganaaBase
import Derived.KernelRfl
set_option linter.unusedVariables false
set_option linter.unusedSimpArgs false
namespace Go.VM
theorem lim_L1 {N : Nat} {a m : Int} (h : a.tmod 4 = m.tmod 4) (k4 : (List (List UInt8)) × (List ApiValue) × (List ApiValue) → Option Bool) : ∀ (k : Nat) (s : Int) (x : List (List UInt8)) (y z : List ApiValue), law16_JrdLimits_L1 N a k4 k s x y z = law16_JrdLimits_L1 N m k4 k s x y z
  | 0, s, x, y, z => by rw [law16_JrdLimits_L1, law16_JrdLimits_L1]
  | k + 1, s, x, y, z => by
    rw [law16_JrdLimits_L1, law16_JrdLimits_L1, h]
    simp only [joinK_eq, lim_L1 h k4 k]
theorem lim_eq {N : Nat} {a b m : Int} (h : a.tmod 5 = b.tmod 5) {c d : Int} (h2 : c.tmod 4 = d.tmod 4) : law16_JrdLimits N a c = law16_JrdLimits N b d := by
  unfold law16_JrdLimits
  simp only [joinK_eq, h, h2, lim_L1 h2]
theorem lim_tab : ((List.range 5).all fun x => (List.range 4).all fun y => law16_JrdLimits 13000 (x : Int) (y : Int) == some true) = true := by kernel_rfl
theorem lim_all (x y : Nat) (hx : x < 5) (hy : y < 4) : law16_JrdLimits 13000 (x : Int) (y : Int) = some true := by
  have := List.all_eq_true.1 (List.all_eq_true.1 lim_tab x (List.mem_range.2 hx)) y (List.mem_range.2 hy)
  simpa using this
theorem jrdLimits_said (n : Int) (hn : (Lit.int .u8 n).wf = true) (w : Int) (hw : (Lit.int .u8 w).wf = true) : law16_JrdLimits 13000 n w = some true := by
  obtain ⟨x, rfl⟩ := Int.eq_ofNat_of_zero_le (wf_u8 hn).1
  obtain ⟨y, rfl⟩ := Int.eq_ofNat_of_zero_le (wf_u8 hw).1
  rw [lim_eq (m := 0) (b := ((x % 5 : Nat) : Int)) (d := ((y % 4 : Nat) : Int)) (by show ((x % 5 : Nat) : Int) = ((x % 5 % 5 : Nat) : Int); rw [Nat.mod_mod]) (by show ((y % 4 : Nat) : Int) = ((y % 4 % 4 : Nat) : Int); rw [Nat.mod_mod])]
  exact lim_all _ _ (Nat.mod_lt _ (by omega)) (Nat.mod_lt _ (by omega))
end Go.VM
