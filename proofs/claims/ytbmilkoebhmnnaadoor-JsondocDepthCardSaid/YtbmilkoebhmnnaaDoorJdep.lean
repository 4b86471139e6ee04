/- The plain law of JsondocDepth: all texts, one after another. -/
import Derived.Test.YtbmilkoebhmnnaaDoorJdepA
import Derived.Test.YtbmilkoebhmnnaaDoorJdepB
import Derived.Test.YtbmilkoebhmnnaaDoorJdepC
import Derived.Test.YtbmilkoebhmnnaaDoorRd
import Derived.Test.YtbmilkoebhmnnaaDoorBase
set_option linter.unusedVariables false
namespace Go.VM
theorem dep_small (k : Nat) (hk : k < 70) (b : Bool) : law14_JsondocDepth 1099511627776 (k : Int) b = some true := by
  have get : ∀ {lo hi : Nat} {b : Bool}, ((List.range hi).drop lo).all (fun k => law14_JsondocDepth 1099511627776 ((k : Nat) : Int) b == some true) = true → lo ≤ k → k < hi → law14_JsondocDepth 1099511627776 (k : Int) b = some true := by
    intro lo hi b h h1 h2
    rw [List.all_eq_true] at h
    have hm : k ∈ (List.range hi).drop lo := by
      rw [List.mem_drop_iff_getElem]
      exact ⟨k - lo, by simp; omega, by simp; omega⟩
    simpa using h k hm
  cases b
  · skip
    by_cases h20 : k < 20
    · exact get dep_a0 (by omega) h20
    by_cases h30 : k < 30
    · exact get dep_a20 (by omega) h30
    by_cases h40 : k < 40
    · exact get dep_a30 (by omega) h40
    by_cases h45 : k < 45
    · exact get dep_a40 (by omega) h45
    by_cases h50 : k < 50
    · exact get dep_a45 (by omega) h50
    by_cases h55 : k < 55
    · exact get dep_a50 (by omega) h55
    by_cases h60 : k < 60
    · exact get dep_a55 (by omega) h60
    by_cases h65 : k < 65
    · exact get dep_a60 (by omega) h65
    exact get dep_a65 (by omega) hk
  · skip
    by_cases h10 : k < 10
    · exact get dep_o0 (by omega) h10
    by_cases h16 : k < 16
    · exact get dep_o10 (by omega) h16
    by_cases h20 : k < 20
    · exact get dep_o16 (by omega) h20
    by_cases h24 : k < 24
    · exact get dep_o20 (by omega) h24
    by_cases h28 : k < 28
    · exact get dep_o24 (by omega) h28
    by_cases h31 : k < 31
    · exact get dep_o28 (by omega) h31
    by_cases h34 : k < 34
    · exact get dep_o31 (by omega) h34
    by_cases h37 : k < 37
    · exact get dep_o34 (by omega) h37
    by_cases h40 : k < 40
    · exact get dep_o37 (by omega) h40
    by_cases h41 : k < 41
    · exact get dep_o40 (by omega) h41
    by_cases h42 : k < 42
    · exact get dep_o41 (by omega) h42
    by_cases h43 : k < 43
    · exact get dep_o42 (by omega) h43
    by_cases h44 : k < 44
    · exact get dep_o43 (by omega) h44
    by_cases h45 : k < 45
    · exact get dep_o44 (by omega) h45
    by_cases h46 : k < 46
    · exact get dep_o45 (by omega) h46
    by_cases h47 : k < 47
    · exact get dep_o46 (by omega) h47
    by_cases h48 : k < 48
    · exact get dep_o47 (by omega) h48
    by_cases h49 : k < 49
    · exact get dep_o48 (by omega) h49
    by_cases h50 : k < 50
    · exact get dep_o49 (by omega) h50
    by_cases h51 : k < 51
    · exact get dep_o50 (by omega) h51
    by_cases h52 : k < 52
    · exact get dep_o51 (by omega) h52
    by_cases h53 : k < 53
    · exact get dep_o52 (by omega) h53
    by_cases h54 : k < 54
    · exact get dep_o53 (by omega) h54
    by_cases h55 : k < 55
    · exact get dep_o54 (by omega) h55
    by_cases h56 : k < 56
    · exact get dep_o55 (by omega) h56
    by_cases h57 : k < 57
    · exact get dep_o56 (by omega) h57
    by_cases h58 : k < 58
    · exact get dep_o57 (by omega) h58
    by_cases h59 : k < 59
    · exact get dep_o58 (by omega) h59
    by_cases h60 : k < 60
    · exact get dep_o59 (by omega) h60
    by_cases h61 : k < 61
    · exact get dep_o60 (by omega) h61
    by_cases h62 : k < 62
    · exact get dep_o61 (by omega) h62
    by_cases h63 : k < 63
    · exact get dep_o62 (by omega) h63
    by_cases h64 : k < 64
    · exact get dep_o63 (by omega) h64
    by_cases h65 : k < 65
    · exact get dep_o64 (by omega) h65
    by_cases h66 : k < 66
    · exact get dep_o65 (by omega) h66
    by_cases h67 : k < 67
    · exact get dep_o66 (by omega) h67
    by_cases h68 : k < 68
    · exact get dep_o67 (by omega) h68
    by_cases h69 : k < 69
    · exact get dep_o68 (by omega) h69
    exact get dep_o69 (by omega) hk
theorem jsondocDepth_said (n : Int) (hn : (Lit.int .u8 n).wf = true) (b : Bool) {P : Prop} (_ : P) : law14_JsondocDepth 1099511627776 n b = some true := by
  have h := wf_u8 hn
  obtain ⟨m, rfl⟩ := Int.eq_ofNat_of_zero_le h.1
  have e0 : ∀ k : Nat, ((k : Int)).tmod 70 = ((k % 70 : Nat) : Int) := fun _ => rfl
  have e : ((m : Int)).tmod 70 = (((m % 70 : Nat) : Int)).tmod 70 := by rw [e0, e0, Nat.mod_mod]
  have e2 : law14_JsondocDepth 1099511627776 (m : Int) b = law14_JsondocDepth 1099511627776 ((m % 70 : Nat) : Int) b := by
    unfold law14_JsondocDepth
    rw [e]
  rw [e2]
  exact dep_small _ (Nat.mod_lt _ (by omega)) b
end Go.VM
