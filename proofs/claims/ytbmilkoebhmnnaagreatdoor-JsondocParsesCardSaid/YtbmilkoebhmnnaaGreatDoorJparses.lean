/- The plain law of JsondocParses. -/
import Derived.Test.YtbmilkoebhmnnaaGreatDoorJsame
import Derived.Test.YtbmilkoebhmnnaaGreatDoorJdepth
import Derived.Test.YtbmilkoebhmnnaaGreatDoorRd
import Derived.KernelRfl
set_option linter.unusedVariables false
set_option linter.unusedSimpArgs false
namespace Go.VM
theorem sane14p : law14_sane 1099511627776 = some true := by kernel_rfl
theorem jsondocParses_said (s : List UInt8) (_ : s.length ≤ reachBytes) : law14_JsondocParses 1099511627776 s = some true := by
  unfold law14_JsondocParses
  rw [sane14p, Option.bind_some, if_pos rfl]
  by_cases hb : s.length > 3000
  · rw [if_pos (by simp; omega)]
  · rw [if_neg (by simp; omega)]
    obtain ⟨r, e1, e2⟩ := parse_both (N := 1099511627776) (l := s) (by omega) (by omega)
    rw [e2, e1]
    have hd := same_refl (N := 1099511627776) 1099511627776 65 r.1 (parse_depth e2) (by omega)
    simp [hd]
end Go.VM
