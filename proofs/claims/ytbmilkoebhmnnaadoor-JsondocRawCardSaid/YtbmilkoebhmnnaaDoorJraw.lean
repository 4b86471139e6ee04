/- The plain laws of JsondocRaw and JsondocDepth. -/
import Derived.Test.YtbmilkoebhmnnaaDoorVal
import Derived.Test.YtbmilkoebhmnnaaDoorRd
import Derived.KernelRfl
set_option linter.unusedVariables false
set_option linter.unusedSimpArgs false
namespace Go.VM
theorem sane14 : law14_sane 1099511627776 = some true := by kernel_rfl
theorem jsondocRaw_said (v : ApiValue) (_ : okApiValue v) (key : List UInt8) (_ : key.length ≤ reachBytes) : law14_JsondocRaw 1099511627776 v key = some true := by
  unfold law14_JsondocRaw
  rw [sane14, Option.bind_some, if_pos rfl]
  obtain ⟨b, e, hb⟩ := keepV_ok (N := 1099511627776) (by omega) v 60 (by omega)
  rw [show (60 : Int) = ((60 : Nat) : Int) from rfl, e, Option.bind_some]
  cases b
  · rfl
  · have h := (hb rfl).1
    have := h.keys
    rw [if_pos rfl, get_eq v key (by omega), Option.bind_some, rget_eq v key (by omega), Option.bind_some, if_pos (by simp), same_refl _ 69 _ (okW_get h (by omega) key).d (by omega)]
    rfl
end Go.VM
