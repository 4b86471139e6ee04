/- Escape sequences: the program's and the reference's readers are the same. -/
import Derived.Test.YtbmilkoebhmnnaaGreatDoorHex
set_option linter.unusedVariables false
set_option linter.unusedSimpArgs false
namespace Go.VM
section
variable {N : Nat}
end
end Go.VM
