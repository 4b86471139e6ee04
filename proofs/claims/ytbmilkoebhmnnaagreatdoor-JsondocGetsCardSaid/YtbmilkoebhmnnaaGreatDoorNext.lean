/- Tokens: the program's and the reference's readers are the same. -/
import Derived.Test.YtbmilkoebhmnnaaGreatDoorNum2
set_option linter.unusedVariables false
set_option linter.unusedSimpArgs false
namespace Go.VM
section
variable {N : Nat}
section
variable {l t : List UInt8} {i p : Nat}
end
end
end Go.VM
