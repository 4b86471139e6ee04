/- Readings of the arguments as values; written by reads.py. -/
import Derived.Test.YtbmilkoebhmnnaaGreatDoorRows
import Derived.Test.YtbmilkoebhmnnaaGreatDoorTy
import Derived.Test.YtbmilkoebhmnnaaGreatDoorVM3
set_option linter.unusedVariables false
set_option maxRecDepth 100000
namespace Go.VM
end Go.VM
namespace Go.Proofs.YtbmilkoebhmnnaaGreatDoor
open Go.VM
end Go.Proofs.YtbmilkoebhmnnaaGreatDoor
