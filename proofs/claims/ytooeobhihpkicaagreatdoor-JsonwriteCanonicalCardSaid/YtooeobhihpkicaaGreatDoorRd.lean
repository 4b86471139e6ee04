import Derived.Test.YtooeobhihpkicaaGreatDoorRows
import Derived.Test.YtooeobhihpkicaaGreatDoorTy
import Derived.Test.YtooeobhihpkicaaGreatDoorVM3
set_option linter.unusedVariables false
set_option maxRecDepth 100000
namespace Go.VM
end Go.VM
namespace Go.Proofs.YtooeobhihpkicaaGreatDoor
open Go.VM
end Go.Proofs.YtooeobhihpkicaaGreatDoor
