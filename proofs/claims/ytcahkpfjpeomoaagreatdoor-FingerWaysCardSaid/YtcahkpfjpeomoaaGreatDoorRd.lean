import Derived.Test.YtcahkpfjpeomoaaGreatDoorRows
import Derived.Test.YtcahkpfjpeomoaaGreatDoorTy
import Derived.Test.YtcahkpfjpeomoaaGreatDoorVM3
set_option linter.unusedVariables false
set_option maxRecDepth 100000
namespace Go.VM
end Go.VM
namespace Go.Proofs.YtcahkpfjpeomoaaGreatDoor
open Go.VM
end Go.Proofs.YtcahkpfjpeomoaaGreatDoor
