import Derived.Test.YtfbofngnmfcomaaGreatDoorRows
import Derived.Test.YtfbofngnmfcomaaGreatDoorTy
import Derived.Test.YtfbofngnmfcomaaGreatDoorVM3
set_option linter.unusedVariables false
set_option maxRecDepth 100000
namespace Go.VM
end Go.VM
namespace Go.Proofs.YtfbofngnmfcomaaGreatDoor
open Go.VM
end Go.Proofs.YtfbofngnmfcomaaGreatDoor
