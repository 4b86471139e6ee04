import Derived.Test.YtgfgogdgnkaedaaGreatDoorRows
import Derived.Test.YtgfgogdgnkaedaaGreatDoorTy
import Derived.Test.YtgfgogdgnkaedaaGreatDoorVM3
set_option linter.unusedVariables false
set_option maxRecDepth 100000
namespace Go.VM
end Go.VM
namespace Go.Proofs.YtgfgogdgnkaedaaGreatDoor
open Go.VM
end Go.Proofs.YtgfgogdgnkaedaaGreatDoor
