import Derived.Test.YtjgdhjpafjpjgaaGreatDoorRows
import Derived.Test.YtjgdhjpafjpjgaaGreatDoorTy
import Derived.Test.YtjgdhjpafjpjgaaGreatDoorVM3
set_option linter.unusedVariables false
set_option maxRecDepth 100000
namespace Go.VM
end Go.VM
namespace Go.Proofs.YtjgdhjpafjpjgaaGreatDoor
open Go.VM
end Go.Proofs.YtjgdhjpafjpjgaaGreatDoor
