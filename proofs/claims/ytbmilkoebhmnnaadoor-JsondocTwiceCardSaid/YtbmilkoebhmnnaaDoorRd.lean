import Derived.Test.YtbmilkoebhmnnaaDoorRows
import Derived.Test.YtbmilkoebhmnnaaDoorTy
import Derived.Test.YtbmilkoebhmnnaaDoorVM3
set_option linter.unusedVariables false
set_option maxRecDepth 100000
namespace Go.VM
end Go.VM
namespace Go.Proofs.YtbmilkoebhmnnaaDoor
open Go.VM
end Go.Proofs.YtbmilkoebhmnnaaDoor
