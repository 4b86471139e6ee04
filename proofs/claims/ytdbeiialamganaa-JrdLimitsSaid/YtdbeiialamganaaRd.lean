/- Readings of the arguments as values; written by reads.py. -/
import Derived.Test.YtdbeiialamganaaRows
import Derived.Test.YtdbeiialamganaaTy
import Derived.Test.YtdbeiialamganaaVM3
set_option linter.unusedVariables false
set_option maxRecDepth 100000
namespace Go.VM
end Go.VM
namespace Go.Proofs.Ytdbeiialamganaa
open Go.VM
end Go.Proofs.Ytdbeiialamganaa
