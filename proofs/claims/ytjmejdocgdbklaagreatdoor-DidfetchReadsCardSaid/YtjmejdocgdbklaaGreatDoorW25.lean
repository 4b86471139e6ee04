import Derived.Test.YtjmejdocgdbklaaGreatDoorVmFacts
import Derived.Test.YtjmejdocgdbklaaGreatDoorDefs
import Derived.Test.YtjmejdocgdbklaaGreatDoorVM7
import Derived.Test.YtjmejdocgdbklaaGreatDoorW0
import Derived.Test.YtjmejdocgdbklaaGreatDoorW2
import Derived.Test.YtjmejdocgdbklaaGreatDoorW9
import Derived.Test.YtjmejdocgdbklaaGreatDoorW13
import Derived.Test.YtjmejdocgdbklaaGreatDoorW15
import Derived.Test.YtjmejdocgdbklaaGreatDoorW19
import Derived.Test.YtjmejdocgdbklaaGreatDoorW21
import Derived.Test.YtjmejdocgdbklaaGreatDoorW24
set_option linter.unusedVariables false
set_option linter.unusedSimpArgs false
set_option maxHeartbeats 4000000
set_option maxRecDepth 100000
set_option linter.defProp false
namespace Go.Proofs.YtjmejdocgdbklaaGreatDoor
open Go.VM
attribute [local irreducible] AB grd letL
variable{N n:Nat}{m:MS}{Q:PQ}{args:List AVal}
instance Ahx {a0}:CF vE (NB N a0) 66 [.str a0] (λr=>.tuple [MU r.1,.int .i64 r.2]):=AZ (NB.eq_1 ..) Tryz.func66 rfl Tryz.ntmps66 Tryz.results66 [(5,[],.stop)] true (by intro r n m R hR h hD;simp only[AB]at h;exact tW)
@[reducible,instance] def ALu {k5 k bi2} := LU.mk (X := DY N k5 k bi2) (G := λk i (s : MadeDice) => DY N k5 k s) (k := k) (s := bi2) (js := [(6, 4), (12, 21)]) (cs := [5]) (V := λi s => [.int .i64 i]) (Ms := λi s => [.s ([.slice 1 (List.map (AVal.int .u8) s.l) false])]) (λ_ => rfl) (λi s => DY.eq_1 ..) (λk i s => DY.eq_2 ..)
instance AUQ {a0}:CF vE (J3 N a0) 6 [.slice 1 (List.map (AVal.int .u8) a0) false] (λr=>.tuple [MU r.1,Cy r.2]):=AZ (J3.eq_1 ..) Tryz.func6 rfl Tryz.ntmps6 Tryz.results6 [(8,[],.take 0 (.take 1 (.alt 2 [1] (.alt 3 [] (.done) (.stop)) (.stop))))]
instance Aj1 {a0 a1}:CF vE (OJ N a0 a1) 27 [.str a0,.str a1] (λr=>.bool r):=AZ (OJ.eq_1 ..) Tryz.func27 rfl Tryz.ntmps27 Tryz.results27 [(3,[],.stop)]
end Go.Proofs.YtjmejdocgdbklaaGreatDoor
