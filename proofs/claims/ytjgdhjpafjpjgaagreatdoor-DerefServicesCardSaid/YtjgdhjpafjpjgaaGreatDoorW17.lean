import Derived.Test.YtjgdhjpafjpjgaaGreatDoorVmFacts
import Derived.Test.YtjgdhjpafjpjgaaGreatDoorDefs
import Derived.Test.YtjgdhjpafjpjgaaGreatDoorVM7
import Derived.Test.YtjgdhjpafjpjgaaGreatDoorW0
import Derived.Test.YtjgdhjpafjpjgaaGreatDoorW2
import Derived.Test.YtjgdhjpafjpjgaaGreatDoorW3
import Derived.Test.YtjgdhjpafjpjgaaGreatDoorW5
import Derived.Test.YtjgdhjpafjpjgaaGreatDoorW7
import Derived.Test.YtjgdhjpafjpjgaaGreatDoorW9
import Derived.Test.YtjgdhjpafjpjgaaGreatDoorW12
import Derived.Test.YtjgdhjpafjpjgaaGreatDoorW14
import Derived.Test.YtjgdhjpafjpjgaaGreatDoorW15
import Derived.Test.YtjgdhjpafjpjgaaGreatDoorW16
set_option linter.unusedVariables false
set_option linter.unusedSimpArgs false
set_option maxHeartbeats 4000000
set_option maxRecDepth 100000
set_option linter.defProp false
namespace Go.Proofs.YtjgdhjpafjpjgaaGreatDoor
open Go.VM
attribute [local irreducible] AA grd letL
variable{N n:Nat}{m:MS}{Q:PQ}{args:List AVal}
instance AUJ {a0}:CF vE (Ht N a0) 20 [.str a0] (fun r=>.tuple [AC r.1,.int .i64 r.2.1,.int .i64 r.2.2]):=mkF (Ht.eq_1 ..) Tryz.func20 rfl Tryz.ntmps20 Tryz.results20 [(6,[],.stop),(9,[],.take 1 (.take 2 (.take 3 (.take 4 (.take 5 (.take 6 (.take 7 (.take 8 (.alt 0 [8,7,6,5,4,3,2,1] (.alt 9 [8,7,6,5,4,3,2,1] (.alt 10 [8,7,6,5] (.alt 11 [] (.done) (.stop)) (.stop)) (.stop)) (.stop))))))))))] true fun r n m R hR h hD=>tW
instance O1 {a0 a1}:CB vE (EW N a0 a1) 103 (fun i0=>[.ptr i0 0,AC a1]) (fun i0=>[.str a0.did.method,.str a0.did.iD,.int .i64 a0.e]) (fun r=>.str r.1) (fun i0 r=>[.str r.2.did.method,.str r.2.did.iD,.int .i64 r.2.e]):=mkB (EW.eq_1 ..) Tryz.func103 rfl Tryz.ntmps103 Tryz.results103 [] false fun r n i m R hin hR h hD=>tW
theorem Kq {a0 a1 r}{i0:Nat} (h:EW N a0 a1=some r) (ha:args=[.ptr i0 0,AC a1]) (hi0:Bd m i0=some ([.str a0.did.method,.str a0.did.iD,.int .i64 a0.e])) (hQ: ∀n',n≤n'→Gl (Q (.str r.1) ⟨Bl m i0 ([.str r.2.did.method,.str r.2.did.iD,.int .i64 r.2.e]),n'⟩)):ACall vE 103 args ⟨m,n⟩ Q:=
 ha▸O1.go h hi0 hQ
instance ASo {a0}:CF vE (JY N a0) 111 [Em a0] (fun r=>.bool r):=mkF (JY.eq_1 ..) Tryz.func111 rfl Tryz.ntmps111 Tryz.results111 [(2,[],.stop)] false fun r n m R hR h hD=>tW
instance AMX {a0 a1}:CF vE (He N a0 a1) 58 [AP a0,CR a1] (fun r=>.tuple [.str r.1,.int .i64 r.2]):=mkF (He.eq_1 ..) Tryz.func58 rfl Tryz.ntmps58 Tryz.results58 [(11,[],.stop)] false fun r n m R hR h hD=>tW
end Go.Proofs.YtjgdhjpafjpjgaaGreatDoor
