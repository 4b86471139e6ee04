import Derived.Test.YtjgdhjpafjpjgaaGreatDoorVmFacts
import Derived.Test.YtjgdhjpafjpjgaaGreatDoorDefs
import Derived.Test.YtjgdhjpafjpjgaaGreatDoorVM7
import Derived.Test.YtjgdhjpafjpjgaaGreatDoorW0
import Derived.Test.YtjgdhjpafjpjgaaGreatDoorW2
import Derived.Test.YtjgdhjpafjpjgaaGreatDoorW3
import Derived.Test.YtjgdhjpafjpjgaaGreatDoorW4
import Derived.Test.YtjgdhjpafjpjgaaGreatDoorW5
import Derived.Test.YtjgdhjpafjpjgaaGreatDoorW6
import Derived.Test.YtjgdhjpafjpjgaaGreatDoorW7
import Derived.Test.YtjgdhjpafjpjgaaGreatDoorW8
import Derived.Test.YtjgdhjpafjpjgaaGreatDoorW9
import Derived.Test.YtjgdhjpafjpjgaaGreatDoorW11
import Derived.Test.YtjgdhjpafjpjgaaGreatDoorW13
set_option linter.unusedVariables false
set_option linter.unusedSimpArgs false
set_option maxHeartbeats 4000000
set_option maxRecDepth 100000
set_option linter.defProp false
namespace Go.Proofs.YtjgdhjpafjpjgaaGreatDoor
open Go.VM
attribute [local irreducible] AA grd letL
variable{N n:Nat}{m:MS}{Q:PQ}{args:List AVal}
@[instance_reducible, instance] def AOl {a0 k6 k s1} := LF.mk (X := FV N a0 k6 k s1) (G := fun k (s : Int) => FV N a0 k6 k s) (s := s1) (js := [(23, 12)]) (cs := [1]) (V := fun s => [.int .i64 s]) (Ms := fun s => []) rfl (fun s => FV.eq_1 ..) (fun k s => FV.eq_2 ..)
@[instance_reducible, instance] def AOz {a0 j5 k34 k s12} := LF.mk (X := FX N a0 j5 k34 k s12) (G := fun k (s : Int) => FX N a0 j5 k34 k s) (s := s12) (js := [(100, 16)]) (cs := [12]) (V := fun s => [.int .i64 s]) (Ms := fun s => []) rfl (fun s => FX.eq_1 ..) (fun k s => FX.eq_2 ..)
instance YG {a0 a1}:CF vE (KD N a0 a1) 96 [.str a0,.int .i64 a1] (fun r=>.tuple [GQ r.1,.int .i64 r.2.1,.int .i64 r.2.2]):=mkF (KD.eq_1 ..) Tryz.func96 rfl Tryz.ntmps96 Tryz.results96 [(1,[],.stop),(3,[],.stop),(15,[],.stop),(21,[],.stop),(24,[],.stop)] false fun r n m R hR h hD=>tW
theorem ACD {a0 a1 r} (h:KD N a0 a1=some r) (ha:args=[.str a0,.int .i64 a1]) (hQ: ∀n',n≤n'→Gl (Q (.tuple [GQ r.1,.int .i64 r.2.1,.int .i64 r.2.2]) ⟨m,n'⟩)):ACall vE 96 args ⟨m,n⟩ Q:=
 ha▸YG.go h hQ
instance Ue {a0}:CF vE (Ga N a0) 97 [.str a0] (fun r=>.tuple [GM r.1,.int .i64 r.2]):=mkF (Ga.eq_1 ..) Tryz.func97 rfl Tryz.ntmps97 Tryz.results97 [(14,[],.stop)] false fun r n m R hR h hD=>tW
theorem UZ {a0 r} (h:Ga N a0=some r) (ha:args=[.str a0]) (hQ: ∀n',n≤n'→Gl (Q (.tuple [GM r.1,.int .i64 r.2]) ⟨m,n'⟩)):ACall vE 97 args ⟨m,n⟩ Q:=
 ha▸Ue.go h hQ
instance AXn {a0}:CF vE (Mh N a0) 162 [.str a0] (fun r=>.tuple [.str r.1,.int .i64 r.2]):=mkF (Mh.eq_1 ..) Tryz.func162 rfl Tryz.ntmps162 Tryz.results162 [(5,[],.stop)] false fun r n m R hR h hD=>tW
instance QP {a0 a1}:CB vE (FE N a0 a1) 176 (fun i0=>[.ptr i0 0,AC a1]) (fun i0=>[.str a0.d.method,.str a0.d.iD,.int .i64 a0.fail]) (fun r=>.str r.1) (fun i0 r=>[.str r.2.d.method,.str r.2.d.iD,.int .i64 r.2.fail]):=mkB (FE.eq_1 ..) Tryz.func176 rfl Tryz.ntmps176 Tryz.results176 [] false fun r n i m R hin hR h hD=>tW
theorem QL {a0 a1 r}{i0:Nat} (h:FE N a0 a1=some r) (ha:args=[.ptr i0 0,AC a1]) (hi0:Bd m i0=some ([.str a0.d.method,.str a0.d.iD,.int .i64 a0.fail])) (hQ: ∀n',n≤n'→Gl (Q (.str r.1) ⟨Bl m i0 ([.str r.2.d.method,.str r.2.d.iD,.int .i64 r.2.fail]),n'⟩)):ACall vE 176 args ⟨m,n⟩ Q:=
 ha▸QP.go h hi0 hQ
instance AT4 {a0}:CF vE (GU N a0) 120 [.str a0] (fun r=>.tuple [Em r.1,.int .i64 r.2]):=mkF (GU.eq_1 ..) Tryz.func120 rfl Tryz.ntmps120 Tryz.results120 [(6,[],.stop),(10,[],.take 0 (.take 1 (.take 3 (.take 4 (.take 5 (.alt 2 [5,4,3,0] (.take 6 (.alt 7 [5,4,3,1,0] (.done) (.stop))) (.stop)))))))] false fun r n m R hR h hD=>tW
end Go.Proofs.YtjgdhjpafjpjgaaGreatDoor
