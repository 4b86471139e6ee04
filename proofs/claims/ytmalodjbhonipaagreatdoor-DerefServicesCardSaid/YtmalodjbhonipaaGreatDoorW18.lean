import Derived.Test.YtmalodjbhonipaaGreatDoorVmFacts
import Derived.Test.YtmalodjbhonipaaGreatDoorDefs
import Derived.Test.YtmalodjbhonipaaGreatDoorVM7
import Derived.Test.YtmalodjbhonipaaGreatDoorW0
import Derived.Test.YtmalodjbhonipaaGreatDoorW1
import Derived.Test.YtmalodjbhonipaaGreatDoorW2
import Derived.Test.YtmalodjbhonipaaGreatDoorW3
import Derived.Test.YtmalodjbhonipaaGreatDoorW5
import Derived.Test.YtmalodjbhonipaaGreatDoorW7
import Derived.Test.YtmalodjbhonipaaGreatDoorW12
import Derived.Test.YtmalodjbhonipaaGreatDoorW13
import Derived.Test.YtmalodjbhonipaaGreatDoorW16
import Derived.Test.YtmalodjbhonipaaGreatDoorW17
set_option linter.unusedVariables false
set_option linter.unusedSimpArgs false
set_option maxHeartbeats 4000000
set_option maxRecDepth 100000
set_option linter.defProp false
namespace Go.Proofs.YtmalodjbhonipaaGreatDoor
open Go.VM
attribute [local irreducible] AA grd letL
variable{N n:Nat}{m:MS}{Q:PQ}{args:List AVal}
@[reducible, instance] def AFL {k24 xs bn3_methods bn2} := LQ.mk (X := DI N k24 xs bn3_methods bn2) (G := fun xs i (s : (List ApiMethod) × DiddocDecoder) => DI N k24 xs s.1 s.2) (s := (bn3_methods, bn2)) (js := [(11, 2), (55, 19)]) (cs := [54]) (V := fun i s => [.int .i64 i]) (Ms := fun i s => [.k, .p [.k, .k, .k, .v (.slice 3 (List.map Ef s.1) true)], .s ([.str s.2.did.method, .str s.2.did.iD, .int .i64 s.2.e])]) (fun _ => rfl) (fun i s => DI.eq_1 ..) (fun x xs i s => DI.eq_2 ..)
@[reducible, instance] def AFk {k37 xs bn3_services bn2} := LQ.mk (X := DC N k37 xs bn3_services bn2) (G := fun xs i (s : (List ApiService) × DiddocDecoder) => DC N k37 xs s.1 s.2) (s := (bn3_services, bn2)) (js := [(14, 1), (78, 11)]) (cs := [77]) (V := fun i s => [.int .i64 i]) (Ms := fun i s => [.k, .p [.k, .k, .k, .k, .v (.slice 3 (List.map Cc s.1) true)], .s ([.str s.2.did.method, .str s.2.did.iD, .int .i64 s.2.e])]) (fun _ => rfl) (fun i s => DC.eq_1 ..) (fun x xs i s => DC.eq_2 ..)
instance AME {a0}:CF vE (IE N a0) 12 [AR a0] (fun r=>.tuple [Nl r.1,.int .i64 r.2]):=Ae (IE.eq_1 ..) Tryz.func12 rfl Tryz.ntmps12 Tryz.results12 [(6,[],.stop),(8,[],.take 0 (.take 1 (.alt 2 [0] (.take 3 (.alt 4 [1] (.take 5 (.alt 6 [] (.done) (.stop))) (.stop))) (.stop)))),(17,[],.take 0 (.take 2 (.alt 1 [2] (.take 4 (.alt 3 [4,0] (.alt 5 [2] (.take 6 (.alt 7 [] (.done) (.stop))) (.stop)) (.stop))) (.stop)))),(18,[68],.done),(23,[82],.take 0 (.take 2 (.alt 1 [2] (.alt 3 [0] (.take 4 (.alt 5 [2,0] (.take 6 (.alt 7 [] (.done) (.stop))) (.stop))) (.stop)) (.alt 3 [0] (.take 4 (.alt 1 [4,2] (.alt 5 [2,0] (.take 6 (.alt 7 [] (.done) (.stop))) (.stop)) (.stop))) (.stop))))),(26,[],.take 1 (.take 2 (.alt 0 [2,1] (.alt 3 [2,1] (.alt 4 [] (.done) (.stop)) (.stop)) (.stop))))] true
@[reducible, instance] def AGT {a1 y5 k8 xs} := LQ.mk (X := DR N a1 y5 k8 xs) (G := fun xs i (s : Unit) => DR N a1 y5 k8 xs) (s := ()) (js := [(4, 2), (11, 1), (32, 18)]) (cs := [31]) (V := fun i s => [.int .i64 i]) (Ms := fun i s => []) (fun _ => rfl) (fun i s => DR.eq_1 ..) (fun x xs i s => DR.eq_2 ..)
instance R5 {a0 a1}:CF vE (Fw N a0 a1) 7 [AR a0,BZ a1] (fun r=>.tuple [.str r.1,.int .i64 r.2]):=Ae (Fw.eq_1 ..) Tryz.func7 rfl Tryz.ntmps7 Tryz.results7 [(10,[],.take 0 (.take 1 (.take 2 (.take 3 (.take 6 (.alt 4 [6,2,1,0] (.take 5 (.take 7 (.take 8 (.done)))) (.stop)))))))]
theorem NA {a0 a1 r} (h:Fw N a0 a1=some r) (ha:args=[AR a0,BZ a1]) (hQ: ∀n',n≤n'→Gl (Q (.tuple [.str r.1,.int .i64 r.2]) ⟨m,n'⟩)):ACall vE 7 args ⟨m,n⟩ Q:=ha▸R5.go h hQ
end Go.Proofs.YtmalodjbhonipaaGreatDoor
