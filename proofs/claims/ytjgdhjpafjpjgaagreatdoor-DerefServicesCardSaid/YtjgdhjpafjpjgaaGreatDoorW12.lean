import Derived.Test.YtjgdhjpafjpjgaaGreatDoorVmFacts
import Derived.Test.YtjgdhjpafjpjgaaGreatDoorDefs
import Derived.Test.YtjgdhjpafjpjgaaGreatDoorVM7
import Derived.Test.YtjgdhjpafjpjgaaGreatDoorW3
import Derived.Test.YtjgdhjpafjpjgaaGreatDoorW4
import Derived.Test.YtjgdhjpafjpjgaaGreatDoorW8
import Derived.Test.YtjgdhjpafjpjgaaGreatDoorW9
import Derived.Test.YtjgdhjpafjpjgaaGreatDoorW11
set_option linter.unusedVariables false
set_option linter.unusedSimpArgs false
set_option maxHeartbeats 4000000
set_option maxRecDepth 100000
set_option linter.defProp false
namespace Go.Proofs.YtjgdhjpafjpjgaaGreatDoor
open Go.VM
attribute [local irreducible] AA grd letL
variable{N n:Nat}{m:MS}{Q:PQ}{args:List AVal}
@[instance_reducible, instance] def AJ5 {a0 a1 k2 k s20} := LF.mk (X := Ed N a0 a1 k2 k s20) (G := fun k (s : Nat) => Ed N a0 a1 k2 k s) (s := s20) (js := [(4, 4), (21, 16)]) (cs := [20]) (V := fun s => [.iter ([34, 92, 47, 98, 102, 110, 114, 116] : List UInt8) s]) (Ms := fun s => []) rfl (fun s => Ed.eq_1 ..) (fun k s => Ed.eq_2 ..)
instance ATA {a0 a1}:CF vE (Jl N a0 a1) 198 [.str a0,.int .i64 a1] (fun r=>.tuple [.str r.1,.int .i64 r.2.1,.int .i64 r.2.2]):=mkF (Jl.eq_1 ..) Tryz.func198 rfl Tryz.ntmps198 Tryz.results198 [(5,[],.take 0 (.take 1 (.take 2 (.take 3 (.take 4 (.take 5 (.take 6 (.done)))))))),(10,[],.stop),(14,[],.stop)] false fun r n m R hR h hD=>tW
instance AD3 {a0 a1 a2}:CF vE (strings_ReplaceAll N a0 a1 a2) 201 [.str a0,.str a1,.str a2] (fun r=>.str r):=mkF (strings_ReplaceAll.eq_1 ..) Tryz.func201 rfl Tryz.ntmps201 Tryz.results201 [] false fun r n m R hR h hD=>tW
instance ATQ {a0}:CF vE (Jg N a0) 48 [CR a0] (fun r=>.slice 2 (List.map DU r) false):=mkF (Jg.eq_1 ..) Tryz.func48 rfl Tryz.ntmps48 Tryz.results48 [] true fun r n m R hR h hD=>tW
instance AOb {a0 a1}:CF vE (strings_Split N a0 a1) 234 [.str a0,.str a1] (fun r=>.slice 1 (List.map AVal.str r) false):=mkF (strings_Split.eq_1 ..) Tryz.func234 rfl Tryz.ntmps234 Tryz.results234 [] false fun r n m R hR h hD=>tW
instance AXh {a0}:CF vE (Mq N a0) 163 [.str a0] (fun r=>.tuple [.int .i64 r.1,.int .i64 r.2]):=mkF (Mq.eq_1 ..) Tryz.func163 rfl Tryz.ntmps163 Tryz.results163 [(2,[],.stop)] false fun r n m R hR h hD=>tW
instance AT0 {a0}:CF vE (I9 N a0) 239 [.str a0] (fun r=>.tuple [CR r.1,.int .i64 r.2]):=mkF (I9.eq_1 ..) Tryz.func239 rfl Tryz.ntmps239 Tryz.results239 [(7,[],.take 0 (.take 2 (.take 3 (.take 4 (.alt 1 [4,3,2] (.alt 5 [4,3,2,0] (.alt 6 [4,3,2] (.alt 7 [] (.done) (.stop)) (.stop)) (.stop)) (.alt 5 [4,3,2,0] (.alt 1 [4,3,2] (.alt 6 [4,3,2] (.alt 7 [] (.done) (.stop)) (.stop)) (.stop)) (.stop))))))),(10,[],.take 0 (.take 1 (.take 2 (.take 3 (.take 4 (.take 5 (.take 6 (.take 7 (.alt 8 [6,5,4] (.take 9 (.alt 10 [6,5,4] (.alt 11 [] (.done) (.stop)) (.stop))) (.stop)))))))))),(13,[],.take 0 (.take 1 (.take 2 (.take 3 (.take 4 (.take 5 (.take 6 (.take 7 (.alt 8 [6,5,4] (.take 9 (.alt 10 [6,5,4] (.alt 11 [] (.done) (.stop)) (.stop))) (.stop))))))))))] false fun r n m R hR h hD=>tW
instance APg {a0}:CF vE (H8 N a0) 56 [CR a0] (fun r=>.slice 2 (List.map DU r) false):=mkF (H8.eq_1 ..) Tryz.func56 rfl Tryz.ntmps56 Tryz.results56 [] true fun r n m R hR h hD=>tW
instance AVT {a0}:CF vE (LH N a0) 127 [.str a0] (fun r=>.tuple [.str r.1,.int .i64 r.2]):=mkF (LH.eq_1 ..) Tryz.func127 rfl Tryz.ntmps127 Tryz.results127 [(5,[],.stop)] false fun r n m R hR h hD=>tW
end Go.Proofs.YtjgdhjpafjpjgaaGreatDoor
