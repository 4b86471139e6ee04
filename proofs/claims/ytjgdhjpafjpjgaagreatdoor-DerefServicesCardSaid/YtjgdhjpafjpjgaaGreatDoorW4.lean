import Derived.Test.YtjgdhjpafjpjgaaGreatDoorVmFacts
import Derived.Test.YtjgdhjpafjpjgaaGreatDoorDefs
import Derived.Test.YtjgdhjpafjpjgaaGreatDoorVM7
import Derived.Test.YtjgdhjpafjpjgaaGreatDoorW0
import Derived.Test.YtjgdhjpafjpjgaaGreatDoorW1
set_option linter.unusedVariables false
set_option linter.unusedSimpArgs false
set_option maxHeartbeats 4000000
set_option maxRecDepth 100000
set_option linter.defProp false
namespace Go.Proofs.YtjgdhjpafjpjgaaGreatDoor
open Go.VM
attribute [local irreducible] AA grd letL
variable{N n:Nat}{m:MS}{Q:PQ}{args:List AVal}
@[instance_reducible, instance] def M0 {a0 k4 xs s9 s8} := LR.mk (X := Ao N a0 k4 xs s9 s8) (G := fun xs i (s : Int) => Ao N a0 k4 xs i s) (i := s9) (s := s8) (js := [(18, 12)]) (cs := [8, 9]) (V := fun i s => [.int .u32 s, .int .i64 i]) (Ms := fun i s => []) rfl (fun i s => Ao.eq_1 ..) (fun x xs i s => Ao.eq_2 ..)
@[instance_reducible, instance] def Mx {a0 a1 y1 k15 k s10 s8} := LC.mk (X := Ap N a0 a1 y1 k15 k s10 s8) (G := fun k i (s : Int) => Ap N a0 a1 y1 k15 k i s) (i := s10) (k := k) (s := s8) (js := [(4, 1), (41, 40)]) (cs := [8, 10]) (V := fun i s => [.int .u32 s, .int .i64 i]) (Ms := fun i s => []) rfl (fun i s => Ap.eq_1 ..) (fun k i s => Ap.eq_2 ..)
instance Ni {a0 a1}:CF vE (FB N a0 a1) 196 [.str a0,.str a1] (fun r=>.int .i64 r):=mkF (FB.eq_1 ..) Tryz.func196 rfl Tryz.ntmps196 Tryz.results196 [(8,[],.stop),(16,[],.stop)] false fun r n m R hR h hD=>tW
instance Sr {a0 a1}:CF vE (CS N a0 a1) 138 [.str a0,.str a1] (fun r=>.int .i64 r):=mkF (CS.eq_1 ..) Tryz.func138 rfl Tryz.ntmps138 Tryz.results138 [(2,[],.stop),(8,[],.stop),(21,[],.stop),(25,[],.stop),(30,[],.stop)] false fun r n m R hR h hD=>tW
instance AUF {a0}:CF vE (JF N a0) 139 [.int .u8 a0] (fun r=>.bool r):=mkF (JF.eq_1 ..) Tryz.func139 rfl Tryz.ntmps139 Tryz.results139 [(1,[],.stop)] false fun r n m R hR h hD=>tW
instance AOt {a0}:CF vE (Gu N a0) 140 [.int .u8 a0] (fun r=>.int .u8 r):=mkF (Gu.eq_1 ..) Tryz.func140 rfl Tryz.ntmps140 Tryz.results140 [] false fun r n m R hR h hD=>tW
@[instance_reducible, instance] def AOO {a1 k2 xs s5} := LR.mk (X := Ce N a1 k2 xs s5) (G := fun xs i (s : Unit) => Ce N a1 k2 xs i) (i := s5) (s := ()) (js := [(4, 1), (6, 12)]) (cs := [5]) (V := fun i s => [.int .i64 i]) (Ms := fun i s => []) rfl (fun i s => Ce.eq_1 ..) (fun x xs i s => Ce.eq_2 ..)
instance AT5 {a0 a1}:CF vE (BC N a0 a1) 41 [.str a0,.str a1] (fun r=>.int .i64 r):=mkF (BC.eq_1 ..) Tryz.func41 rfl Tryz.ntmps41 Tryz.results41 [] false fun r n m R hR h hD=>tW
@[instance_reducible, instance] def AQx {a0 k2 k s3} := LF.mk (X := FQ N a0 k2 k s3) (G := fun k (s : Int) => FQ N a0 k2 k s) (s := s3) (js := [(4, 12)]) (cs := [3]) (V := fun s => [.int .i64 s]) (Ms := fun s => []) rfl (fun s => FQ.eq_1 ..) (fun k s => FQ.eq_2 ..)
instance AXm {a0}:CF vE (JR N a0) 197 [.str a0] (fun r=>.int .i64 r):=mkF (JR.eq_1 ..) Tryz.func197 rfl Tryz.ntmps197 Tryz.results197 [(2,[],.stop)] false fun r n m R hR h hD=>tW
@[instance_reducible, instance] def AHE {k19 xs s4} := LQ.mk (X := C9 N k19 xs s4) (G := fun xs i (s : Int) => C9 N k19 xs s) (s := s4) (js := [(22, 15)]) (cs := [4, 5]) (V := fun i s => [.int .i64 s, .int .i64 i]) (Ms := fun i s => []) (fun _ => rfl) (fun i s => C9.eq_1 ..) (fun x xs i s => C9.eq_2 ..)
instance ALE {a0}:CF vE (Ho N a0) 144 [.str a0] (fun r=>.int .i64 r):=mkF (Ho.eq_1 ..) Tryz.func144 rfl Tryz.ntmps144 Tryz.results144 [(1,[],.stop),(2,[],.stop)] false fun r n m R hR h hD=>tW
instance AUK {a0}:CF vE (L6 N a0) 148 [.int .u8 a0] (fun r=>.bool r):=mkF (L6.eq_1 ..) Tryz.func148 rfl Tryz.ntmps148 Tryz.results148 [] false fun r n m R hR h hD=>tW
instance AUC {a0}:CF vE (FT N a0) 141 [.int .u8 a0] (fun r=>.bool r):=mkF (FT.eq_1 ..) Tryz.func141 rfl Tryz.ntmps141 Tryz.results141 [(1,[],.stop)] false fun r n m R hR h hD=>tW
instance ASf {a0}:CF vE (Gb N a0) 230 [.int .i64 a0] (fun r=>.tuple [.str r.1,.int .i64 r.2]):=mkF (Gb.eq_1 ..) Tryz.func230 rfl Tryz.ntmps230 Tryz.results230 [] false fun r n m R hR h hD=>tW
instance AUN {a0}:CF vE (KY N a0) 80 [Fb a0] (fun r=>.str r):=mkF (KY.eq_1 ..) Tryz.func80 rfl Tryz.ntmps80 Tryz.results80 [(4,[],.take 0 (.take 1 (.take 2 (.take 3 (.take 4 (.take 5 (.take 6 (.alt 7 [5,4,3,2,1,0] (.take 8 (.alt 9 [] (.done) (.stop))) (.stop))))))))),(5,[],.take 0 (.take 1 (.take 2 (.take 3 (.take 4 (.take 5 (.alt 6 [4,3,2,1,0] (.take 7 (.alt 8 [] (.done) (.stop))) (.stop))))))))] false fun r n m R hR h hD=>tW
instance Q0 {a0 a1}:CF vE (DZ N a0 a1) 200 [.str a0,.str a1] (fun r=>.tuple [.str r.1,.bool r.2]):=mkF (DZ.eq_1 ..) Tryz.func200 rfl Tryz.ntmps200 Tryz.results200 [] false fun r n m R hR h hD=>tW
@[instance_reducible, instance] def AOk {k2 xs} := LQ.mk (X := Ex N k2 xs) (G := fun xs i (s : Unit) => Ex N k2 xs) (s := ()) (js := [(2, 2), (7, 20)]) (cs := [6]) (V := fun i s => [.int .i64 i]) (Ms := fun i s => []) (fun _ => rfl) (fun i s => Ex.eq_1 ..) (fun x xs i s => Ex.eq_2 ..)
instance AVj {a0}:CF vE (LY N a0) 151 [.str a0] (fun r=>.bool r):=mkF (LY.eq_1 ..) Tryz.func151 rfl Tryz.ntmps151 Tryz.results151 [(4,[],.stop)] false fun r n m R hR h hD=>tW
instance AT9 {a0}:CF vE (Nr N a0) 132 [.int .u8 a0] (fun r=>.bool r):=mkF (Nr.eq_1 ..) Tryz.func132 rfl Tryz.ntmps132 Tryz.results132 [(1,[],.stop)] false fun r n m R hR h hD=>tW
end Go.Proofs.YtjgdhjpafjpjgaaGreatDoor
