import Derived.Test.YtjgdhjpafjpjgaaGreatDoorVmFacts
import Derived.Test.YtjgdhjpafjpjgaaGreatDoorDefs
import Derived.Test.YtjgdhjpafjpjgaaGreatDoorVM7
set_option linter.unusedVariables false
set_option linter.unusedSimpArgs false
set_option maxHeartbeats 4000000
set_option maxRecDepth 100000
set_option linter.defProp false
namespace Go.Proofs.YtjgdhjpafjpjgaaGreatDoor
open Go.VM
attribute [local irreducible] AA grd letL
variable{N n:Nat}{m:MS}{Q:PQ}{args:List AVal}
instance ATW {a0}:CF vE (IJ N a0) 86 [.int .u8 a0] (fun r=>.str r):=mkF (IJ.eq_1 ..) Tryz.func86 rfl Tryz.ntmps86 Tryz.results86 [(1,[],.take 0 (.take 1 (.take 2 (.take 3 (.take 4 (.take 5 (.take 6 (.alt 7 [5,4,3,2,1,0] (.alt 8 [] (.done) (.stop)) (.stop)))))))))] false fun r n m R hR h hD=>tW
instance O3 {a0 a1}:CB vE (Aj N a0 a1) 175 (fun i0=>[.ptr i0 0,.int .i64 a1]) (fun i0=>[.str a0.d.method,.str a0.d.iD,.int .i64 a0.fail]) (fun r=>.tuple []) (fun i0 r=>[.str r.d.method,.str r.d.iD,.int .i64 r.fail]):=mkB (Aj.eq_1 ..) Tryz.func175 rfl Tryz.ntmps175 Tryz.results175 [] false fun r n i m R hin hR h hD=>tW
theorem IX {a0 a1 r}{i0:Nat} (h:Aj N a0 a1=some r) (ha:args=[.ptr i0 0,.int .i64 a1]) (hi0:Bd m i0=some ([.str a0.d.method,.str a0.d.iD,.int .i64 a0.fail])) (hQ: ∀n',n≤n'→Gl (Q (.tuple []) ⟨Bl m i0 ([.str r.d.method,.str r.d.iD,.int .i64 r.fail]),n'⟩)):ACall vE 175 args ⟨m,n⟩ Q:=
 ha▸O3.go h hi0 hQ
@[instance_reducible, instance] def AKr {a1 k2 xs} := LQ.mk (X := ES N a1 k2 xs) (G := fun xs i (s : Unit) => ES N a1 k2 xs) (s := ()) (js := [(4, 2), (7, 1), (11, 10)]) (cs := [10]) (V := fun i s => [.int .i64 i]) (Ms := fun i s => []) (fun _ => rfl) (fun i s => ES.eq_1 ..) (fun x xs i s => ES.eq_2 ..)
instance AUE {a0 a1}:CF vE (JJ N a0 a1) 55 [.slice 2 (List.map DU a0) false,.str a1] (fun r=>.tuple [.str r.1,.bool r.2]):=mkF (JJ.eq_1 ..) Tryz.func55 rfl Tryz.ntmps55 Tryz.results55 [] false fun r n m R hR h hD=>tW
instance AU7 {a0 a1}:CF vE (Lf N a0 a1) 43 [.str a0,.int .i64 a1] (fun r=>.str r):=mkF (Lf.eq_1 ..) Tryz.func43 rfl Tryz.ntmps43 Tryz.results43 [] false fun r n m R hR h hD=>tW
instance AS2 {a0}:CF vE (Kz N a0) 64 [Em a0] (fun r=>Fb r):=mkF (Kz.eq_1 ..) Tryz.func64 rfl Tryz.ntmps64 Tryz.results64 [] false fun r n m R hR h hD=>tW
instance AR9 {a0}:CF vE (Jc N a0) 65 [Em a0] (fun r=>.str r):=mkF (Jc.eq_1 ..) Tryz.func65 rfl Tryz.ntmps65 Tryz.results65 [] false fun r n m R hR h hD=>tW
@[instance_reducible, instance] def AMl {a0 k2 xs s9 bn} := LR.mk (X := EO N a0 k2 xs s9 bn) (G := fun xs i (s : (List Int)) => EO N a0 k2 xs i s) (i := s9) (s := bn) (js := [(4, 1), (10, 21)]) (cs := [9]) (V := fun i s => [.int .i64 i]) (Ms := fun i s => [.s (List.map (AVal.int .u8) s)]) rfl (fun i s => EO.eq_1 ..) (fun x xs i s => EO.eq_2 ..)
instance AUI {a0}:CF vE (Hy N a0) 66 [.str a0] (fun r=>.str r):=mkF (Hy.eq_1 ..) Tryz.func66 rfl Tryz.ntmps66 Tryz.results66 [(5,[],.stop)] false fun r n m R hR h hD=>tW
@[instance_reducible, instance] def AHo {a0 k2 k s3} := LF.mk (X := Da N a0 k2 k s3) (G := fun k (s : Int) => Da N a0 k2 k s) (s := s3) (js := [(2, 1), (7, 11)]) (cs := [3]) (V := fun s => [.int .i64 s]) (Ms := fun s => []) rfl (fun s => Da.eq_1 ..) (fun k s => Da.eq_2 ..)
instance AOv {a0}:CF vE (Gr N a0) 219 [.str a0] (fun r=>.str r):=mkF (Gr.eq_1 ..) Tryz.func219 rfl Tryz.ntmps219 Tryz.results219 [] false fun r n m R hR h hD=>tW
@[instance_reducible, instance] def AKh {a0 a1 k6 k s5} := LF.mk (X := Du N a0 a1 k6 k s5) (G := fun k (s : Int) => Du N a0 a1 k6 k s) (s := s5) (js := [(4, 1), (20, 17)]) (cs := [5]) (V := fun s => [.int .i64 s]) (Ms := fun s => []) rfl (fun s => Du.eq_1 ..) (fun k s => Du.eq_2 ..)
instance AQE {a0 a1}:CF vE (Jp N a0 a1) 220 [Eo a0,Eo a1] (fun r=>.str r):=mkF (Jp.eq_1 ..) Tryz.func220 rfl Tryz.ntmps220 Tryz.results220 [(1,[],.stop),(7,[],.take 0 (.take 1 (.take 2 (.take 3 (.take 4 (.take 5 (.take 6 (.take 7 (.alt 8 [] (.done) (.stop))))))))))] false fun r n m R hR h hD=>tW
instance AWG {a0}:CF vE (Le N a0) 182 [Eo a0] (fun r=>.str r):=mkF (Le.eq_1 ..) Tryz.func182 rfl Tryz.ntmps182 Tryz.results182 [] false fun r n m R hR h hD=>tW
end Go.Proofs.YtjgdhjpafjpjgaaGreatDoor
