import Derived.Test.YtjgdhjpafjpjgaaGreatDoorVmFacts
import Derived.Test.YtjgdhjpafjpjgaaGreatDoorDefs
import Derived.Test.YtjgdhjpafjpjgaaGreatDoorVM7
import Derived.Test.YtjgdhjpafjpjgaaGreatDoorW0
import Derived.Test.YtjgdhjpafjpjgaaGreatDoorW1
import Derived.Test.YtjgdhjpafjpjgaaGreatDoorW2
import Derived.Test.YtjgdhjpafjpjgaaGreatDoorW4
import Derived.Test.YtjgdhjpafjpjgaaGreatDoorW5
set_option linter.unusedVariables false
set_option linter.unusedSimpArgs false
set_option maxHeartbeats 4000000
set_option maxRecDepth 100000
set_option linter.defProp false
namespace Go.Proofs.YtjgdhjpafjpjgaaGreatDoor
open Go.VM
attribute [local irreducible] AA grd letL
variable{N n:Nat}{m:MS}{Q:PQ}{args:List AVal}
instance UC {a0 a1}:CF vE (Ey N a0 a1) 88 [.str a0,.str a1] (fun r=>.tuple [.str r.1,.str r.2.1,.bool r.2.2]):=mkF (Ey.eq_1 ..) Tryz.func88 rfl Tryz.ntmps88 Tryz.results88 [(3,[],.take 0 (.take 1 (.take 2 (.take 3 (.take 4 (.take 5 (.take 6 (.take 7 (.take 8 (.alt 9 [8,7,6,5,4,3] (.alt 10 [] (.alt 11 [] (.done) (.stop)) (.stop)) (.stop)))))))))))] false fun r n m R hR h hD=>tW
instance AJ3 {a0 a1}:CF vE (Fu N a0 a1) 89 [.str a0,.int .i64 a1] (fun r=>.tuple [.int .u8 r.1,.bool r.2]):=mkF (Fu.eq_1 ..) Tryz.func89 rfl Tryz.ntmps89 Tryz.results89 [(1,[],.stop),(3,[],.take 0 (.take 1 (.take 2 (.take 3 (.take 6 (.take 7 (.take 8 (.take 9 (.alt 4 [9,8,7,6,2,1,0] (.take 5 (.alt 10 [5,8,7,6,3,2,1,0] (.take 11 (.alt 12 [] (.alt 13 [] (.done) (.stop)) (.stop))) (.stop))) (.stop))))))))))] false fun r n m R hR h hD=>tW
instance AOr {a0}:CF vE (Gs N a0) 143 [.str a0] (fun r=>.int .i64 r):=mkF (Gs.eq_1 ..) Tryz.func143 rfl Tryz.ntmps143 Tryz.results143 [(2,[],.stop),(4,[],.stop),(10,[],.stop),(12,[],.stop),(14,[],.stop)] false fun r n m R hR h hD=>tW
@[instance_reducible, instance] def AMW {a1 k2 xs} := LQ.mk (X := Cf N a1 k2 xs) (G := fun xs i (s : Unit) => Cf N a1 k2 xs) (s := ()) (js := [(6, 2), (14, 26)]) (cs := [8]) (V := fun i s => [.int .i64 i]) (Ms := fun i s => []) (fun _ => rfl) (fun i s => Cf.eq_1 ..) (fun x xs i s => Cf.eq_2 ..)
@[instance_reducible, instance] def ANu {a1 a2 k17 xs s9} := LQ.mk (X := Ci N a1 a2 k17 xs s9) (G := fun xs i (s : Int) => Ci N a1 a2 k17 xs s) (s := s9) (js := [(6, 2), (11, 1), (40, 46)]) (cs := [9, 10]) (V := fun i s => [.int .u64 s, .int .i64 i]) (Ms := fun i s => []) (fun _ => rfl) (fun i s => Ci.eq_1 ..) (fun x xs i s => Ci.eq_2 ..)
instance AUL {a0 a1 a2}:CF vE (HV N a0 a1 a2) 227 [.str a0,.int .u64 a1,.int .u64 a2] (fun r=>.tuple [.int .u64 r.1,.int .i64 r.2]):=mkF (HV.eq_1 ..) Tryz.func227 rfl Tryz.ntmps227 Tryz.results227 [(6,[],.stop),(15,[],.stop)] false fun r n m R hR h hD=>tW
@[instance_reducible, instance] def AJt {a0 a1 k6 k s7} := LF.mk (X := Eb N a0 a1 k6 k s7) (G := fun k (s : Int) => Eb N a0 a1 k6 k s) (s := s7) (js := [(4, 3), (8, 3), (19, 40)]) (cs := [7]) (V := fun s => [.int .i64 s]) (Ms := fun s => []) rfl (fun s => Eb.eq_1 ..) (fun k s => Eb.eq_2 ..)
instance ASl {a0 a1}:CF vE (Jo N a0 a1) 199 [.str a0,.int .i64 a1] (fun r=>.tuple [.int .i64 r.1,.int .i64 r.2.1,.int .i64 r.2.2]):=mkF (Jo.eq_1 ..) Tryz.func199 rfl Tryz.ntmps199 Tryz.results199 [(1,[],.stop),(4,[],.stop),(8,[],.stop)] false fun r n m R hR h hD=>tW
instance AOd {a0}:CF vE (EM N a0) 34 [Em a0] (fun r=>.str r):=mkF (EM.eq_1 ..) Tryz.func34 rfl Tryz.ntmps34 Tryz.results34 [(1,[],.take 0 (.take 4 (.alt 1 [4] (.alt 2 [4,0] (.take 3 (.alt 5 [3,0] (.take 6 (.alt 7 [] (.done) (.stop))) (.stop))) (.stop)) (.stop))))] false fun r n m R hR h hD=>tW
instance AG8 {a0 a1}:CF vE (strings_CutPrefix N a0 a1) 150 [.str a0,.str a1] (fun r=>.tuple [.str r.1,.bool r.2]):=mkF (strings_CutPrefix.eq_1 ..) Tryz.func150 rfl Tryz.ntmps150 Tryz.results150 [] false fun r n m R hR h hD=>tW
instance TA {a0 a1}:CF vE (strings_Index N a0 a1) 161 [.str a0,.str a1] (fun r=>.int .i64 r):=mkF (strings_Index.eq_1 ..) Tryz.func161 rfl Tryz.ntmps161 Tryz.results161 [] false fun r n m R hR h hD=>tW
theorem Ki {a0 a1 r} (h:strings_Index N a0 a1=some r) (ha:args=[.str a0,.str a1]) (hQ: ∀n',n≤n'→Gl (Q (.int .i64 r) ⟨m,n'⟩)):ACall vE 161 args ⟨m,n⟩ Q:=
 ha▸TA.go h hQ
instance ATz {a0 a1}:CF vE (Ny N a0 a1) 133 [.int .u8 a0,.str a1] (fun r=>.bool r):=mkF (Ny.eq_1 ..) Tryz.func133 rfl Tryz.ntmps133 Tryz.results133 [] false fun r n m R hR h hD=>tW
instance Mt {a0 a1 a2}:CB vE (Bh N a0 a1 a2) 98 (fun i0=>[.ptr i0 0,AC a1,.str a2]) (fun i0=>[.str a0.did.method,.str a0.did.iD,.int .i64 a0.e]) (fun r=>.str r.1) (fun i0 r=>[.str r.2.did.method,.str r.2.did.iD,.int .i64 r.2.e]):=mkB (Bh.eq_1 ..) Tryz.func98 rfl Tryz.ntmps98 Tryz.results98 [] false fun r n i m R hin hR h hD=>tW
theorem GI {a0 a1 a2 r}{i0:Nat} (h:Bh N a0 a1 a2=some r) (ha:args=[.ptr i0 0,AC a1,.str a2]) (hi0:Bd m i0=some ([.str a0.did.method,.str a0.did.iD,.int .i64 a0.e])) (hQ: ∀n',n≤n'→Gl (Q (.str r.1) ⟨Bl m i0 ([.str r.2.did.method,.str r.2.did.iD,.int .i64 r.2.e]),n'⟩)):ACall vE 98 args ⟨m,n⟩ Q:=
 ha▸Mt.go h hi0 hQ
instance Nq {a0 a1 a2}:CB vE (Cw N a0 a1 a2) 100 (fun i0=>[.ptr i0 0,AC a1,.str a2]) (fun i0=>[.str a0.did.method,.str a0.did.iD,.int .i64 a0.e]) (fun r=>.slice 4 (List.map AC r.1) false) (fun i0 r=>[.str r.2.did.method,.str r.2.did.iD,.int .i64 r.2.e]):=mkB (Cw.eq_1 ..) Tryz.func100 rfl Tryz.ntmps100 Tryz.results100 [] true fun r n i m R hin hR h hD=>tW
theorem G7 {a0 a1 a2 r}{i0:Nat} (h:Cw N a0 a1 a2=some r) (ha:args=[.ptr i0 0,AC a1,.str a2]) (hi0:Bd m i0=some ([.str a0.did.method,.str a0.did.iD,.int .i64 a0.e])) (hQ: ∀n',n≤n'→Gl (Q (.slice 4 (List.map AC r.1) false) ⟨Bl m i0 ([.str r.2.did.method,.str r.2.did.iD,.int .i64 r.2.e]),n'⟩)):ACall vE 100 args ⟨m,n⟩ Q:=
 ha▸Nq.go h hi0 hQ
instance LD {a0 a1}:CB vE (BJ N a0 a1) 102 (fun i0=>[.ptr i0 0,AC a1]) (fun i0=>[.str a0.did.method,.str a0.did.iD,.int .i64 a0.e]) (fun r=>.slice 1 (List.map AVal.str r.1) false) (fun i0 r=>[.str r.2.did.method,.str r.2.did.iD,.int .i64 r.2.e]):=mkB (BJ.eq_1 ..) Tryz.func102 rfl Tryz.ntmps102 Tryz.results102 [] false fun r n i m R hin hR h hD=>tW
theorem Fh {a0 a1 r}{i0:Nat} (h:BJ N a0 a1=some r) (ha:args=[.ptr i0 0,AC a1]) (hi0:Bd m i0=some ([.str a0.did.method,.str a0.did.iD,.int .i64 a0.e])) (hQ: ∀n',n≤n'→Gl (Q (.slice 1 (List.map AVal.str r.1) false) ⟨Bl m i0 ([.str r.2.did.method,.str r.2.did.iD,.int .i64 r.2.e]),n'⟩)):ACall vE 102 args ⟨m,n⟩ Q:=
 ha▸LD.go h hi0 hQ
@[instance_reducible, instance] def X5 {a0 k8 k s175} := LF.mk (X := Ba N a0 k8 k s175) (G := fun k (s : Nat) => Ba N a0 k8 k s) (s := s175) (js := [(4, 3), (176, 7)]) (cs := [175]) (V := fun s => [.iter a0 s]) (Ms := fun s => []) rfl (fun s => Ba.eq_1 ..) (fun k s => Ba.eq_2 ..)
@[instance_reducible, instance] def ABD {a0 a1 j19 k29 k s12} := LC.mk (X := EF N a0 a1 j19 k29 k s12) (G := fun k i (s : Unit) => EF N a0 a1 j19 k29 k i) (i := s12) (k := k) (s := ()) (js := [(48, 17)]) (cs := [12]) (V := fun i s => [.int .i64 i]) (Ms := fun i s => []) rfl (fun i s => EF.eq_1 ..) (fun k i s => EF.eq_2 ..)
@[instance_reducible, instance] def ACQ {a0 a1 k15 k s9} := LF.mk (X := Bb N a0 a1 k15 k s9) (G := fun k (s : Int) => Bb N a0 a1 k15 k s) (s := s9) (js := [(4, 1), (10, 3), (23, 76)]) (cs := [9]) (V := fun s => [.int .i64 s]) (Ms := fun s => []) rfl (fun s => Bb.eq_1 ..) (fun k s => Bb.eq_2 ..)
instance AG6 {a0 a1}:CF vE (DC N a0 a1) 204 [.str a0,.int .i32 a1] (fun r=>.int .i64 r):=mkF (DC.eq_1 ..) Tryz.func204 rfl Tryz.ntmps204 Tryz.results204 [(34,[],.stop),(6,[],.take 0 (.take 1 (.take 2 (.take 3 (.take 4 (.take 5 (.take 6 (.done)))))))),(7,[],.take 0 (.take 1 (.take 2 (.take 3 (.take 4 (.take 5 (.take 6 (.alt 7 [5,4,2,1,0] (.alt 8 [] (.done) (.stop)) (.stop))))))))),(14,[],.take 0 (.take 1 (.take 2 (.take 3 (.take 4 (.take 5 (.take 6 (.take 7 (.take 8 (.take 9 (.take 10 (.done)))))))))))),(18,[],.stop),(27,[],.stop),(31,[],.take 0 (.take 1 (.take 2 (.take 3 (.take 4 (.take 5 (.take 6 (.take 7 (.take 8 (.take 9 (.take 10 (.done))))))))))))] false fun r n m R hR h hD=>tW
@[instance_reducible, instance] def AO0 {k2 xs s6} := LR.mk (X := CV N k2 xs s6) (G := fun xs i (s : Unit) => CV N k2 xs i) (i := s6) (s := ()) (js := [(2, 2), (7, 26)]) (cs := [6]) (V := fun i s => [.int .i64 i]) (Ms := fun i s => []) rfl (fun i s => CV.eq_1 ..) (fun x xs i s => CV.eq_2 ..)
instance AWW {a0}:CF vE (Hg N a0) 159 [.str a0] (fun r=>.bool r):=mkF (Hg.eq_1 ..) Tryz.func159 rfl Tryz.ntmps159 Tryz.results159 [(4,[],.stop)] false fun r n m R hR h hD=>tW
end Go.Proofs.YtjgdhjpafjpjgaaGreatDoor
