import Derived.Test.YtjgdhjpafjpjgaaGreatDoorVmFacts
import Derived.Test.YtjgdhjpafjpjgaaGreatDoorDefs
import Derived.Test.YtjgdhjpafjpjgaaGreatDoorVM7
import Derived.Test.YtjgdhjpafjpjgaaGreatDoorW0
import Derived.Test.YtjgdhjpafjpjgaaGreatDoorW1
import Derived.Test.YtjgdhjpafjpjgaaGreatDoorW2
import Derived.Test.YtjgdhjpafjpjgaaGreatDoorW3
set_option linter.unusedVariables false
set_option linter.unusedSimpArgs false
set_option maxHeartbeats 4000000
set_option maxRecDepth 100000
set_option linter.defProp false
namespace Go.Proofs.YtjgdhjpafjpjgaaGreatDoor
open Go.VM
attribute [local irreducible] AA grd letL
variable{N n:Nat}{m:MS}{Q:PQ}{args:List AVal}
@[instance_reducible, instance] def AKW {k2 xs} := LQ.mk (X := Dz N k2 xs) (G := fun xs i (s : Unit) => Dz N k2 xs) (s := ()) (js := [(2, 1), (4, 23)]) (cs := [3]) (V := fun i s => [.int .i64 i]) (Ms := fun i s => []) (fun _ => rfl) (fun i s => Dz.eq_1 ..) (fun x xs i s => Dz.eq_2 ..)
instance APP {a0}:CF vE (Jf N a0) 172 [.str a0] (fun r=>.bool r):=mkF (Jf.eq_1 ..) Tryz.func172 rfl Tryz.ntmps172 Tryz.results172 [(4,[],.stop)] false fun r n m R hR h hD=>tW
instance AT2 {a0}:CF vE (JI N a0) 173 [.int .u8 a0] (fun r=>.bool r):=mkF (JI.eq_1 ..) Tryz.func173 rfl Tryz.ntmps173 Tryz.results173 [(1,[],.stop)] false fun r n m R hR h hD=>tW
instance PE {a0 a1 a2}:CB vE (DF N a0 a1 a2) 115 (fun i0=>[.ptr i0 0,AC a1,.str a2]) (fun i0=>[.str a0.d.method,.str a0.d.iD,.int .i64 a0.fail]) (fun r=>.str r.1) (fun i0 r=>[.str r.2.d.method,.str r.2.d.iD,.int .i64 r.2.fail]):=mkB (DF.eq_1 ..) Tryz.func115 rfl Tryz.ntmps115 Tryz.results115 [] false fun r n i m R hin hR h hD=>tW
theorem PG {a0 a1 a2 r}{i0:Nat} (h:DF N a0 a1 a2=some r) (ha:args=[.ptr i0 0,AC a1,.str a2]) (hi0:Bd m i0=some ([.str a0.d.method,.str a0.d.iD,.int .i64 a0.fail])) (hQ: ∀n',n≤n'→Gl (Q (.str r.1) ⟨Bl m i0 ([.str r.2.d.method,.str r.2.d.iD,.int .i64 r.2.fail]),n'⟩)):ACall vE 115 args ⟨m,n⟩ Q:=
 ha▸PE.go h hi0 hQ
@[instance_reducible, instance] def U5 {k12 xs s11 bi0} := LQ.mk (X := BO N k12 xs s11 bi0) (G := fun xs i (s : (List (List UInt8)) × Ref17Reader) => BO N k12 xs s.1 s.2) (s := (s11, bi0)) (js := [(13, 1), (50, 14)]) (cs := [11, 49]) (V := fun i s => [.slice 1 (List.map AVal.str s.1) true, .int .i64 i]) (Ms := fun i s => [.k, .k, .s ([.str s.2.d.method, .str s.2.d.iD, .int .i64 s.2.fail])]) (fun _ => rfl) (fun i s => BO.eq_1 ..) (fun x xs i s => BO.eq_2 ..)
instance NE {a0 a1 a2 a3}:CB vE (BB N a0 a1 a2 a3) 116 (fun i0=>[.ptr i0 0,AC a1,.str a2,.bool a3]) (fun i0=>[.str a0.d.method,.str a0.d.iD,.int .i64 a0.fail]) (fun r=>.slice 1 (List.map AVal.str r.1) false) (fun i0 r=>[.str r.2.d.method,.str r.2.d.iD,.int .i64 r.2.fail]):=mkB (BB.eq_1 ..) Tryz.func116 rfl Tryz.ntmps116 Tryz.results116 [(4,[],.stop),(18,[58],.done)] true fun r n i m R hin hR h hD=>tW
theorem FM {a0 a1 a2 a3 r}{i0:Nat} (h:BB N a0 a1 a2 a3=some r) (ha:args=[.ptr i0 0,AC a1,.str a2,.bool a3]) (hi0:Bd m i0=some ([.str a0.d.method,.str a0.d.iD,.int .i64 a0.fail])) (hQ: ∀n',n≤n'→Gl (Q (.slice 1 (List.map AVal.str r.1) false) ⟨Bl m i0 ([.str r.2.d.method,.str r.2.d.iD,.int .i64 r.2.fail]),n'⟩)):ACall vE 116 args ⟨m,n⟩ Q:=
 ha▸NE.go h hi0 hQ
instance NG {a0 a1 a2}:CB vE (Bp N a0 a1 a2) 117 (fun i0=>[.ptr i0 0,AC a1,.str a2]) (fun i0=>[.str a0.d.method,.str a0.d.iD,.int .i64 a0.fail]) (fun r=>.slice 4 (List.map AC r.1) false) (fun i0 r=>[.str r.2.d.method,.str r.2.d.iD,.int .i64 r.2.fail]):=mkB (Bp.eq_1 ..) Tryz.func117 rfl Tryz.ntmps117 Tryz.results117 [] true fun r n i m R hin hR h hD=>tW
theorem Jj {a0 a1 a2 r}{i0:Nat} (h:Bp N a0 a1 a2=some r) (ha:args=[.ptr i0 0,AC a1,.str a2]) (hi0:Bd m i0=some ([.str a0.d.method,.str a0.d.iD,.int .i64 a0.fail])) (hQ: ∀n',n≤n'→Gl (Q (.slice 4 (List.map AC r.1) false) ⟨Bl m i0 ([.str r.2.d.method,.str r.2.d.iD,.int .i64 r.2.fail]),n'⟩)):ACall vE 117 args ⟨m,n⟩ Q:=
 ha▸NG.go h hi0 hQ
instance AF2 {a0}:CF vE (En N a0) 84 [.int .u8 a0] (fun r=>.bool r):=mkF (En.eq_1 ..) Tryz.func84 rfl Tryz.ntmps84 Tryz.results84 [(1,[],.stop)] false fun r n m R hR h hD=>tW
instance AQq {a0}:CF vE (Jr N a0) 216 [CR a0] (fun r=>.str r):=mkF (Jr.eq_1 ..) Tryz.func216 rfl Tryz.ntmps216 Tryz.results216 [(1,[],.take 0 (.take 1 (.take 3 (.take 4 (.alt 2 [4,3,0] (.take 5 (.alt 6 [] (.done) (.stop))) (.stop))))))] false fun r n m R hR h hD=>tW
instance AOa {a0}:CF vE (KN N a0) 124 [.int .i64 a0] (fun r=>.str r):=mkF (KN.eq_1 ..) Tryz.func124 rfl Tryz.ntmps124 Tryz.results124 [] false fun r n m R hR h hD=>tW
instance ATw {a0 a1}:CF vE (JG N a0 a1) 125 [.str a0,.str a1] (fun r=>.bool r):=mkF (JG.eq_1 ..) Tryz.func125 rfl Tryz.ntmps125 Tryz.results125 [] false fun r n m R hR h hD=>tW
@[instance_reducible, instance] def AJj {k2 xs s3} := LR.mk (X := Cj N k2 xs s3) (G := fun xs i (s : Unit) => Cj N k2 xs i) (i := s3) (s := ()) (js := [(2, 1), (4, 29)]) (cs := [3]) (V := fun i s => [.int .i64 i]) (Ms := fun i s => []) rfl (fun i s => Cj.eq_1 ..) (fun x xs i s => Cj.eq_2 ..)
instance ASV {a0}:CF vE (IE N a0) 217 [.str a0] (fun r=>.bool r):=mkF (IE.eq_1 ..) Tryz.func217 rfl Tryz.ntmps217 Tryz.results217 [(4,[],.stop)] false fun r n m R hR h hD=>tW
@[instance_reducible, instance] def AM1 {k2 xs} := LQ.mk (X := EQ N k2 xs) (G := fun xs i (s : Unit) => EQ N k2 xs) (s := ()) (js := [(2, 1), (4, 24)]) (cs := [3]) (V := fun i s => [.int .i64 i]) (Ms := fun i s => []) (fun _ => rfl) (fun i s => EQ.eq_1 ..) (fun x xs i s => EQ.eq_2 ..)
instance AUG {a0}:CF vE (KW N a0) 225 [.str a0] (fun r=>.bool r):=mkF (KW.eq_1 ..) Tryz.func225 rfl Tryz.ntmps225 Tryz.results225 [(4,[],.stop),(6,[],.stop)] false fun r n m R hR h hD=>tW
@[instance_reducible, instance] def AJ9 {k2 xs} := LQ.mk (X := Dy N k2 xs) (G := fun xs i (s : Unit) => Dy N k2 xs) (s := ()) (js := [(2, 1), (4, 11)]) (cs := [3]) (V := fun i s => [.int .i64 i]) (Ms := fun i s => []) (fun _ => rfl) (fun i s => Dy.eq_1 ..) (fun x xs i s => Dy.eq_2 ..)
instance ATn {a0}:CF vE (J3 N a0) 226 [.str a0] (fun r=>.bool r):=mkF (J3.eq_1 ..) Tryz.func226 rfl Tryz.ntmps226 Tryz.results226 [] false fun r n m R hR h hD=>tW
end Go.Proofs.YtjgdhjpafjpjgaaGreatDoor
