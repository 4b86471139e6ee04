import Derived.Test.YtjgdhjpafjpjgaaGreatDoorVmFacts
import Derived.Test.YtjgdhjpafjpjgaaGreatDoorDefs
import Derived.Test.YtjgdhjpafjpjgaaGreatDoorVM7
set_option linter.unusedVariables false
set_option linter.unusedSimpArgs false
set_option maxHeartbeats 4000000
set_option maxRecDepth 100000
set_option linter.defProp false
namespace Go.Proofs.YtjgdhjpafjpjgaaGreatDoor
open Go.VM
attribute [local irreducible] AA grd letL
variable{N n:Nat}{m:MS}{Q:PQ}{args:List AVal}
instance ACd {a0 a1}:CB vE (Cx N a0 a1) 154 (fun i0=>[.ptr i0 0,.int .i64 a1]) (fun i0=>[.str a0.did.method,.str a0.did.iD,.int .i64 a0.e]) (fun r=>.tuple []) (fun i0 r=>[.str r.did.method,.str r.did.iD,.int .i64 r.e]):=mkB (Cx.eq_1 ..) Tryz.func154 rfl Tryz.ntmps154 Tryz.results154 [] false fun r n i m R hin hR h hD=>tW
@[instance_reducible, instance] def AMy {a0 a1 k2 xs s11} := LR.mk (X := Ch N a0 a1 k2 xs s11) (G := fun xs i (s : Unit) => Ch N a0 a1 k2 xs i) (i := s11) (s := ()) (js := [(5, 3), (12, 25)]) (cs := [11]) (V := fun i s => [.int .i64 i]) (Ms := fun i s => []) rfl (fun i s => Ch.eq_1 ..) (fun x xs i s => Ch.eq_2 ..)
instance VC {a0 a1}:CF vE (FU N a0 a1) 101 [AC a0,.str a1] (fun r=>.tuple [AC r.1,.bool r.2]):=mkF (FU.eq_1 ..) Tryz.func101 rfl Tryz.ntmps101 Tryz.results101 [(4,[],.stop)] true fun r n m R hR h hD=>tW
theorem MW {a0 a1 r} (h:FU N a0 a1=some r) (ha:args=[AC a0,.str a1]) (hQ: ∀n',n≤n'→Gl (Q (.tuple [AC r.1,.bool r.2]) ⟨m,n'⟩)):ACall vE 101 args ⟨m,n⟩ Q:=
 ha▸VC.go h hQ
@[instance_reducible, instance] def ALX {a1 k2 xs} := LQ.mk (X := ER N a1 k2 xs) (G := fun xs i (s : Unit) => ER N a1 k2 xs) (s := ()) (js := [(4, 2), (7, 1), (11, 10)]) (cs := [10]) (V := fun i s => [.int .i64 i]) (Ms := fun i s => []) (fun _ => rfl) (fun i s => ER.eq_1 ..) (fun x xs i s => ER.eq_2 ..)
instance AUH {a0 a1}:CF vE (JC N a0 a1) 49 [.slice 2 (List.map DU a0) false,.str a1] (fun r=>.tuple [.str r.1,.bool r.2]):=mkF (JC.eq_1 ..) Tryz.func49 rfl Tryz.ntmps49 Tryz.results49 [] false fun r n m R hR h hD=>tW
@[instance_reducible, instance] def AE4 {a1 k2 xs} := LQ.mk (X := CZ N a1 k2 xs) (G := fun xs i (s : Unit) => CZ N a1 k2 xs) (s := ()) (js := [(4, 2), (7, 1), (12, 10)]) (cs := [11]) (V := fun i s => [.int .i64 i]) (Ms := fun i s => []) (fun _ => rfl) (fun i s => CZ.eq_1 ..) (fun x xs i s => CZ.eq_2 ..)
instance AJx {a0 a1}:CF vE (Gj N a0 a1) 50 [K7 a0,.str a1] (fun r=>.tuple [.slice 1 (List.map AVal.str r.1) false,.bool r.2]):=mkF (Gj.eq_1 ..) Tryz.func50 rfl Tryz.ntmps50 Tryz.results50 [] true fun r n m R hR h hD=>tW
instance VA {a0}:CF vE (CY N a0) 233 [.int .i32 a0] (fun r=>.bool r):=mkF (CY.eq_1 ..) Tryz.func233 rfl Tryz.ntmps233 Tryz.results233 [(1,[],.stop),(3,[],.stop)] false fun r n m R hR h hD=>tW
instance TE {a0}:CF vE (strings_shouldUseASCIISet N a0) 205 [.int .i64 a0] (fun r=>.bool r):=mkF (strings_shouldUseASCIISet.eq_1 ..) Tryz.func205 rfl Tryz.ntmps205 Tryz.results205 [] false fun r n m R hR h hD=>tW
@[instance_reducible, instance] def U6 {k2 xs bn} := LQ.mk (X := BQ N k2 xs bn) (G := fun xs i (s : (List Bool)) => BQ N k2 xs s) (s := bn) (js := [(3, 1), (5, 15)]) (cs := [4]) (V := fun i s => [.int .i64 i]) (Ms := fun i s => [.s (List.map AVal.bool s)]) (fun _ => rfl) (fun i s => BQ.eq_1 ..) (fun x xs i s => BQ.eq_2 ..)
instance Ye {a0}:CF vE (strings_makeASCIISet N a0) 206 [.str a0] (fun r=>.tuple [.agg (List.map AVal.bool r.1),.bool r.2]):=mkF (strings_makeASCIISet.eq_1 ..) Tryz.func206 rfl Tryz.ntmps206 Tryz.results206 [] false fun r n m R hR h hD=>tW
instance TJ {a0 a1}:CB vE (Dh N a0 a1) 207 (fun i0=>[.ptr i0 0,.int .u8 a1]) (fun i0=>List.map AVal.bool a0) (fun r=>.bool r.1) (fun i0 r=>List.map AVal.bool r.2):=mkB (Dh.eq_1 ..) Tryz.func207 rfl Tryz.ntmps207 Tryz.results207 [] false fun r n i m R hin hR h hD=>tW
@[instance_reducible, instance] def AMZ {a0 k2 xs s10 bn} := LR.mk (X := EP N a0 k2 xs s10 bn) (G := fun xs i (s : (List Int)) => EP N a0 k2 xs i s) (i := s10) (s := bn) (js := [(4, 2), (11, 16)]) (cs := [10]) (V := fun i s => [.int .i64 i]) (Ms := fun i s => [.s (List.map (AVal.int .u8) s)]) rfl (fun i s => EP.eq_1 ..) (fun x xs i s => EP.eq_2 ..)
instance AT1 {a0}:CF vE (Hm N a0) 160 [.str a0] (fun r=>.str r):=mkF (Hm.eq_1 ..) Tryz.func160 rfl Tryz.ntmps160 Tryz.results160 [(5,[],.stop)] false fun r n m R hR h hD=>tW
@[instance_reducible, instance] def Nb {a0 a1 k2 k s5} := LF.mk (X := AX N a0 a1 k2 k s5) (G := fun k (s : Int) => AX N a0 a1 k2 k s) (s := s5) (js := [(4, 1), (9, 10)]) (cs := [5]) (V := fun s => [.int .i64 s]) (Ms := fun s => []) rfl (fun s => AX.eq_1 ..) (fun k s => AX.eq_2 ..)
instance OB {a0 a1}:CF vE (CP N a0 a1) 213 [.str a0,.int .u8 a1] (fun r=>.int .i64 r):=mkF (CP.eq_1 ..) Tryz.func213 rfl Tryz.ntmps213 Tryz.results213 [] false fun r n m R hR h hD=>tW
instance QR {a0}:CF vE (D8 N a0) 57 [GM a0] (fun r=>.str r):=mkF (D8.eq_1 ..) Tryz.func57 rfl Tryz.ntmps57 Tryz.results57 [] false fun r n m R hR h hD=>tW
theorem QI {a0 r} (h:D8 N a0=some r) (ha:args=[GM a0]) (hQ: ∀n',n≤n'→Gl (Q (.str r) ⟨m,n'⟩)):ACall vE 57 args ⟨m,n⟩ Q:=
 ha▸QR.go h hQ
@[instance_reducible, instance] def AMe {a0 a1 k2 xs s7 s5 s6} := LR.mk (X := EU N a0 a1 k2 xs s7 s5 s6) (G := fun xs i (s : (List (List UInt8)) × Int) => EU N a0 a1 k2 xs i s.1 s.2) (i := s7) (s := (s5, s6)) (js := [(8, 20)]) (cs := [5, 6, 7]) (V := fun i s => [.slice 1 (List.map AVal.str s.1) true, .int .i64 s.2, .int .i64 i]) (Ms := fun i s => []) rfl (fun i s => EU.eq_1 ..) (fun x xs i s => EU.eq_2 ..)
instance AT7 {a0 a1}:CF vE (GR N a0 a1) 40 [.str a0,.int .u8 a1] (fun r=>.slice 1 (List.map AVal.str r) true):=mkF (GR.eq_1 ..) Tryz.func40 rfl Tryz.ntmps40 Tryz.results40 [(7,[19],.done),(8,[28],.done)] false fun r n m R hR h hD=>tW
instance ATy {a0}:CF vE (JH N a0) 142 [.int .u8 a0] (fun r=>.int .u8 r):=mkF (JH.eq_1 ..) Tryz.func142 rfl Tryz.ntmps142 Tryz.results142 [] false fun r n m R hR h hD=>tW
instance ASs {a0 a1}:CF vE (Dx N a0 a1) 171 [.str a0,.str a1] (fun r=>.bool r):=mkF (Dx.eq_1 ..) Tryz.func171 rfl Tryz.ntmps171 Tryz.results171 [(1,[],.stop)] false fun r n m R hR h hD=>tW
end Go.Proofs.YtjgdhjpafjpjgaaGreatDoor
