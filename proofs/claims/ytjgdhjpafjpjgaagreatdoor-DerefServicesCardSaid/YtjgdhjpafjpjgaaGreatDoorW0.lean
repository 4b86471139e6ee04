import Derived.Test.YtjgdhjpafjpjgaaGreatDoorVmFacts
import Derived.Test.YtjgdhjpafjpjgaaGreatDoorDefs
import Derived.Test.YtjgdhjpafjpjgaaGreatDoorVM7
set_option linter.unusedVariables false
set_option linter.unusedSimpArgs false
set_option maxHeartbeats 4000000
set_option maxRecDepth 100000
set_option linter.defProp false
namespace Go.Proofs.YtjgdhjpafjpjgaaGreatDoor
open Go.VM
attribute [local irreducible] AA grd letL
variable{N n:Nat}{m:MS}{Q:PQ}{args:List AVal}
theorem Ja {a0 a1 r} (h:Am N a0 a1=some r) (ha:args=[.str a0,.int .u8 a1]) (hQ: ∀n',n≤n'→Gl (Q (.int .i64 r) ⟨m,n'⟩)):ACall vE 134 args ⟨m,n⟩ Q:=by
 rw[Am]at h
 subst ha
 refine ent hQ Tryz.func134 rfl Tryz.ntmps134 Tryz.results134 (.q (.r []) (.q (.r []) .z)) fun R hR=>?_
 replace h:=And.intro trivial h
 simp(disch:=omega) only[vm,seval,h.1]
 refine⟨AWK ?_⟩
 exact tR
instance Qa {a0 a1}:CF vE (Am N a0 a1) 134 [.str a0,.int .u8 a1] (fun r=>.int .i64 r):=⟨fun h hQ=>Ja h rfl hQ⟩
instance UE {a0}:CF vE (Io N a0) 195 [.int .i64 a0] (fun r=>.int .i64 r):=mkF (Io.eq_1 ..) Tryz.func195 rfl Tryz.ntmps195 Tryz.results195 [] false fun r n m R hR h hD=>tW
@[instance_reducible, instance] def PD {k2 xs s4} := LQ.mk (X := BF N k2 xs s4) (G := fun xs i (s : Int) => BF N k2 xs s) (s := s4) (js := [(9, 13)]) (cs := [4, 5]) (V := fun i s => [.int .u32 s, .int .i64 i]) (Ms := fun i s => []) (fun _ => rfl) (fun i s => BF.eq_1 ..) (fun x xs i s => BF.eq_2 ..)
@[instance_reducible, instance] def O4 {k7 k s6 s7 s8} := LF.mk (X := BH N k7 k s6 s7 s8) (G := fun k (s : Int × Int × Int) => BH N k7 k s.1 s.2.1 s.2.2) (s := (s6, s7, s8)) (js := [(24, 13)]) (cs := [6, 7, 8]) (V := fun s => [.int .u32 s.1, .int .u32 s.2.1, .int .i64 s.2.2]) (Ms := fun s => []) rfl (fun s => BH.eq_1 ..) (fun k s => BH.eq_2 ..)
instance Pz {a0}:CF vE (Eg N a0) 228 [.str a0] (fun r=>.tuple [.int .u32 r.1,.int .u32 r.2]):=mkF (Eg.eq_1 ..) Tryz.func228 rfl Tryz.ntmps228 Tryz.results228 [] false fun r n m R hR h hD=>tW
instance AOi {a0}:CF vE (Cu N a0) 192 [.int .u8 a0] (fun r=>.bool r):=mkF (Cu.eq_1 ..) Tryz.func192 rfl Tryz.ntmps192 Tryz.results192 [(1,[],.stop)] false fun r n m R hR h hD=>tW
instance O9 {a0 a1 a2}:CB vE (Aw N a0 a1 a2) 46 (fun i0=>[.ptr i0 0,.int .i64 a1,.int .i64 a2]) (fun i0=>[.str a0.s,.int .i64 a0.at_,.int .i64 a0.nodes,.int .i64 a0.fail,.int .i64 a0.where_]) (fun r=>.tuple []) (fun i0 r=>[.str r.s,.int .i64 r.at_,.int .i64 r.nodes,.int .i64 r.fail,.int .i64 r.where_]):=mkB (Aw.eq_1 ..) Tryz.func46 rfl Tryz.ntmps46 Tryz.results46 [] false fun r n i m R hin hR h hD=>tW
theorem O6 {a0 a1 a2 r}{i0:Nat} (h:Aw N a0 a1 a2=some r) (ha:args=[.ptr i0 0,.int .i64 a1,.int .i64 a2]) (hi0:Bd m i0=some ([.str a0.s,.int .i64 a0.at_,.int .i64 a0.nodes,.int .i64 a0.fail,.int .i64 a0.where_])) (hQ: ∀n',n≤n'→Gl (Q (.tuple []) ⟨Bl m i0 ([.str r.s,.int .i64 r.at_,.int .i64 r.nodes,.int .i64 r.fail,.int .i64 r.where_]),n'⟩)):ACall vE 46 args ⟨m,n⟩ Q:=
 ha▸O9.go h hi0 hQ
instance AZM {a0 a1}:CF vE (Fa N a0 a1) 91 [GQ a0,.str a1] (fun r=>.bool r):=mkF (Fa.eq_1 ..) Tryz.func91 rfl Tryz.ntmps91 Tryz.results91 [(1,[],.stop)] false fun r n m R hR h hD=>tW
@[instance_reducible, instance] def AT8 {a0 k2 xs} := LQ.mk (X := Ef N a0 k2 xs) (G := fun xs i (s : Unit) => Ef N a0 k2 xs) (s := ()) (js := [(4, 1), (6, 11)]) (cs := [5]) (V := fun i s => [.int .i64 i]) (Ms := fun i s => []) (fun _ => rfl) (fun i s => Ef.eq_1 ..) (fun x xs i s => Ef.eq_2 ..)
instance AZU {a0 a1}:CF vE (E8 N a0 a1) 85 [.int .u8 a0,.str a1] (fun r=>.bool r):=mkF (E8.eq_1 ..) Tryz.func85 rfl Tryz.ntmps85 Tryz.results85 [] false fun r n m R hR h hD=>tW
instance AOu {a0}:CF vE (BV N a0) 137 [.int .u8 a0] (fun r=>.bool r):=mkF (BV.eq_1 ..) Tryz.func137 rfl Tryz.ntmps137 Tryz.results137 [(1,[],.stop)] false fun r n m R hR h hD=>tW
instance AVs {a0 a1}:CF vE (I5 N a0 a1) 145 [.str a0,.int .i64 a1] (fun r=>.str r):=mkF (I5.eq_1 ..) Tryz.func145 rfl Tryz.ntmps145 Tryz.results145 [] false fun r n m R hR h hD=>tW
@[instance_reducible, instance] def AKD {k s0 s3} := LF.mk (X := DW N k s0 s3) (G := fun k (s : Int × (List UInt8)) => DW N k s.1 s.2) (s := (s0, s3)) (js := [(2, 1), (4, 13)]) (cs := [0, 3]) (V := fun s => [.int .u64 s.1, .str s.2]) (Ms := fun s => []) rfl (fun s => DW.eq_1 ..) (fun k s => DW.eq_2 ..)
instance ARR {a0}:CF vE (Ew N a0) 146 [.int .u64 a0] (fun r=>.str r):=mkF (Ew.eq_1 ..) Tryz.func146 rfl Tryz.ntmps146 Tryz.results146 [] false fun r n m R hR h hD=>tW
instance AVp {a0}:CF vE (LP N a0) 93 [.str a0] (fun r=>.int .i64 r):=mkF (LP.eq_1 ..) Tryz.func93 rfl Tryz.ntmps93 Tryz.results93 [] false fun r n m R hR h hD=>tW
instance AOy {a0}:CF vE (Dn N a0) 136 [.int .u8 a0] (fun r=>.bool r):=mkF (Dn.eq_1 ..) Tryz.func136 rfl Tryz.ntmps136 Tryz.results136 [(1,[],.stop)] false fun r n m R hR h hD=>tW
instance AUD {a0}:CF vE (Lx N a0) 247 [.int .i64 a0] (fun r=>.bool r):=mkF (Lx.eq_1 ..) Tryz.func247 rfl Tryz.ntmps247 Tryz.results247 [(1,[],.stop)] false fun r n m R hR h hD=>tW
@[instance_reducible, instance] def AMv {a0 k4 k s4 s3} := LC.mk (X := EZ N a0 k4 k s4 s3) (G := fun k i (s : Int) => EZ N a0 k4 k i s) (i := s4) (k := k) (s := s3) (js := [(20, 14)]) (cs := [3, 4]) (V := fun i s => [.int .i64 s, .int .i64 i]) (Ms := fun i s => []) rfl (fun i s => EZ.eq_1 ..) (fun k i s => EZ.eq_2 ..)
instance AUA {a0}:CF vE (KU N a0) 231 [.str a0] (fun r=>.int .i64 r):=mkF (KU.eq_1 ..) Tryz.func231 rfl Tryz.ntmps231 Tryz.results231 [(3,[],.take 0 (.take 1 (.take 2 (.take 3 (.take 4 (.take 5 (.take 6 (.take 7 (.take 8 (.alt 9 [] (.done) (.stop)))))))))))] false fun r n m R hR h hD=>tW
end Go.Proofs.YtjgdhjpafjpjgaaGreatDoor
