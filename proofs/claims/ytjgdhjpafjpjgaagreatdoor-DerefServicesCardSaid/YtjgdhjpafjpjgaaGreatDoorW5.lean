import Derived.Test.YtjgdhjpafjpjgaaGreatDoorVmFacts
import Derived.Test.YtjgdhjpafjpjgaaGreatDoorDefs
import Derived.Test.YtjgdhjpafjpjgaaGreatDoorVM7
import Derived.Test.YtjgdhjpafjpjgaaGreatDoorW0
import Derived.Test.YtjgdhjpafjpjgaaGreatDoorW1
import Derived.Test.YtjgdhjpafjpjgaaGreatDoorW2
set_option linter.unusedVariables false
set_option linter.unusedSimpArgs false
set_option maxHeartbeats 4000000
set_option maxRecDepth 100000
set_option linter.defProp false
namespace Go.Proofs.YtjgdhjpafjpjgaaGreatDoor
open Go.VM
attribute [local irreducible] AA grd letL
variable{N n:Nat}{m:MS}{Q:PQ}{args:List AVal}
instance O8 {a0 a1}:CF vE (strings_IndexByte N a0 a1) 78 [.str a0,.int .u8 a1] (fun r=>.int .i64 r):=mkF (strings_IndexByte.eq_1 ..) Tryz.func78 rfl Tryz.ntmps78 Tryz.results78 [] false fun r n m R hR h hD=>tW
theorem Oz {a0 a1 r} (h:strings_IndexByte N a0 a1=some r) (ha:args=[.str a0,.int .u8 a1]) (hQ: ∀n',n≤n'→Gl (Q (.int .i64 r) ⟨m,n'⟩)):ACall vE 78 args ⟨m,n⟩ Q:=
 ha▸O8.go h hQ
instance Ke {a0 a1}:CB vE (AZ N a0 a1) 169 (fun i0=>[.ptr i0 0,.str a1]) (fun i0=>[Fj i0 196 2 a0.addr,.buf 5 a0.buf true]) (fun r=>.tuple [.int .i64 r.1,.nilIface]) (fun i0 r=>[Fj i0 196 2 r.2.2.addr,.buf 5 r.2.2.buf true]):=mkB (AZ.eq_1 ..) Tryz.func169 rfl Tryz.ntmps169 Tryz.results169 [(2,[12],.done)] false fun r n i m R hin hR h hD=>tW
theorem BM {a0 a1 r}{i0:Nat} (h:AZ N a0 a1=some r) (ha:args=[.ptr i0 0,.str a1]) (hi0:Bd m i0=some ([Fj i0 196 2 a0.addr,.buf 5 a0.buf true])) (hQ: ∀n',n≤n'→Gl (Q (.tuple [.int .i64 r.1,.nilIface]) ⟨Bl m i0 ([Fj i0 196 2 r.2.2.addr,.buf 5 r.2.2.buf true]),n'⟩)):ACall vE 169 args ⟨m,n⟩ Q:=
 ha▸Ke.go h hi0 hQ
instance JS {a0}:CF vE (CL N a0) 250 [.str a0] (fun r=>.tuple [.int .i32 r.1,.int .i64 r.2]):=mkF (CL.eq_1 ..) Tryz.func250 rfl Tryz.ntmps250 Tryz.results250 [(1,[],.stop)] false fun r n m R hR h hD=>tW
theorem JU {a0 r} (h:CL N a0=some r) (ha:args=[.str a0]) (hQ: ∀n',n≤n'→Gl (Q (.tuple [.int .i32 r.1,.int .i64 r.2]) ⟨m,n'⟩)):ACall vE 250 args ⟨m,n⟩ Q:=
 ha▸JS.go h hQ
instance AHA {a0 a1}:CF vE (strings_HasSuffix N a0 a1) 153 [.str a0,.str a1] (fun r=>.bool r):=mkF (strings_HasSuffix.eq_1 ..) Tryz.func153 rfl Tryz.ntmps153 Tryz.results153 [] false fun r n m R hR h hD=>tW
@[instance_reducible, instance] def U7 {k2 xs s5 bi0} := LQ.mk (X := BP N k2 xs s5 bi0) (G := fun xs i (s : (List (List UInt8)) × DiddocDecoder) => BP N k2 xs s.1 s.2) (s := (s5, bi0)) (js := [(7, 1), (11, 14)]) (cs := [5, 10]) (V := fun i s => [.slice 1 (List.map AVal.str s.1) true, .int .i64 i]) (Ms := fun i s => [.s ([.str s.2.did.method, .str s.2.did.iD, .int .i64 s.2.e])]) (fun _ => rfl) (fun i s => BP.eq_1 ..) (fun x xs i s => BP.eq_2 ..)
instance M5 {a0 a1}:CB vE (Br N a0 a1) 99 (fun i0=>[.ptr i0 0,.slice 4 (List.map AC a1) false]) (fun i0=>[.str a0.did.method,.str a0.did.iD,.int .i64 a0.e]) (fun r=>.slice 1 (List.map AVal.str r.1) false) (fun i0 r=>[.str r.2.did.method,.str r.2.did.iD,.int .i64 r.2.e]):=mkB (Br.eq_1 ..) Tryz.func99 rfl Tryz.ntmps99 Tryz.results99 [(7,[19],.done)] false fun r n i m R hin hR h hD=>tW
theorem NV {a0 a1 r}{i0:Nat} (h:Br N a0 a1=some r) (ha:args=[.ptr i0 0,.slice 4 (List.map AC a1) false]) (hi0:Bd m i0=some ([.str a0.did.method,.str a0.did.iD,.int .i64 a0.e])) (hQ: ∀n',n≤n'→Gl (Q (.slice 1 (List.map AVal.str r.1) false) ⟨Bl m i0 ([.str r.2.did.method,.str r.2.did.iD,.int .i64 r.2.e]),n'⟩)):ACall vE 99 args ⟨m,n⟩ Q:=
 ha▸M5.go h hi0 hQ
instance Zr {a0 a1}:CB vE (EK N a0 a1) 155 (fun i0=>[.ptr i0 0,AC a1]) (fun i0=>[.str a0.did.method,.str a0.did.iD,.int .i64 a0.e]) (fun r=>.slice 4 (List.map AC r.1) false) (fun i0 r=>[.str r.2.did.method,.str r.2.did.iD,.int .i64 r.2.e]):=mkB (EK.eq_1 ..) Tryz.func155 rfl Tryz.ntmps155 Tryz.results155 [] true fun r n i m R hin hR h hD=>tW
instance O7 {a0 a1}:CF vE (strings_HasPrefix N a0 a1) 164 [.str a0,.str a1] (fun r=>.bool r):=mkF (strings_HasPrefix.eq_1 ..) Tryz.func164 rfl Tryz.ntmps164 Tryz.results164 [] false fun r n m R hR h hD=>tW
theorem GA {a0 a1 r} (h:strings_HasPrefix N a0 a1=some r) (ha:args=[.str a0,.str a1]) (hQ: ∀n',n≤n'→Gl (Q (.bool r) ⟨m,n'⟩)):ACall vE 164 args ⟨m,n⟩ Q:=
 ha▸O7.go h hQ
instance AWP {a0}:CF vE (K9 N a0) 157 [CR a0] (fun r=>.str r):=mkF (K9.eq_1 ..) Tryz.func157 rfl Tryz.ntmps157 Tryz.results157 [(1,[],.take 0 (.take 1 (.take 3 (.take 4 (.alt 2 [4,3,0] (.take 5 (.alt 6 [] (.done) (.stop))) (.stop))))))] false fun r n m R hR h hD=>tW
instance ATu {a0 a1}:CF vE (JO N a0 a1) 106 [.str a0,.str a1] (fun r=>.bool r):=mkF (JO.eq_1 ..) Tryz.func106 rfl Tryz.ntmps106 Tryz.results106 [] false fun r n m R hR h hD=>tW
@[instance_reducible, instance] def RD {k2 xs} := LQ.mk (X := Aq N k2 xs) (G := fun xs i (s : Unit) => Aq N k2 xs) (s := ()) (js := [(4, 2), (9, 9)]) (cs := [8]) (V := fun i s => [.int .i64 i]) (Ms := fun i s => []) (fun _ => rfl) (fun i s => Aq.eq_1 ..) (fun x xs i s => Aq.eq_2 ..)
instance Sv {a0}:CF vE (ET N a0) 252 [.str a0,.fn (.func 192) [] []] (fun r=>.bool r):=mkF (ET.eq_1 ..) Tryz.func252 rfl Tryz.ntmps252 Tryz.results252 [] false fun r n m R hR h hD=>tW
instance ATm {a0}:CF vE (Jh N a0) 264 [.int .u8 a0] (fun r=>.int .u64 r):=mkF (Jh.eq_1 ..) Tryz.func264 rfl Tryz.ntmps264 Tryz.results264 [] false fun r n m R hR h hD=>tW
@[instance_reducible, instance] def AOo {k8 xs} := LQ.mk (X := Es N k8 xs) (G := fun xs i (s : Unit) => Es N k8 xs) (s := ()) (js := [(2, 2), (27, 21)]) (cs := [26]) (V := fun i s => [.int .i64 i]) (Ms := fun i s => []) (fun _ => rfl) (fun i s => Es.eq_1 ..) (fun x xs i s => Es.eq_2 ..)
instance AXD {a0}:CF vE (LJ N a0) 235 [.str a0] (fun r=>.bool r):=mkF (LJ.eq_1 ..) Tryz.func235 rfl Tryz.ntmps235 Tryz.results235 [(1,[],.stop),(6,[],.stop)] false fun r n m R hR h hD=>tW
instance Py {a0 a1}:CF vE (DR N a0 a1) 212 [.str a0,.str a1] (fun r=>.str r):=mkF (DR.eq_1 ..) Tryz.func212 rfl Tryz.ntmps212 Tryz.results212 [] false fun r n m R hR h hD=>tW
instance Mf {a0 a1}:CF vE (strings_LastIndexByte N a0 a1) 166 [.str a0,.int .u8 a1] (fun r=>.int .i64 r):=mkF (strings_LastIndexByte.eq_1 ..) Tryz.func166 rfl Tryz.ntmps166 Tryz.results166 [] false fun r n m R hR h hD=>tW
theorem Md {a0 a1 r} (h:strings_LastIndexByte N a0 a1=some r) (ha:args=[.str a0,.int .u8 a1]) (hQ: ∀n',n≤n'→Gl (Q (.int .i64 r) ⟨m,n'⟩)):ACall vE 166 args ⟨m,n⟩ Q:=
 ha▸Mf.go h hQ
end Go.Proofs.YtjgdhjpafjpjgaaGreatDoor
