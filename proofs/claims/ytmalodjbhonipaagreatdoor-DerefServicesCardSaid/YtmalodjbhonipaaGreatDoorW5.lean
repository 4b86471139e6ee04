import Derived.Test.YtmalodjbhonipaaGreatDoorVmFacts
import Derived.Test.YtmalodjbhonipaaGreatDoorDefs
import Derived.Test.YtmalodjbhonipaaGreatDoorVM7
import Derived.Test.YtmalodjbhonipaaGreatDoorW0
import Derived.Test.YtmalodjbhonipaaGreatDoorW1
import Derived.Test.YtmalodjbhonipaaGreatDoorW2
set_option linter.unusedVariables false
set_option linter.unusedSimpArgs false
set_option maxHeartbeats 4000000
set_option maxRecDepth 100000
set_option linter.defProp false
namespace Go.Proofs.YtmalodjbhonipaaGreatDoor
open Go.VM
attribute [local irreducible] AA grd letL
variable{N n:Nat}{m:MS}{Q:PQ}{args:List AVal}
instance Rm {a0 a1}:CB vE (AZ N a0 a1) 100 (fun i0=>[.ptr i0 0,.str a1]) (fun i0=>[H5 i0 144 2 a0.addr,.buf 5 a0.buf true]) (fun r=>.tuple [.int .i64 r.1,.nilIface]) (fun i0 r=>[H5 i0 144 2 r.2.2.addr,.buf 5 r.2.2.buf true]):=KC (AZ.eq_1 ..) Tryz.func100 rfl Tryz.ntmps100 Tryz.results100 [(2,[12],.done)]
instance PH {a0}:CF vE (Cr N a0) 186 [.str a0] (fun r=>.tuple [.int .i32 r.1,.int .i64 r.2]):=Ae (Cr.eq_1 ..) Tryz.func186 rfl Tryz.ntmps186 Tryz.results186 [(1,[],.stop)]
instance AEo {a0 a1}:CF vE (strings_HasSuffix N a0 a1) 81 [.str a0,.str a1] (fun r=>.bool r):=Ae (strings_HasSuffix.eq_1 ..) Tryz.func81 rfl Tryz.ntmps81 Tryz.results81
@[reducible, instance] def UK {k2 xs s5 bi0} := LQ.mk (X := BG N k2 xs s5 bi0) (G := fun xs i (s : (List (List UInt8)) × DiddocDecoder) => BG N k2 xs s.1 s.2) (s := (s5, bi0)) (js := [(7, 1), (11, 14)]) (cs := [5, 10]) (V := fun i s => [.slice 1 (List.map AVal.str s.1) true, .int .i64 i]) (Ms := fun i s => [.s ([.str s.2.did.method, .str s.2.did.iD, .int .i64 s.2.e])]) (fun _ => rfl) (fun i s => BG.eq_1 ..) (fun x xs i s => BG.eq_2 ..)
instance Yx {a0 a1}:CB vE (Bz N a0 a1) 36 (fun i0=>[.ptr i0 0,.slice 4 (List.map AR a1) false]) (fun i0=>[.str a0.did.method,.str a0.did.iD,.int .i64 a0.e]) (fun r=>.slice 1 (List.map AVal.str r.1) false) (fun i0 r=>[.str r.2.did.method,.str r.2.did.iD,.int .i64 r.2.e]):=KC (Bz.eq_1 ..) Tryz.func36 rfl Tryz.ntmps36 Tryz.results36 [(7,[19],.done)]
instance Xq {a0 a1}:CB vE (D5 N a0 a1) 83 (fun i0=>[.ptr i0 0,AR a1]) (fun i0=>[.str a0.did.method,.str a0.did.iD,.int .i64 a0.e]) (fun r=>.slice 4 (List.map AR r.1) false) (fun i0 r=>[.str r.2.did.method,.str r.2.did.iD,.int .i64 r.2.e]):=KC (D5.eq_1 ..) Tryz.func83 rfl Tryz.ntmps83 Tryz.results83 [] true
instance OT {a0 a1}:CF vE (strings_HasPrefix N a0 a1) 95 [.str a0,.str a1] (fun r=>.bool r):=Ae (strings_HasPrefix.eq_1 ..) Tryz.func95 rfl Tryz.ntmps95 Tryz.results95
theorem Fz {a0 a1 r} (h:strings_HasPrefix N a0 a1=some r) (ha:args=[.str a0,.str a1]) (hQ: ∀n',n≤n'→Gl (Q (.bool r) ⟨m,n'⟩)):ACall vE 95 args ⟨m,n⟩ Q:=ha▸OT.go h hQ
instance ATC {a0}:CF vE (LG N a0) 85 [BZ a0] (fun r=>.str r):=Ae (LG.eq_1 ..) Tryz.func85 rfl Tryz.ntmps85 Tryz.results85 [(1,[],.take 0 (.take 1 (.take 3 (.take 4 (.alt 2 [4,3,0] (.take 5 (.alt 6 [] (.done) (.stop))) (.stop))))))]
instance ARN {a0}:CF vE (KD N a0) 51 [FV a0] (fun r=>.str r):=Ae (KD.eq_1 ..) Tryz.func51 rfl Tryz.ntmps51 Tryz.results51 [(4,[],.take 0 (.take 1 (.take 2 (.take 3 (.take 4 (.take 5 (.take 6 (.alt 7 [5,4,3,2,1,0] (.take 8 (.alt 9 [] (.done) (.stop))) (.stop))))))))),(5,[],.take 0 (.take 1 (.take 2 (.take 3 (.take 4 (.take 5 (.alt 6 [4,3,2,1,0] (.take 7 (.alt 8 [] (.done) (.stop))) (.stop))))))))]
instance ARi {a0 a1}:CF vE (Ir N a0 a1) 43 [.str a0,.str a1] (fun r=>.bool r):=Ae (Ir.eq_1 ..) Tryz.func43 rfl Tryz.ntmps43 Tryz.results43
@[reducible, instance] def QW {k2 xs} := LQ.mk (X := Aj N k2 xs) (G := fun xs i (s : Unit) => Aj N k2 xs) (s := ()) (js := [(4, 2), (9, 9)]) (cs := [8]) (V := fun i s => [.int .i64 i]) (Ms := fun i s => []) (fun _ => rfl) (fun i s => Aj.eq_1 ..) (fun x xs i s => Aj.eq_2 ..)
instance Rs {a0}:CF vE (EE N a0) 188 [.str a0,.fn (.func 130) [] []] (fun r=>.bool r):=Ae (EE.eq_1 ..) Tryz.func188 rfl Tryz.ntmps188 Tryz.results188
instance AQg {a0}:CF vE (JN N a0) 198 [.int .u8 a0] (fun r=>.int .u64 r):=Ae (JN.eq_1 ..) Tryz.func198 rfl Tryz.ntmps198 Tryz.results198
@[reducible, instance] def ALw {k8 xs} := LQ.mk (X := Ej N k8 xs) (G := fun xs i (s : Unit) => Ej N k8 xs) (s := ()) (js := [(2, 2), (27, 21)]) (cs := [26]) (V := fun i s => [.int .i64 i]) (Ms := fun i s => []) (fun _ => rfl) (fun i s => Ej.eq_1 ..) (fun x xs i s => Ej.eq_2 ..)
instance ATY {a0}:CF vE (Ko N a0) 171 [.str a0] (fun r=>.bool r):=Ae (Ko.eq_1 ..) Tryz.func171 rfl Tryz.ntmps171 Tryz.results171 [(1,[],.stop),(6,[],.stop)]
instance PG {a0 a1}:CF vE (Cs N a0 a1) 146 [.str a0,.str a1] (fun r=>.str r):=Ae (Cs.eq_1 ..) Tryz.func146 rfl Tryz.ntmps146 Tryz.results146
instance ME {a0 a1}:CF vE (strings_LastIndexByte N a0 a1) 97 [.str a0,.int .u8 a1] (fun r=>.int .i64 r):=Ae (strings_LastIndexByte.eq_1 ..) Tryz.func97 rfl Tryz.ntmps97 Tryz.results97
theorem MU {a0 a1 r} (h:strings_LastIndexByte N a0 a1=some r) (ha:args=[.str a0,.int .u8 a1]) (hQ: ∀n',n≤n'→Gl (Q (.int .i64 r) ⟨m,n'⟩)):ACall vE 97 args ⟨m,n⟩ Q:=ha▸ME.go h hQ
end Go.Proofs.YtmalodjbhonipaaGreatDoor
