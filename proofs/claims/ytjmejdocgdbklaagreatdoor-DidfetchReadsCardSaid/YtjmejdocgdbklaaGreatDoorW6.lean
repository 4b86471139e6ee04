import Derived.Test.YtjmejdocgdbklaaGreatDoorVmFacts
import Derived.Test.YtjmejdocgdbklaaGreatDoorDefs
import Derived.Test.YtjmejdocgdbklaaGreatDoorVM7
import Derived.Test.YtjmejdocgdbklaaGreatDoorW0
import Derived.Test.YtjmejdocgdbklaaGreatDoorW1
import Derived.Test.YtjmejdocgdbklaaGreatDoorW2
set_option linter.unusedVariables false
set_option linter.unusedSimpArgs false
set_option maxHeartbeats 4000000
set_option maxRecDepth 100000
set_option linter.defProp false
namespace Go.Proofs.YtjmejdocgdbklaaGreatDoor
open Go.VM
attribute [local irreducible] AB grd letL
variable{N n:Nat}{m:MS}{Q:PQ}{args:List AVal}
@[reducible,instance] def AA5 {k2 k s0 bi1} := LF.mk (X := Bi N k2 k s0 bi1) (G := λk (s : B8 × (List Bool)) => Bi N k2 k s.1 s.2) (s := (s0, bi1)) (js := [(5, 10)]) (cs := [0]) (V := λs => [.str s.1]) (Ms := λs => [.s (List.map AVal.bool s.2)]) rfl (λs => Bi.eq_1 ..) (λk s => Bi.eq_2 ..)
instance AEk {a0 a1}:CB vE (strings_trimLeftASCII N a0 a1) 232 (λi1=>[.str a0,.ptr i1 0]) (λi1=>List.map AVal.bool a1) (λr=>.str r.1) (λi1 r=>List.map AVal.bool r.2):=G5 (strings_trimLeftASCII.eq_1 ..) Tryz.func232 rfl Tryz.ntmps232 Tryz.results232
instance WG {a0}:CF vE (CU N a0) 244 [.str a0] (λr=>.tuple [.int .i32 r.1,.int .i64 r.2]):=AZ (CU.eq_1 ..) Tryz.func244 rfl Tryz.ntmps244 Tryz.results244 [(1,[],.stop)]
@[reducible,instance] def AAR {k2 k s0 bi1} := LF.mk (X := Dx N k2 k s0 bi1) (G := λk (s : B8 × (List Bool)) => Dx N k2 k s.1 s.2) (s := (s0, bi1)) (js := [(5, 16)]) (cs := [0]) (V := λs => [.str s.1]) (Ms := λs => [.s (List.map AVal.bool s.2)]) rfl (λs => Dx.eq_1 ..) (λk s => Dx.eq_2 ..)
instance ADS {a0 a1}:CB vE (strings_trimRightASCII N a0 a1) 235 (λi1=>[.str a0,.ptr i1 0]) (λi1=>List.map AVal.bool a1) (λr=>.str r.1) (λi1 r=>List.map AVal.bool r.2):=G5 (strings_trimRightASCII.eq_1 ..) Tryz.func235 rfl Tryz.ntmps235 Tryz.results235
instance U5 {a0 a1}:CF vE (strings_HasPrefix N a0 a1) 169 [.str a0,.str a1] (λr=>.bool r):=AZ (strings_HasPrefix.eq_1 ..) Tryz.func169 rfl Tryz.ntmps169 Tryz.results169
def Js {a0 a1 r} (h:strings_HasPrefix N a0 a1=some r) (ha:args=[.str a0,.str a1]) (hQ: ∀n',n<=n'->Gl (Q (.bool r) ⟨m,n'⟩)):ACall vE 169 args ⟨m,n⟩ Q:=ha▸U5.go h hQ
instance Wi {a0 a1}:CF vE (Ew N a0 a1) 162 [.str a0,.str a1] (λr=>.tuple [.str r.1,.bool r.2]):=AZ (Ew.eq_1 ..) Tryz.func162 rfl Tryz.ntmps162 Tryz.results162
@[reducible,instance] def Aa3 {k2 xs} := LQ.mk (X := HY N k2 xs) (G := λxs i (s : Unit) => HY N k2 xs) (s := ()) (js := [(2, 2), (7, 20)]) (cs := [6]) (V := λi s => [.int .i64 i]) (Ms := λi s => []) (λ_ => rfl) (λi s => HY.eq_1 ..) (λx xs i s => HY.eq_2 ..)
instance Akd {a0}:CF vE (Pq N a0) 113 [.str a0] (λr=>.bool r):=AZ (Pq.eq_1 ..) Tryz.func113 rfl Tryz.ntmps113 Tryz.results113 [(4,[],.stop)]
instance Aa8 {a0}:CF vE (Kg N a0) 242 [.int .u8 a0] (λr=>.int .u8 r):=AZ (Kg.eq_1 ..) Tryz.func242 rfl Tryz.ntmps242 Tryz.results242
instance AAB {a0 a1}:CF vE (strings_Index N a0 a1) 210 [.str a0,.str a1] (λr=>.int .i64 r):=AZ (strings_Index.eq_1 ..) Tryz.func210 rfl Tryz.ntmps210 Tryz.results210
def Zz {a0 a1 r} (h:strings_Index N a0 a1=some r) (ha:args=[.str a0,.str a1]) (hQ: ∀n',n<=n'->Gl (Q (.int .i64 r) ⟨m,n'⟩)):ACall vE 210 args ⟨m,n⟩ Q:=ha▸AAB.go h hQ
instance ARV {a0 a1}:CF vE (strings_HasSuffix N a0 a1) 115 [.str a0,.str a1] (λr=>.bool r):=AZ (strings_HasSuffix.eq_1 ..) Tryz.func115 rfl Tryz.ntmps115 Tryz.results115
@[reducible,instance] def ACq {k2 xs s5 bi0} := LQ.mk (X := CL N k2 xs s5 bi0) (G := λxs i (s : (List B8) × DiddocDecoder) => CL N k2 xs s.1 s.2) (s := (s5, bi0)) (js := [(7, 1), (11, 14)]) (cs := [5, 10]) (V := λi s => [.slice 1 (List.map AVal.str s.1) true, .int .i64 i]) (Ms := λi s => [.s ([.str s.2.did.method, .str s.2.did.iD, .int .i64 s.2.e])]) (λ_ => rfl) (λi s => CL.eq_1 ..) (λx xs i s => CL.eq_2 ..)
instance ALO {a0 a1}:CB vE (Du N a0 a1) 60 (λi0=>[.ptr i0 0,.slice 4 (List.map AP a1) false]) (λi0=>[.str a0.did.method,.str a0.did.iD,.int .i64 a0.e]) (λr=>.slice 1 (List.map AVal.str r.1) false) (λi0 r=>[.str r.2.did.method,.str r.2.did.iD,.int .i64 r.2.e]):=G5 (Du.eq_1 ..) Tryz.func60 rfl Tryz.ntmps60 Tryz.results60 [(7,[19],.done)]
instance AG0 {a0 a1}:CB vE (Fy N a0 a1) 117 (λi0=>[.ptr i0 0,AP a1]) (λi0=>[.str a0.did.method,.str a0.did.iD,.int .i64 a0.e]) (λr=>.slice 4 (List.map AP r.1) false) (λi0 r=>[.str r.2.did.method,.str r.2.did.iD,.int .i64 r.2.e]):=G5 (Fy.eq_1 ..) Tryz.func117 rfl Tryz.ntmps117 Tryz.results117 [] true
instance AjP {a0}:CF vE (Ph N a0) 119 [KN a0] (λr=>.str r):=AZ (Ph.eq_1 ..) Tryz.func119 rfl Tryz.ntmps119 Tryz.results119 [(1,[],.take 0 (.take 1 (.take 3 (.take 4 (.alt 2 [4,3,0] (.take 5 (.alt 6 [] (.done) (.stop))) (.stop))))))]
@[reducible,instance] def X3 {k2 xs} := LQ.mk (X := BK N k2 xs) (G := λxs i (s : Unit) => BK N k2 xs) (s := ()) (js := [(4, 2), (9, 9)]) (cs := [8]) (V := λi s => [.int .i64 i]) (Ms := λi s => []) (λ_ => rfl) (λi s => BK.eq_1 ..) (λx xs i s => BK.eq_2 ..)
instance Z9 {a0}:CF vE (GR N a0) 297 [.str a0,.fn (.func 154) [] []] (λr=>.bool r):=AZ (GR.eq_1 ..) Tryz.func297 rfl Tryz.ntmps297 Tryz.results297
@[reducible,instance] def Aar {k8 xs} := LQ.mk (X := He N k8 xs) (G := λxs i (s : Unit) => He N k8 xs) (s := ()) (js := [(2, 2), (27, 21)]) (cs := [26]) (V := λi s => [.int .i64 i]) (Ms := λi s => []) (λ_ => rfl) (λi s => He.eq_1 ..) (λx xs i s => He.eq_2 ..)
instance Ak8 {a0}:CF vE (Pn N a0) 290 [.str a0] (λr=>.bool r):=AZ (Pn.eq_1 ..) Tryz.func290 rfl Tryz.ntmps290 Tryz.results290 [(1,[],.stop),(6,[],.stop)]
end Go.Proofs.YtjmejdocgdbklaaGreatDoor
