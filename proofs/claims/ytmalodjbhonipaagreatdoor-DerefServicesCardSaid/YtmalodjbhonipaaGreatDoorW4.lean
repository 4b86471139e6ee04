import Derived.Test.YtmalodjbhonipaaGreatDoorVmFacts
import Derived.Test.YtmalodjbhonipaaGreatDoorDefs
import Derived.Test.YtmalodjbhonipaaGreatDoorVM7
import Derived.Test.YtmalodjbhonipaaGreatDoorW0
import Derived.Test.YtmalodjbhonipaaGreatDoorW1
set_option linter.unusedVariables false
set_option linter.unusedSimpArgs false
set_option maxHeartbeats 4000000
set_option maxRecDepth 100000
set_option linter.defProp false
namespace Go.Proofs.YtmalodjbhonipaaGreatDoor
open Go.VM
attribute [local irreducible] AA grd letL
variable{N n:Nat}{m:MS}{Q:PQ}{args:List AVal}
@[reducible, instance] def AN1 {a0 k2 k s3} := LF.mk (X := FH N a0 k2 k s3) (G := fun k (s : Int) => FH N a0 k2 k s) (s := s3) (js := [(4, 12)]) (cs := [3]) (V := fun s => [.int .i64 s]) (Ms := fun s => []) rfl (fun s => FH.eq_1 ..) (fun k s => FH.eq_2 ..)
instance AU7 {a0}:CF vE (Ip N a0) 126 [.str a0] (fun r=>.int .i64 r):=Ae (Ip.eq_1 ..) Tryz.func126 rfl Tryz.ntmps126 Tryz.results126 [(2,[],.stop)]
@[reducible, instance] def ALj {a1 k2 xs s5} := LR.mk (X := Ca N a1 k2 xs s5) (G := fun xs i (s : Unit) => Ca N a1 k2 xs i) (i := s5) (s := ()) (js := [(4, 1), (6, 12)]) (cs := [5]) (V := fun i s => [.int .i64 i]) (Ms := fun i s => []) rfl (fun i s => Ca.eq_1 ..) (fun x xs i s => Ca.eq_2 ..)
instance ARg {a0 a1}:CF vE (Aw N a0 a1) 68 [.str a0,.str a1] (fun r=>.int .i64 r):=Ae (Aw.eq_1 ..) Tryz.func68 rfl Tryz.ntmps68 Tryz.results68
@[reducible, instance] def AEl {k19 xs s4} := LQ.mk (X := Ck N k19 xs s4) (G := fun xs i (s : Int) => Ck N k19 xs s) (s := s4) (js := [(22, 15)]) (cs := [4, 5]) (V := fun i s => [.int .i64 s, .int .i64 i]) (Ms := fun i s => []) (fun _ => rfl) (fun i s => Ck.eq_1 ..) (fun x xs i s => Ck.eq_2 ..)
instance ALE {a0}:CF vE (Gs N a0) 69 [.str a0] (fun r=>.int .i64 r):=Ae (Gs.eq_1 ..) Tryz.func69 rfl Tryz.ntmps69 Tryz.results69 [(1,[],.stop),(2,[],.stop)]
instance ARf {a0}:CF vE (Lm N a0) 73 [.int .u8 a0] (fun r=>.bool r):=Ae (Lm.eq_1 ..) Tryz.func73 rfl Tryz.ntmps73 Tryz.results73
instance ARe {a0}:CF vE (FL N a0) 175 [.int .u8 a0] (fun r=>.bool r):=Ae (FL.eq_1 ..) Tryz.func175 rfl Tryz.ntmps175 Tryz.results175 [(1,[],.stop)]
instance ANQ {a0}:CF vE (GU N a0) 165 [.int .i64 a0] (fun r=>.tuple [.str r.1,.int .i64 r.2]):=Ae (GU.eq_1 ..) Tryz.func165 rfl Tryz.ntmps165 Tryz.results165
instance Sj {a0 a1}:CF vE (Ep N a0 a1) 65 [.str a0,.str a1] (fun r=>.tuple [.str r.1,.str r.2.1,.bool r.2.2]):=Ae (Ep.eq_1 ..) Tryz.func65 rfl Tryz.ntmps65 Tryz.results65 [(3,[],.take 0 (.take 1 (.take 2 (.take 3 (.take 4 (.take 5 (.take 6 (.take 7 (.take 8 (.alt 9 [8,7,6,5,4,3] (.alt 10 [] (.alt 11 [] (.done) (.stop)) (.stop)) (.stop)))))))))))]
instance Pm {a0 a1}:CF vE (DK N a0 a1) 129 [.str a0,.str a1] (fun r=>.tuple [.str r.1,.bool r.2]):=Ae (DK.eq_1 ..) Tryz.func129 rfl Tryz.ntmps129 Tryz.results129
@[reducible, instance] def AL8 {k2 xs} := LQ.mk (X := Eh N k2 xs) (G := fun xs i (s : Unit) => Eh N k2 xs) (s := ()) (js := [(2, 2), (7, 20)]) (cs := [6]) (V := fun i s => [.int .i64 i]) (Ms := fun i s => []) (fun _ => rfl) (fun i s => Eh.eq_1 ..) (fun x xs i s => Eh.eq_2 ..)
instance AS7 {a0}:CF vE (Kw N a0) 79 [.str a0] (fun r=>.bool r):=Ae (Kw.eq_1 ..) Tryz.func79 rfl Tryz.ntmps79 Tryz.results79 [(4,[],.stop)]
instance ARV {a0}:CF vE (I8 N a0) 124 [.int .u8 a0] (fun r=>.bool r):=Ae (I8.eq_1 ..) Tryz.func124 rfl Tryz.ntmps124 Tryz.results124 [(1,[],.stop)]
instance AMH {a0}:CF vE (Gd N a0) 125 [.int .u8 a0] (fun r=>.int .u8 r):=Ae (Gd.eq_1 ..) Tryz.func125 rfl Tryz.ntmps125 Tryz.results125
instance R3 {a0 a1}:CF vE (strings_Index N a0 a1) 90 [.str a0,.str a1] (fun r=>.int .i64 r):=Ae (strings_Index.eq_1 ..) Tryz.func90 rfl Tryz.ntmps90 Tryz.results90
theorem R7 {a0 a1 r} (h:strings_Index N a0 a1=some r) (ha:args=[.str a0,.str a1]) (hQ: ∀n',n≤n'→Gl (Q (.int .i64 r) ⟨m,n'⟩)):ACall vE 90 args ⟨m,n⟩ Q:=ha▸R3.go h hQ
instance OL {a0 a1}:CF vE (strings_IndexByte N a0 a1) 88 [.str a0,.int .u8 a1] (fun r=>.int .i64 r):=Ae (strings_IndexByte.eq_1 ..) Tryz.func88 rfl Tryz.ntmps88 Tryz.results88
theorem OJ {a0 a1 r} (h:strings_IndexByte N a0 a1=some r) (ha:args=[.str a0,.int .u8 a1]) (hQ: ∀n',n≤n'→Gl (Q (.int .i64 r) ⟨m,n'⟩)):ACall vE 88 args ⟨m,n⟩ Q:=ha▸OL.go h hQ
instance ARP {a0}:CF vE (Nf N a0) 143 [.int .u8 a0] (fun r=>.bool r):=Ae (Nf.eq_1 ..) Tryz.func143 rfl Tryz.ntmps143 Tryz.results143 [(1,[],.stop)]
end Go.Proofs.YtmalodjbhonipaaGreatDoor
