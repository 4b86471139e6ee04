import Derived.Test.YtmalodjbhonipaaGreatDoorVmFacts
import Derived.Test.YtmalodjbhonipaaGreatDoorDefs
import Derived.Test.YtmalodjbhonipaaGreatDoorVM7
import Derived.Test.YtmalodjbhonipaaGreatDoorW0
import Derived.Test.YtmalodjbhonipaaGreatDoorW1
import Derived.Test.YtmalodjbhonipaaGreatDoorW2
import Derived.Test.YtmalodjbhonipaaGreatDoorW4
import Derived.Test.YtmalodjbhonipaaGreatDoorW5
set_option linter.unusedVariables false
set_option linter.unusedSimpArgs false
set_option maxHeartbeats 4000000
set_option maxRecDepth 100000
set_option linter.defProp false
namespace Go.Proofs.YtmalodjbhonipaaGreatDoor
open Go.VM
attribute [local irreducible] AA grd letL
variable{N n:Nat}{m:MS}{Q:PQ}{args:List AVal}
instance AL7 {a0}:CF vE (Ga N a0) 67 [.str a0] (fun r=>.int .i64 r):=Ae (Ga.eq_1 ..) Tryz.func67 rfl Tryz.ntmps67 Tryz.results67 [(2,[],.stop),(4,[],.stop),(10,[],.stop),(12,[],.stop),(14,[],.stop)]
@[reducible, instance] def ALe {a1 k2 xs} := LQ.mk (X := CV N a1 k2 xs) (G := fun xs i (s : Unit) => CV N a1 k2 xs) (s := ()) (js := [(6, 2), (14, 26)]) (cs := [8]) (V := fun i s => [.int .i64 i]) (Ms := fun i s => []) (fun _ => rfl) (fun i s => CV.eq_1 ..) (fun x xs i s => CV.eq_2 ..)
@[reducible, instance] def AJn {a1 a2 k17 xs s9} := LQ.mk (X := CU N a1 a2 k17 xs s9) (G := fun xs i (s : Int) => CU N a1 a2 k17 xs s) (s := s9) (js := [(6, 2), (11, 1), (40, 46)]) (cs := [9, 10]) (V := fun i s => [.int .u64 s, .int .i64 i]) (Ms := fun i s => []) (fun _ => rfl) (fun i s => CU.eq_1 ..) (fun x xs i s => CU.eq_2 ..)
instance ARb {a0 a1 a2}:CF vE (Gz N a0 a1 a2) 192 [.str a0,.int .u64 a1,.int .u64 a2] (fun r=>.tuple [.int .u64 r.1,.int .i64 r.2]):=Ae (Gz.eq_1 ..) Tryz.func192 rfl Tryz.ntmps192 Tryz.results192 [(6,[],.stop),(15,[],.stop)]
@[reducible, instance] def AHG {a0 a1 k6 k s7} := LF.mk (X := EM N a0 a1 k6 k s7) (G := fun k (s : Int) => EM N a0 a1 k6 k s) (s := s7) (js := [(4, 3), (8, 3), (19, 40)]) (cs := [7]) (V := fun s => [.int .i64 s]) (Ms := fun s => []) rfl (fun s => EM.eq_1 ..) (fun k s => EM.eq_2 ..)
instance AOz {a0 a1}:CF vE (Ja N a0 a1) 128 [.str a0,.int .i64 a1] (fun r=>.tuple [.int .i64 r.1,.int .i64 r.2.1,.int .i64 r.2.2]):=Ae (Ja.eq_1 ..) Tryz.func128 rfl Tryz.ntmps128 Tryz.results128 [(1,[],.stop),(4,[],.stop),(8,[],.stop)]
instance Ur {a0 a1}:CF vE (strings_Cut N a0 a1) 26 [.str a0,.str a1] (fun r=>.tuple [.str r.1,.str r.2.1,.bool r.2.2]):=Ae (strings_Cut.eq_1 ..) Tryz.func26 rfl Tryz.ntmps26 Tryz.results26
theorem UR {a0 a1 r} (h:strings_Cut N a0 a1=some r) (ha:args=[.str a0,.str a1]) (hQ: ∀n',n≤n'→Gl (Q (.tuple [.str r.1,.str r.2.1,.bool r.2.2]) ⟨m,n'⟩)):ACall vE 26 args ⟨m,n⟩ Q:=ha▸Ur.go h hQ
instance AEq {a0 a1}:CF vE (strings_CutPrefix N a0 a1) 78 [.str a0,.str a1] (fun r=>.tuple [.str r.1,.bool r.2]):=Ae (strings_CutPrefix.eq_1 ..) Tryz.func78 rfl Tryz.ntmps78 Tryz.results78
instance AHk {a0 a1}:CF vE (Fe N a0 a1) 66 [.str a0,.int .i64 a1] (fun r=>.tuple [.int .u8 r.1,.bool r.2]):=Ae (Fe.eq_1 ..) Tryz.func66 rfl Tryz.ntmps66 Tryz.results66 [(1,[],.stop),(3,[],.take 0 (.take 1 (.take 2 (.take 3 (.take 6 (.take 7 (.take 8 (.take 9 (.alt 4 [9,8,7,6,2,1,0] (.take 5 (.alt 10 [5,8,7,6,3,2,1,0] (.take 11 (.alt 12 [] (.alt 13 [] (.done) (.stop)) (.stop))) (.stop))) (.stop))))))))))]
instance AGP {a0 a1}:CF vE (strings_Contains N a0 a1) 44 [.str a0,.str a1] (fun r=>.bool r):=Ae (strings_Contains.eq_1 ..) Tryz.func44 rfl Tryz.ntmps44 Tryz.results44
instance ARR {a0 a1}:CF vE (NP N a0 a1) 144 [.int .u8 a0,.str a1] (fun r=>.bool r):=Ae (NP.eq_1 ..) Tryz.func144 rfl Tryz.ntmps144 Tryz.results144
@[reducible, instance] def AF8 {a1 k s0 s5} := LF.mk (X := FQ N a1 k s0 s5) (G := fun k (s : (List UInt8) × Int) => FQ N a1 k s.1 s.2) (s := (s0, s5)) (js := [(4, 1), (6, 1), (20, 14)]) (cs := [0, 5]) (V := fun s => [.str s.1, .int .i64 s.2]) (Ms := fun s => []) rfl (fun s => FQ.eq_1 ..) (fun k s => FQ.eq_2 ..)
instance R6 {a0 a1}:CF vE (strings_Count N a0 a1) 184 [.str a0,.str a1] (fun r=>.int .i64 r):=Ae (strings_Count.eq_1 ..) Tryz.func184 rfl Tryz.ntmps184 Tryz.results184
theorem R8 {a0 a1 r} (h:strings_Count N a0 a1=some r) (ha:args=[.str a0,.str a1]) (hQ: ∀n',n≤n'→Gl (Q (.int .i64 r) ⟨m,n'⟩)):ACall vE 184 args ⟨m,n⟩ Q:=ha▸R6.go h hQ
instance VK {a0 a1 a2}:CB vE (Bq N a0 a1 a2) 35 (fun i0=>[.ptr i0 0,AR a1,.str a2]) (fun i0=>[.str a0.did.method,.str a0.did.iD,.int .i64 a0.e]) (fun r=>.str r.1) (fun i0 r=>[.str r.2.did.method,.str r.2.did.iD,.int .i64 r.2.e]):=KC (Bq.eq_1 ..) Tryz.func35 rfl Tryz.ntmps35 Tryz.results35
instance AAI {a0 a1 a2}:CB vE (Da N a0 a1 a2) 37 (fun i0=>[.ptr i0 0,AR a1,.str a2]) (fun i0=>[.str a0.did.method,.str a0.did.iD,.int .i64 a0.e]) (fun r=>.slice 4 (List.map AR r.1) false) (fun i0 r=>[.str r.2.did.method,.str r.2.did.iD,.int .i64 r.2.e]):=KC (Da.eq_1 ..) Tryz.func37 rfl Tryz.ntmps37 Tryz.results37 [] true
instance UB {a0 a1}:CB vE (BQ N a0 a1) 39 (fun i0=>[.ptr i0 0,AR a1]) (fun i0=>[.str a0.did.method,.str a0.did.iD,.int .i64 a0.e]) (fun r=>.slice 1 (List.map AVal.str r.1) false) (fun i0 r=>[.str r.2.did.method,.str r.2.did.iD,.int .i64 r.2.e]):=KC (BQ.eq_1 ..) Tryz.func39 rfl Tryz.ntmps39 Tryz.results39
instance AMF {a0}:CF vE (D9 N a0) 19 [Eb a0] (fun r=>.str r):=Ae (D9.eq_1 ..) Tryz.func19 rfl Tryz.ntmps19 Tryz.results19 [(1,[],.take 0 (.take 4 (.alt 1 [4] (.alt 2 [4,0] (.take 3 (.alt 5 [3,0] (.take 6 (.alt 7 [] (.done) (.stop))) (.stop))) (.stop)) (.stop))))]
@[reducible, instance] def WF {a0 k8 k s175} := LF.mk (X := BO N a0 k8 k s175) (G := fun k (s : Nat) => BO N a0 k8 k s) (s := s175) (js := [(4, 3), (176, 7)]) (cs := [175]) (V := fun s => [.iter a0 s]) (Ms := fun s => []) rfl (fun s => BO.eq_1 ..) (fun k s => BO.eq_2 ..)
@[reducible, instance] def X5 {a0 a1 j19 k29 k s12} := LC.mk (X := Dy N a0 a1 j19 k29 k s12) (G := fun k i (s : Unit) => Dy N a0 a1 j19 k29 k i) (i := s12) (k := k) (s := ()) (js := [(48, 17)]) (cs := [12]) (V := fun i s => [.int .i64 i]) (Ms := fun i s => []) rfl (fun i s => Dy.eq_1 ..) (fun k i s => Dy.eq_2 ..)
@[reducible, instance] def WO {a0 a1 k15 k s9} := LF.mk (X := BP N a0 a1 k15 k s9) (G := fun k (s : Int) => BP N a0 a1 k15 k s) (s := s9) (js := [(4, 1), (10, 3), (23, 76)]) (cs := [9]) (V := fun s => [.int .i64 s]) (Ms := fun s => []) rfl (fun s => BP.eq_1 ..) (fun k s => BP.eq_2 ..)
instance AEr {a0 a1}:CF vE (Ci N a0 a1) 134 [.str a0,.int .i32 a1] (fun r=>.int .i64 r):=Ae (Ci.eq_1 ..) Tryz.func134 rfl Tryz.ntmps134 Tryz.results134 [(34,[],.stop),(6,[],.take 0 (.take 1 (.take 2 (.take 3 (.take 4 (.take 5 (.take 6 (.done)))))))),(7,[],.take 0 (.take 1 (.take 2 (.take 3 (.take 4 (.take 5 (.take 6 (.alt 7 [5,4,2,1,0] (.alt 8 [] (.done) (.stop)) (.stop))))))))),(14,[],.take 0 (.take 1 (.take 2 (.take 3 (.take 4 (.take 5 (.take 6 (.take 7 (.take 8 (.take 9 (.take 10 (.done)))))))))))),(18,[],.stop),(27,[],.stop),(31,[],.take 0 (.take 1 (.take 2 (.take 3 (.take 4 (.take 5 (.take 6 (.take 7 (.take 8 (.take 9 (.take 10 (.done))))))))))))]
end Go.Proofs.YtmalodjbhonipaaGreatDoor
