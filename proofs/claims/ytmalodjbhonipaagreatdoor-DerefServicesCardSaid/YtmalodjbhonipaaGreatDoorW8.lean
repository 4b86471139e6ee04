import Derived.Test.YtmalodjbhonipaaGreatDoorVmFacts
import Derived.Test.YtmalodjbhonipaaGreatDoorDefs
import Derived.Test.YtmalodjbhonipaaGreatDoorVM7
import Derived.Test.YtmalodjbhonipaaGreatDoorW1
import Derived.Test.YtmalodjbhonipaaGreatDoorW2
import Derived.Test.YtmalodjbhonipaaGreatDoorW3
import Derived.Test.YtmalodjbhonipaaGreatDoorW4
import Derived.Test.YtmalodjbhonipaaGreatDoorW5
import Derived.Test.YtmalodjbhonipaaGreatDoorW6
set_option linter.unusedVariables false
set_option linter.unusedSimpArgs false
set_option maxHeartbeats 4000000
set_option maxRecDepth 100000
set_option linter.defProp false
namespace Go.Proofs.YtmalodjbhonipaaGreatDoor
open Go.VM
attribute [local irreducible] AA grd letL
variable{N n:Nat}{m:MS}{Q:PQ}{args:List AVal}
@[reducible, instance] def AMG {k2 xs s6} := LR.mk (X := Bw N k2 xs s6) (G := fun xs i (s : Unit) => Bw N k2 xs i) (i := s6) (s := ()) (js := [(2, 2), (7, 26)]) (cs := [6]) (V := fun i s => [.int .i64 i]) (Ms := fun i s => []) rfl (fun i s => Bw.eq_1 ..) (fun x xs i s => Bw.eq_2 ..)
instance ASG {a0}:CF vE (G5 N a0) 87 [.str a0] (fun r=>.bool r):=Ae (G5.eq_1 ..) Tryz.func87 rfl Tryz.ntmps87 Tryz.results87 [(4,[],.stop)]
instance AQU {a0}:CF vE (Ho N a0) 172 [.str a0] (fun r=>.bool r):=Ae (Ho.eq_1 ..) Tryz.func172 rfl Tryz.ntmps172 Tryz.results172 [(1,[],.stop)]
@[reducible, instance] def P8 {k2 xs} := LQ.mk (X := Ai N k2 xs) (G := fun xs i (s : Unit) => Ai N k2 xs) (s := ()) (js := [(8, 3), (19, 9)]) (cs := [18]) (V := fun i s => [.int .i64 i]) (Ms := fun i s => []) (fun _ => rfl) (fun i s => Ai.eq_1 ..) (fun x xs i s => Ai.eq_2 ..)
@[reducible, instance] def PN {a1 a2 k9 xs s11} := LQ.mk (X := Ah N a1 a2 k9 xs s11) (G := fun xs i (s : Int) => Ah N a1 a2 k9 xs s) (s := s11) (js := [(8, 2), (12, 2), (31, 27)]) (cs := [11, 30]) (V := fun i s => [.int .u64 s, .int .i64 i]) (Ms := fun i s => []) (fun _ => rfl) (fun i s => Ah.eq_1 ..) (fun x xs i s => Ah.eq_2 ..)
instance Ra {a0 a1 a2}:CF vE (D6 N a0 a1 a2) 189 [.str a0,.int .u64 a1,.int .u64 a2,.fn (.func 130) [] []] (fun r=>.tuple [.int .u64 r.1,.int .i64 r.2]):=Ae (D6.eq_1 ..) Tryz.func189 rfl Tryz.ntmps189 Tryz.results189 [(14,[],.stop)]
@[reducible, instance] def AEP {j3 k12 k s7 s0 bn6} := LC.mk (X := EU N j3 k12 k s7 s0 bn6) (G := fun k i (s : (List UInt8) × (List (List UInt8))) => EU N j3 k12 k i s.1 s.2) (i := s7) (k := k) (s := (s0, bn6)) (js := [(8, 2), (22, 20)]) (cs := [0, 7]) (V := fun i s => [.str s.1, .int .i64 i]) (Ms := fun i s => [.s (List.map AVal.str s.2)]) rfl (fun i s => EU.eq_1 ..) (fun k i s => EU.eq_2 ..)
instance QP {a0 a1}:CF vE (IX N a0 a1) 197 [.str a0,.int .i64 a1] (fun r=>.slice 1 (List.map AVal.str r) false):=Ae (IX.eq_1 ..) Tryz.func197 rfl Tryz.ntmps197 Tryz.results197 [(2,[],.stop)]
theorem PT {a0 a1 r} (h:IX N a0 a1=some r) (ha:args=[.str a0,.int .i64 a1]) (hQ: ∀n',n≤n'→Gl (Q (.slice 1 (List.map AVal.str r) false) ⟨m,n'⟩)):ACall vE 197 args ⟨m,n⟩ Q:=ha▸QP.go h hQ
instance Nc {a0 a1}:CF vE (strings_TrimPrefix N a0 a1) 96 [.str a0,.str a1] (fun r=>.str r):=Ae (strings_TrimPrefix.eq_1 ..) Tryz.func96 rfl Tryz.ntmps96 Tryz.results96
theorem Ng {a0 a1 r} (h:strings_TrimPrefix N a0 a1=some r) (ha:args=[.str a0,.str a1]) (hQ: ∀n',n≤n'→Gl (Q (.str r) ⟨m,n'⟩)):ACall vE 96 args ⟨m,n⟩ Q:=ha▸Nc.go h hQ
instance AVA {a0 a1}:CF vE (MO N a0 a1) 98 [Ed a0,Ed a1] (fun r=>.str r):=Ae (MO.eq_1 ..) Tryz.func98 rfl Tryz.ntmps98 Tryz.results98 [(3,[],.stop),(5,[],.take 0 (.take 1 (.take 2 (.take 3 (.take 7 (.take 8 (.alt 4 [8,7,2,1,0] (.take 5 (.take 6 (.take 9 (.alt 10 [] (.done) (.stop))))) (.stop))))))))]
@[reducible, instance] def AMI {a0 xs bi2} := LQ.mk (X := Em N a0 xs bi2) (G := fun xs i (s : StringsBuilder) => Em N a0 xs s) (s := bi2) (js := [(6, 1), (10, 7)]) (cs := [9]) (V := fun i s => [.int .i64 i]) (Ms := fun i s => [.t (fun q => [H5 q 144 2 s.addr, .buf 5 s.buf true])]) (fun _ => rfl) (fun i s => Em.eq_1 ..) (fun x xs i s => Em.eq_2 ..)
instance ATO {a0 a1 a2}:CB vE (FU N a0 a1 a2) 99 (fun i2=>[.bool a0,.slice 1 (List.map AVal.str a1) false,.ptr i2 0]) (fun i2=>[H5 i2 144 2 a2.addr,.buf 5 a2.buf true]) (fun r=>.tuple []) (fun i2 r=>[H5 i2 144 2 r.addr,.buf 5 r.buf true]):=KC (FU.eq_1 ..) Tryz.func99 rfl Tryz.ntmps99 Tryz.results99
instance AM2 {a0 a1}:CF vE (Hg N a0 a1) 149 [.str a0,.int .i64 a1] (fun r=>.tuple [.int .u8 r.1,.bool r.2]):=Ae (Hg.eq_1 ..) Tryz.func149 rfl Tryz.ntmps149 Tryz.results149 [(1,[],.stop),(3,[],.take 0 (.take 1 (.take 2 (.take 3 (.take 6 (.take 7 (.take 8 (.take 9 (.alt 4 [9,8,7,6,2,1,0] (.take 5 (.alt 10 [5,8,7,6,3,2,1,0] (.take 11 (.alt 12 [] (.alt 13 [] (.done) (.stop)) (.stop))) (.stop))) (.stop))))))))))]
@[reducible, instance] def AHC {a0 k2 xs s4 s3} := LR.mk (X := Cb N a0 k2 xs s4 s3) (G := fun xs i (s : (List UInt8)) => Cb N a0 k2 xs i s) (i := s4) (s := s3) (js := [(5, 23)]) (cs := [3, 4]) (V := fun i s => [.str s, .int .i64 i]) (Ms := fun i s => []) rfl (fun i s => Cb.eq_1 ..) (fun x xs i s => Cb.eq_2 ..)
instance AL6 {a0}:CF vE (IV N a0) 108 [.str a0] (fun r=>.str r):=Ae (IV.eq_1 ..) Tryz.func108 rfl Tryz.ntmps108 Tryz.results108
instance APR {a0}:CF vE (JY N a0) 120 [FV a0] (fun r=>.str r):=Ae (JY.eq_1 ..) Tryz.func120 rfl Tryz.ntmps120 Tryz.results120 [(3,[],.take 0 (.take 1 (.take 2 (.take 3 (.take 4 (.alt 5 [3,2,1,0] (.take 6 (.alt 7 [] (.done) (.stop))) (.stop)))))))]
instance ARK {a0}:CF vE (Gw N a0) 112 [.str a0] (fun r=>.tuple [Ed r.1,.int .i64 r.2]):=Ae (Gw.eq_1 ..) Tryz.func112 rfl Tryz.ntmps112 Tryz.results112 [(6,[],.take 0 (.take 1 (.take 2 (.take 3 (.take 4 (.take 5 (.take 6 (.take 7 (.alt 8 [6,5,4] (.take 9 (.alt 10 [6,5,4] (.alt 11 [] (.done) (.stop)) (.stop))) (.stop)))))))))),(9,[],.take 0 (.take 1 (.take 2 (.take 3 (.take 4 (.take 5 (.take 6 (.take 7 (.alt 8 [6,5,4] (.take 9 (.alt 10 [6,5,4] (.alt 11 [] (.done) (.stop)) (.stop))) (.stop)))))))))),(11,[],.stop),(14,[],.take 0 (.take 1 (.take 2 (.take 3 (.take 4 (.take 5 (.take 6 (.take 7 (.alt 8 [6,5,4,3] (.take 9 (.alt 10 [6,5,4,3] (.alt 11 [] (.done) (.stop)) (.stop))) (.stop)))))))))),(17,[],.take 0 (.take 1 (.take 2 (.take 3 (.take 4 (.take 5 (.take 6 (.alt 7 [5,4,3] (.take 8 (.alt 9 [5,4,3] (.alt 10 [] (.done) (.stop)) (.stop))) (.stop)))))))))]
@[reducible, instance] def ALv {k4 xs} := LQ.mk (X := El N k4 xs) (G := fun xs i (s : Unit) => El N k4 xs) (s := ()) (js := [(2, 1), (5, 1), (11, 7)]) (cs := [10]) (V := fun i s => [.int .i64 i]) (Ms := fun i s => []) (fun _ => rfl) (fun i s => El.eq_1 ..) (fun x xs i s => El.eq_2 ..)
instance ATe {a0}:CF vE (Kz N a0) 179 [.str a0] (fun r=>.bool r):=Ae (Kz.eq_1 ..) Tryz.func179 rfl Tryz.ntmps179 Tryz.results179
@[reducible, instance] def AAF {k2 k s3 s4} := LF.mk (X := Ab N k2 k s3 s4) (G := fun k (s : (List UInt8) × (List UInt8)) => Ab N k2 k s.1 s.2) (s := (s3, s4)) (js := [(5, 1), (7, 51)]) (cs := [3, 4]) (V := fun s => [.str s.1, .str s.2]) (Ms := fun s => []) rfl (fun s => Ab.eq_1 ..) (fun k s => Ab.eq_2 ..)
instance AGa {a0}:CF vE (Cf N a0) 116 [.str a0] (fun r=>.str r):=Ae (Cf.eq_1 ..) Tryz.func116 rfl Tryz.ntmps116 Tryz.results116 [(14,[],.take 0 (.take 1 (.take 2 (.alt 3 [1,0] (.alt 4 [2] (.alt 5 [] (.done) (.stop)) (.stop)) (.stop))))),(17,[],.stop),(4,[],.take 0 (.take 1 (.take 2 (.take 3 (.take 4 (.take 5 (.take 6 (.take 7 (.alt 8 [7,6,5,3] (.alt 9 [] (.done) (.stop)) (.stop))))))))))]
end Go.Proofs.YtmalodjbhonipaaGreatDoor
