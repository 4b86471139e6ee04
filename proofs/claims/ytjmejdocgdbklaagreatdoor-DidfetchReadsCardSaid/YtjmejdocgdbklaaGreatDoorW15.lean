import Derived.Test.YtjmejdocgdbklaaGreatDoorVmFacts
import Derived.Test.YtjmejdocgdbklaaGreatDoorDefs
import Derived.Test.YtjmejdocgdbklaaGreatDoorVM7
import Derived.Test.YtjmejdocgdbklaaGreatDoorW2
import Derived.Test.YtjmejdocgdbklaaGreatDoorW3
import Derived.Test.YtjmejdocgdbklaaGreatDoorW7
import Derived.Test.YtjmejdocgdbklaaGreatDoorW8
import Derived.Test.YtjmejdocgdbklaaGreatDoorW11
import Derived.Test.YtjmejdocgdbklaaGreatDoorW13
set_option linter.unusedVariables false
set_option linter.unusedSimpArgs false
set_option maxHeartbeats 4000000
set_option maxRecDepth 100000
set_option linter.defProp false
namespace Go.Proofs.YtjmejdocgdbklaaGreatDoor
open Go.VM
attribute [local irreducible] AB grd letL
variable{N n:Nat}{m:MS}{Q:PQ}{args:List AVal}
@[reducible,instance] def AQ9 {k13 xs} := LQ.mk (X := ER N k13 xs) (G := λxs i (s : Unit) => ER N k13 xs) (s := ()) (js := [(3, 1), (7, 3), (49, 12)]) (cs := [48]) (V := λi s => [.int .i64 i]) (Ms := λi s => []) (λ_ => rfl) (λi s => ER.eq_1 ..) (λx xs i s => ER.eq_2 ..)
@[reducible,instance] def ARK {k25 xs} := LQ.mk (X := EQ N k25 xs) (G := λxs i (s : Unit) => EQ N k25 xs) (s := ()) (js := [(3, 1), (68, 18)]) (cs := [13]) (V := λi s => [.int .i64 i]) (Ms := λi s => []) (λ_ => rfl) (λi s => EQ.eq_1 ..) (λx xs i s => EQ.eq_2 ..)
@[reducible,instance] def ART {k20 xs s63 s10} := LR.mk (X := C8 N k20 xs s63 s10) (G := λxs i (s : B8) => C8 N k20 xs i s) (i := s63) (s := s10) (js := [(3, 1), (11, 5), (64, 36)]) (cs := [10, 63]) (V := λi s => [.str s, .int .i64 i]) (Ms := λi s => []) rfl (λi s => C8.eq_1 ..) (λx xs i s => C8.eq_2 ..)
instance AWH {a0}:CF vE (GU N a0) 13 [.str a0] (λr=>.tuple [Cy r.1,.int .i64 r.2]):=AZ (GU.eq_1 ..) Tryz.func13 rfl Tryz.ntmps13 Tryz.results13 [(26,[],.stop)]
@[reducible,instance] def AWn {a0 y12 y14 k s5 bn15_params} := LF.mk (X := Ht N a0 y12 y14 k s5 bn15_params) (G := λk (s : Int × (List ApiField)) => Ht N a0 y12 y14 k s.1 s.2) (s := (s5, bn15_params)) (js := [(3, 1), (9, 4), (52, 59)]) (cs := [5]) (V := λs => [.int .i64 s.1]) (Ms := λs => [.p [.k, .k, .v (.slice 2 (List.map FD s.2) true)]]) rfl (λs => Ht.eq_1 ..) (λk s => Ht.eq_2 ..)
instance Ahe {a0}:CF vE (OZ N a0) 69 [.str a0] (λr=>.tuple [JM r.1,.bool r.2]):=AZ (OZ.eq_1 ..) Tryz.func69 rfl Tryz.ntmps69 Tryz.results69 [(2,[],.stop),(14,[],.stop),(19,[102],.take 0 (.take 2 (.take 4 (.take 8 (.alt 1 [8,4,2] (.alt 3 [8,4,0] (.alt 5 [8,2,0] (.take 6 (.alt 7 [8,4,2,0] (.take 9 (.alt 10 [8] (.alt 11 [] (.done) (.stop)) (.stop))) (.stop))) (.stop)) (.stop)) (.alt 3 [8,4,0] (.alt 1 [8,4,2] (.alt 5 [8,2,0] (.take 6 (.alt 7 [8,4,2,0] (.take 9 (.alt 10 [8] (.alt 11 [] (.done) (.stop)) (.stop))) (.stop))) (.stop)) (.alt 5 [8,2,0] (.take 6 (.alt 1 [6,8,4,2] (.alt 7 [8,4,2,0] (.take 9 (.alt 10 [8] (.alt 11 [] (.done) (.stop)) (.stop))) (.stop)) (.stop))) (.stop))) (.stop)))))))] true
instance Aj9 {a0 a1}:CF vE (Ji N a0 a1) 259 [.str a0,.int .i64 a1] (λr=>.tuple [.int .i64 r.1,.bool r.2]):=AZ (Ji.eq_1 ..) Tryz.func259 rfl Tryz.ntmps259 Tryz.results259 [(1,[],.stop)]
end Go.Proofs.YtjmejdocgdbklaaGreatDoor
