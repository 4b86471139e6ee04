import Derived.Test.YtjmejdocgdbklaaGreatDoorVmFacts
import Derived.Test.YtjmejdocgdbklaaGreatDoorDefs
import Derived.Test.YtjmejdocgdbklaaGreatDoorVM7
import Derived.Test.YtjmejdocgdbklaaGreatDoorW0
import Derived.Test.YtjmejdocgdbklaaGreatDoorW1
import Derived.Test.YtjmejdocgdbklaaGreatDoorW2
import Derived.Test.YtjmejdocgdbklaaGreatDoorW5
import Derived.Test.YtjmejdocgdbklaaGreatDoorW6
import Derived.Test.YtjmejdocgdbklaaGreatDoorW7
import Derived.Test.YtjmejdocgdbklaaGreatDoorW8
import Derived.Test.YtjmejdocgdbklaaGreatDoorW10
import Derived.Test.YtjmejdocgdbklaaGreatDoorW11
import Derived.Test.YtjmejdocgdbklaaGreatDoorW12
import Derived.Test.YtjmejdocgdbklaaGreatDoorW13
import Derived.Test.YtjmejdocgdbklaaGreatDoorW14
import Derived.Test.YtjmejdocgdbklaaGreatDoorW15
set_option linter.unusedVariables false
set_option linter.unusedSimpArgs false
set_option maxHeartbeats 4000000
set_option maxRecDepth 100000
set_option linter.defProp false
namespace Go.Proofs.YtjmejdocgdbklaaGreatDoor
open Go.VM
attribute [local irreducible] AB grd letL
variable{N n:Nat}{m:MS}{Q:PQ}{args:List AVal}
instance AJB {a0}:CB vE (Ec N a0) 49 (λi0=>[.ptr i0 0]) (λi0=>[.str a0.s,.int .i64 a0.at_]) (λr=>.tuple [.str r.1,.bool r.2.1]) (λi0 r=>[.str r.2.2.s,.int .i64 r.2.2.at_]):=G5 (Ec.eq_1 ..) Tryz.func49 rfl Tryz.ntmps49 Tryz.results49
instance ALz {a0}:CB vE (IL N a0) 198 (λi0=>[.ptr i0 0]) (λi0=>[.str a0.s,.int .i64 a0.at_]) (λr=>.tuple [.str r.1,.int .i64 r.2.1]) (λi0 r=>[.str r.2.2.s,.int .i64 r.2.2.at_]):=G5 (IL.eq_1 ..) Tryz.func198 rfl Tryz.ntmps198 Tryz.results198 [(3,[],.stop),(5,[],.stop),(13,[],.take 0 (.take 1 (.take 2 (.take 3 (.take 4 (.take 5 (.take 6 (.take 7 (.take 8 (.take 9 (.take 10 (.take 11 (.take 12 (.take 13 (.done)))))))))))))))]
instance ARu {a0 a1}:CF vE (Fv N a0 a1) 201 [.str a0,.str a1] (λr=>.str r):=AZ (Fv.eq_1 ..) Tryz.func201 rfl Tryz.ntmps201 Tryz.results201 [(1,[],.stop),(3,[],.stop)]
instance ARR {a0 a1}:CF vE (Ja N a0 a1) 202 [.str a0,.str a1] (λr=>.str r):=AZ (Ja.eq_1 ..) Tryz.func202 rfl Tryz.ntmps202 Tryz.results202 [(1,[],.stop),(3,[],.stop)]
instance Aaz {a0}:CF vE (MI N a0) 114 [.str a0] (λr=>.tuple [.str r.1,.int .i64 r.2]):=AZ (MI.eq_1 ..) Tryz.func114 rfl Tryz.ntmps114 Tryz.results114 [(5,[],.stop)]
@[reducible,instance] def AYY {k4 xs} := LQ.mk (X := GD N k4 xs) (G := λxs i (s : Unit) => GD N k4 xs) (s := ()) (js := [(2, 1), (5, 3), (16, 11)]) (cs := [15]) (V := λi s => [.int .i64 i]) (Ms := λi s => []) (λ_ => rfl) (λi s => GD.eq_1 ..) (λx xs i s => GD.eq_2 ..)
instance Ah0 {a0}:CF vE (NK N a0) 249 [.str a0] (λr=>.bool r):=AZ (NK.eq_1 ..) Tryz.func249 rfl Tryz.ntmps249 Tryz.results249
instance AhL {a0}:CF vE (OY N a0) 215 [QB a0] (λr=>.str r):=AZ (OY.eq_1 ..) Tryz.func215 rfl Tryz.ntmps215 Tryz.results215 [(1,[],.take 0 (.take 1 (.take 5 (.take 6 (.alt 2 [6,5,0] (.take 3 (.take 4 (.take 7 (.alt 8 [] (.done) (.stop))))) (.stop))))))]
instance Alr {a0}:CF vE (Rc N a0) 278 [.str a0] (λr=>.tuple [.int .i64 r.1,.int .i64 r.2]):=AZ (Rc.eq_1 ..) Tryz.func278 rfl Tryz.ntmps278 Tryz.results278 [(2,[],.stop)]
instance ARs {a0 a1}:CB vE (KE N a0 a1) 282 (λi0=>[.ptr i0 0,.str a1]) (λi0=>[.int .i64 a0.e]) (λr=>.str r.1) (λi0 r=>[.int .i64 r.2.e]):=G5 (KE.eq_1 ..) Tryz.func282 rfl Tryz.ntmps282 Tryz.results282 [(2,[],.stop)]
@[reducible,instance] def AD0 {k2 xs bi0_e} := LQ.mk (X := Ct N k2 xs bi0_e) (G := λxs i (s : Int) => Ct N k2 xs s) (s := bi0_e) (js := [(5, 1), (11, 17)]) (cs := [10]) (V := λi s => [.int .i64 i]) (Ms := λi s => [.s ([.int .i64 s])]) (λ_ => rfl) (λi s => Ct.eq_1 ..) (λx xs i s => Ct.eq_2 ..)
instance AOP {a0 a1}:CB vE (Iu N a0 a1) 284 (λi0=>[.ptr i0 0,.str a1]) (λi0=>[.int .i64 a0.e]) (λr=>.str r.1) (λi0 r=>[.int .i64 r.2.e]):=G5 (Iu.eq_1 ..) Tryz.func284 rfl Tryz.ntmps284 Tryz.results284 [(4,[],.stop),(8,[],.stop)]
instance Akk {a0}:CF vE (Mj N a0) 82 [.str a0] (λr=>.tuple [.str r.1,.int .i64 r.2]):=AZ (Mj.eq_1 ..) Tryz.func82 rfl Tryz.ntmps82 Tryz.results82 [(5,[],.stop)]
instance Ahm {a0}:CF vE (OX N a0) 23 [.str a0] (λr=>.tuple [JM r.1,.int .i64 r.2]):=AZ (OX.eq_1 ..) Tryz.func23 rfl Tryz.ntmps23 Tryz.results23 [] true
@[reducible,instance] def AVG {a0 a1 k2 k s20} := LF.mk (X := Cz N a0 a1 k2 k s20) (G := λk (s : Nat) => Cz N a0 a1 k2 k s) (s := s20) (js := [(4, 4), (21, 16)]) (cs := [20]) (V := λs => [.iter ([34, 92, 47, 98, 102, 110, 114, 116] : B8) s]) (Ms := λs => []) rfl (λs => Cz.eq_1 ..) (λk s => Cz.eq_2 ..)
instance AeJ {a0 a1}:CF vE (KQ N a0 a1) 222 [.str a0,.int .i64 a1] (λr=>.tuple [.str r.1,.int .i64 r.2.1,.int .i64 r.2.2]):=AZ (KQ.eq_1 ..) Tryz.func222 rfl Tryz.ntmps222 Tryz.results222 [(5,[],.take 0 (.take 1 (.take 2 (.take 3 (.take 4 (.take 5 (.take 6 (.done)))))))),(10,[],.stop),(14,[],.stop)]
instance AhV {a0}:CF vE (NG N a0) 224 [.str a0] (λr=>.tuple [KN r.1,.int .i64 r.2]):=AZ (NG.eq_1 ..) Tryz.func224 rfl Tryz.ntmps224 Tryz.results224 [(7,[],.take 0 (.take 2 (.take 3 (.take 4 (.alt 1 [4,3,2] (.alt 5 [4,3,2,0] (.alt 6 [4,3,2] (.alt 7 [] (.done) (.stop)) (.stop)) (.stop)) (.alt 5 [4,3,2,0] (.alt 1 [4,3,2] (.alt 6 [4,3,2] (.alt 7 [] (.done) (.stop)) (.stop)) (.stop)) (.stop))))))),(10,[],.take 0 (.take 1 (.take 2 (.take 3 (.take 4 (.take 5 (.take 6 (.take 7 (.alt 8 [6,5,4] (.take 9 (.alt 10 [6,5,4] (.alt 11 [] (.done) (.stop)) (.stop))) (.stop)))))))))),(13,[],.take 0 (.take 1 (.take 2 (.take 3 (.take 4 (.take 5 (.take 6 (.take 7 (.alt 8 [6,5,4] (.take 9 (.alt 10 [6,5,4] (.alt 11 [] (.done) (.stop)) (.stop))) (.stop))))))))))]
end Go.Proofs.YtjmejdocgdbklaaGreatDoor
