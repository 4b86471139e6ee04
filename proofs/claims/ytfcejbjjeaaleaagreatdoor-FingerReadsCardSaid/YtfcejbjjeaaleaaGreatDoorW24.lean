import Derived.Test.YtfcejbjjeaaleaaGreatDoorW22
set_option linter.unusedVariables false
set_option linter.unusedSimpArgs false
set_option maxHeartbeats 4000000
set_option maxRecDepth 100000
set_option linter.defProp false
namespace Go.Proofs.YtfcejbjjeaaleaaGreatDoor
open Go.VM
attribute [local irreducible] AB grd letL
variable{N n:Nat}{m:MS}{Q:PQ}{args:List AVal}
instance AUQ {a0}:CF vE (KX N a0) 176 [.str a0] (λr=>.tuple [BF r.1,.int .i64 r.2]):=AX (KX.eq_1 ..) Tryz.func176 rfl Tryz.ntmps176 Tryz.results176 [(4,[],.take 0 (.take 2 (.take 3 (.take 4 (.take 5 (.alt 1 [5,4,3,2] (.alt 6 [4,2,0] (.alt 7 [] (.alt 8 [] (.done) (.stop)) (.stop)) (.stop)) (.stop)))))))]
instance AiA {a0}:CF vE (OL N a0) 256 [Gv a0] (λr=>.tuple [FK r.1,.int .i64 r.2]):=AX (OL.eq_1 ..) Tryz.func256 rfl Tryz.ntmps256 Tryz.results256 [(10,[],.take 1 (.take 2 (.alt 0 [2,1] (.alt 3 [2,1] (.alt 4 [] (.done) (.stop)) (.stop)) (.stop))))]
instance AfK {a0}:CF vE (Oa N a0) 290 [FK a0] (λr=>.bool r):=AX (Oa.eq_1 ..) Tryz.func290 rfl Tryz.ntmps290 Tryz.results290 [(2,[],.stop)]
@[reducible,instance] def ATp {k28 xs} := LQ.mk (X := Ey N k28 xs) (G := λxs i (s : Unit) => Ey N k28 xs) (s := ()) (js := [(3, 1), (62, 18)]) (cs := [8]) (V := λi s => [.int .i64 i]) (Ms := λi s => []) (λ_ => rfl) (λi s => Ey.eq_1 ..) (λx xs i s => Ey.eq_2 ..)
@[reducible,instance] def AWK {a0 k19 xs s5} := LQ.mk (X := ES N a0 k19 xs s5) (G := λxs i (s : B8) => ES N a0 k19 xs s) (s := s5) (js := [(3, 1), (7, 4), (59, 38)]) (cs := [5, 58]) (V := λi s => [.str s, .int .i64 i]) (Ms := λi s => []) (λ_ => rfl) (λi s => ES.eq_1 ..) (λx xs i s => ES.eq_2 ..)
instance AdJ {a0}:CF vE (M8 N a0) 152 [FK a0] (λr=>.tuple [Gv r.1,.int .i64 r.2]):=AX (M8.eq_1 ..) Tryz.func152 rfl Tryz.ntmps152 Tryz.results152 [(4,[],.stop),(18,[],.stop)]
end Go.Proofs.YtfcejbjjeaaleaaGreatDoor
