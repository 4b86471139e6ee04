import Derived.Test.YtfbofngnmfcomaaGreatDoorW11
set_option linter.unusedVariables false
set_option linter.unusedSimpArgs false
set_option maxHeartbeats 4000000
set_option maxRecDepth 100000
set_option linter.defProp false
namespace Go.Proofs.YtfbofngnmfcomaaGreatDoor
open Go.VM
attribute [local irreducible] AA grd letL
variable{N n:Nat}{m:MS}{Q:PQ}{args:List AVal}
@[reducible,instance] def Ae4 {k2 xs}:=lq (λxs i (s:Unit)=>MB N k2 xs) xs () [(2,1),(4,1),(9,13)] [8] (λi s=>MB.eq_1 ..) (λx xs i s=>MB.eq_2 ..)
instance Aop {a0}:CF vE (Vo N a0) 333 [Ir a0] (λr=>.bool r):=AQ (Vo.eq_1 ..) Tryz.func333 rfl Tryz.ntmps333 Tryz.results333 [(4,[],.stop)]
instance ATj {a0}:CB vE (Nc N a0) 391 (λi0=>[.ptr i0 0]) (λi0=>[.str a0.s,.int .i64 a0.at_]) (λr=>.tuple [.str r.1,.int .i64 r.2.1]) (λi0 r=>[.str r.2.2.s,.int .i64 r.2.2.at_]):=E8 (Nc.eq_1 ..) Tryz.func391 rfl Tryz.ntmps391 Tryz.results391 [(2,[],.tk 0 8 (.al 8 [(6,3),(2,3)] (.take 9 (.ar 10 [(7,8)] (.ar 11 [(7,8)] (.ar 12 [(7,8)] (.al 13 [] (.al 14 [] (.al 15 [] .done))) (.al 13 [] (.ar 12 [(7,8)] (.al 14 [] (.al 15 [] .done)) (.al 14 [] (.al 12 [(7,8)] (.al 15 [] .done)))))) (.ar 12 [(7,8)] (.ar 11 [(7,8)] (.al 13 [] (.al 14 [] (.al 15 [] .done))) (.al 13 [] (.al 11 [(7,8)] (.al 14 [] (.al 15 [] .done))))) (.al 13 [] (.ar 11 [(7,8)] (.ar 12 [(7,8)] (.al 14 [] (.al 15 [] .done)) (.al 14 [] (.al 12 [(7,8)] (.al 15 [] .done)))) (.al 12 [(7,8)] (.al 11 [(7,8)] (.al 14 [] (.al 15 [] .done)))))))) (.ar 11 [(7,8)] (.ar 10 [(7,8)] (.ar 12 [(7,8)] (.al 13 [] (.al 14 [] (.al 15 [] .done))) (.al 13 [] (.ar 12 [(7,8)] (.al 14 [] (.al 15 [] .done)) (.al 14 [] (.al 12 [(7,8)] (.al 15 [] .done)))))) (.al 12 [(7,8)] (.al 10 [(7,8)] (.al 13 [] (.al 14 [] (.al 15 [] .done)))))) (.al 12 [(7,8)] (.ar 10 [(7,8)] (.ar 11 [(7,8)] (.al 13 [] (.al 14 [] (.al 15 [] .done))) (.al 13 [] (.al 11 [(7,8)] (.al 14 [] (.al 15 [] .done))))) (.al 11 [(7,8)] (.al 10 [(7,8)] (.al 13 [] (.al 14 [] (.al 15 [] .done))))))))))))]
instance ATZ {a0 a1}:CB vE (Ev N a0 a1) 393 (λi0=>[.ptr i0 0,.str a1]) (λi0=>[.str a0.s,.int .i64 a0.at_]) (λr=>.bool r.1) (λi0 r=>[.str r.2.s,.int .i64 r.2.at_]):=E8 (Ev.eq_1 ..) Tryz.func393 rfl Tryz.ntmps393 Tryz.results393 [(1,[],.tk 0 21 (.al 21 [(19,8),(9,10)] (.tk 22 2 .done)))]
end Go.Proofs.YtfbofngnmfcomaaGreatDoor
