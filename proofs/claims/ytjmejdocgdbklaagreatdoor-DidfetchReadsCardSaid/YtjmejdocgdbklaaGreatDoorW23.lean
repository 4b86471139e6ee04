import Derived.Test.YtjmejdocgdbklaaGreatDoorVmFacts
import Derived.Test.YtjmejdocgdbklaaGreatDoorDefs
import Derived.Test.YtjmejdocgdbklaaGreatDoorVM7
import Derived.Test.YtjmejdocgdbklaaGreatDoorW1
import Derived.Test.YtjmejdocgdbklaaGreatDoorW2
import Derived.Test.YtjmejdocgdbklaaGreatDoorW3
import Derived.Test.YtjmejdocgdbklaaGreatDoorW6
import Derived.Test.YtjmejdocgdbklaaGreatDoorW10
import Derived.Test.YtjmejdocgdbklaaGreatDoorW15
import Derived.Test.YtjmejdocgdbklaaGreatDoorW17
import Derived.Test.YtjmejdocgdbklaaGreatDoorW19
import Derived.Test.YtjmejdocgdbklaaGreatDoorW21
import Derived.Test.YtjmejdocgdbklaaGreatDoorW22
set_option linter.unusedVariables false
set_option linter.unusedSimpArgs false
set_option maxHeartbeats 4000000
set_option maxRecDepth 100000
set_option linter.defProp false
namespace Go.Proofs.YtjmejdocgdbklaaGreatDoor
open Go.VM
attribute [local irreducible] AB grd letL
variable{N n:Nat}{m:MS}{Q:PQ}{args:List AVal}
@[reducible,instance] def ARj {k24 xs bn3_methods bn2} := LQ.mk (X := Ex N k24 xs bn3_methods bn2) (G := λxs i (s : (List ApiMethod) × DiddocDecoder) => Ex N k24 xs s.1 s.2) (s := (bn3_methods, bn2)) (js := [(11, 2), (55, 19)]) (cs := [54]) (V := λi s => [.int .i64 i]) (Ms := λi s => [.k, .p [.k, .k, .k, .v (.slice 3 (List.map Ha s.1) true)], .s ([.str s.2.did.method, .str s.2.did.iD, .int .i64 s.2.e])]) (λ_ => rfl) (λi s => Ex.eq_1 ..) (λx xs i s => Ex.eq_2 ..)
@[reducible,instance] def ASs {k37 xs bn3_services bn2} := LQ.mk (X := Ez N k37 xs bn3_services bn2) (G := λxs i (s : (List ApiService) × DiddocDecoder) => Ez N k37 xs s.1 s.2) (s := (bn3_services, bn2)) (js := [(14, 1), (78, 11)]) (cs := [77]) (V := λi s => [.int .i64 i]) (Ms := λi s => [.k, .p [.k, .k, .k, .k, .v (.slice 3 (List.map Ej s.1) true)], .s ([.str s.2.did.method, .str s.2.did.iD, .int .i64 s.2.e])]) (λ_ => rfl) (λi s => Ez.eq_1 ..) (λx xs i s => Ez.eq_2 ..)
instance Aav {a0}:CF vE (Kn N a0) 18 [AP a0] (λr=>.tuple [YT r.1,.int .i64 r.2]):=AZ (Kn.eq_1 ..) Tryz.func18 rfl Tryz.ntmps18 Tryz.results18 [(6,[],.stop),(8,[],.take 0 (.take 1 (.alt 2 [0] (.take 3 (.alt 4 [1] (.take 5 (.alt 6 [] (.done) (.stop))) (.stop))) (.stop)))),(17,[],.take 0 (.take 2 (.alt 1 [2] (.take 4 (.alt 3 [4,0] (.alt 5 [2] (.take 6 (.alt 7 [] (.done) (.stop))) (.stop)) (.stop))) (.stop)))),(18,[68],.done),(23,[82],.take 0 (.take 2 (.alt 1 [2] (.alt 3 [0] (.take 4 (.alt 5 [2,0] (.take 6 (.alt 7 [] (.done) (.stop))) (.stop))) (.stop)) (.alt 3 [0] (.take 4 (.alt 1 [4,2] (.alt 5 [2,0] (.take 6 (.alt 7 [] (.done) (.stop))) (.stop)) (.stop))) (.stop))))),(26,[],.take 1 (.take 2 (.alt 0 [2,1] (.alt 3 [2,1] (.alt 4 [] (.done) (.stop)) (.stop)) (.stop))))] true
instance AUc {a0}:CF vE (J9 N a0) 218 [Cy a0] (λr=>.tuple [Cy r.1,.int .i64 r.2]):=AZ (J9.eq_1 ..) Tryz.func218 rfl Tryz.ntmps218 Tryz.results218
instance AVN {a0}:CF vE (KX N a0) 36 [.str a0] (λr=>.tuple [MU r.1,.int .i64 r.2]):=AZ (KX.eq_1 ..) Tryz.func36 rfl Tryz.ntmps36 Tryz.results36 [(8,[],.take 0 (.take 2 (.take 3 (.take 4 (.take 5 (.alt 1 [5,4,3,2] (.alt 6 [4,2,0] (.alt 7 [] (.alt 8 [] (.done) (.stop)) (.stop)) (.stop)) (.stop)))))))]
end Go.Proofs.YtjmejdocgdbklaaGreatDoor
