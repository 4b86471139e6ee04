import Derived.Test.YtjmejdocgdbklaaGreatDoorVmFacts
import Derived.Test.YtjmejdocgdbklaaGreatDoorDefs
import Derived.Test.YtjmejdocgdbklaaGreatDoorVM7
import Derived.Test.YtjmejdocgdbklaaGreatDoorW1
import Derived.Test.YtjmejdocgdbklaaGreatDoorW2
import Derived.Test.YtjmejdocgdbklaaGreatDoorW3
set_option linter.unusedVariables false
set_option linter.unusedSimpArgs false
set_option maxHeartbeats 4000000
set_option maxRecDepth 100000
set_option linter.defProp false
namespace Go.Proofs.YtjmejdocgdbklaaGreatDoor
open Go.VM
attribute [local irreducible] AB grd letL
variable{N n:Nat}{m:MS}{Q:PQ}{args:List AVal}
instance AhY {a0}:CF vE (Ox N a0) 254 [FJ a0] (λr=>.str r):=AZ (Ox.eq_1 ..) Tryz.func254 rfl Tryz.ntmps254 Tryz.results254 [(4,[],.take 0 (.take 1 (.take 2 (.take 3 (.take 4 (.take 5 (.take 6 (.alt 7 [5,4,3,2,1,0] (.take 8 (.alt 9 [] (.done) (.stop))) (.stop))))))))),(5,[],.take 0 (.take 1 (.take 2 (.take 3 (.take 4 (.take 5 (.alt 6 [4,3,2,1,0] (.take 7 (.alt 8 [] (.done) (.stop))) (.stop))))))))]
instance WH {a0 a1}:CF vE (EZ N a0 a1) 294 [.str a0,.str a1] (λr=>.str r):=AZ (EZ.eq_1 ..) Tryz.func294 rfl Tryz.ntmps294 Tryz.results294
instance Ro {a0 a1}:CF vE (strings_LastIndexByte N a0 a1) 280 [.str a0,.int .u8 a1] (λr=>.int .i64 r):=AZ (strings_LastIndexByte.eq_1 ..) Tryz.func280 rfl Tryz.ntmps280 Tryz.results280
def RX {a0 a1 r} (h:strings_LastIndexByte N a0 a1=some r) (ha:args=[.str a0,.int .u8 a1]) (hQ: ∀n',n<=n'->Gl (Q (.int .i64 r) ⟨m,n'⟩)):ACall vE 280 args ⟨m,n⟩ Q:=ha▸Ro.go h hQ
@[reducible,instance] def AYN {a1 k2 xs s5} := LR.mk (X := EE N a1 k2 xs s5) (G := λxs i (s : Unit) => EE N a1 k2 xs i) (i := s5) (s := ()) (js := [(4, 1), (6, 12)]) (cs := [5]) (V := λi s => [.int .i64 i]) (Ms := λi s => []) rfl (λi s => EE.eq_1 ..) (λx xs i s => EE.eq_2 ..)
instance AhQ {a0 a1}:CF vE (BP N a0 a1) 29 [.str a0,.str a1] (λr=>.int .i64 r):=AZ (BP.eq_1 ..) Tryz.func29 rfl Tryz.ntmps29 Tryz.results29
instance AhJ {a0 a1}:CF vE (JK N a0 a1) 80 [.str a0,.str a1] (λr=>.bool r):=AZ (JK.eq_1 ..) Tryz.func80 rfl Tryz.ntmps80 Tryz.results80
instance AL6 {a0}:CF vE (D8 N a0) 83 [.int .u8 a0] (λr=>.bool r):=AZ (D8.eq_1 ..) Tryz.func83 rfl Tryz.ntmps83 Tryz.results83 [(1,[],.stop)]
instance Ahp {a0}:CF vE (Ie N a0) 145 [.int .u8 a0] (λr=>.bool r):=AZ (Ie.eq_1 ..) Tryz.func145 rfl Tryz.ntmps145 Tryz.results145 [(1,[],.stop)]
@[reducible,instance] def AaM {k2 xs} := LQ.mk (X := GK N k2 xs) (G := λxs i (s : Unit) => GK N k2 xs) (s := ()) (js := [(2, 1), (4, 24)]) (cs := [3]) (V := λi s => [.int .i64 i]) (Ms := λi s => []) (λ_ => rfl) (λi s => GK.eq_1 ..) (λx xs i s => GK.eq_2 ..)
instance Ahn {a0}:CF vE (Oc N a0) 186 [.str a0] (λr=>.bool r):=AZ (Oc.eq_1 ..) Tryz.func186 rfl Tryz.ntmps186 Tryz.results186 [(4,[],.stop),(6,[],.stop)]
@[reducible,instance] def AVQ {k2 xs} := LQ.mk (X := FZ N k2 xs) (G := λxs i (s : Unit) => FZ N k2 xs) (s := ()) (js := [(2, 1), (4, 11)]) (cs := [3]) (V := λi s => [.int .i64 i]) (Ms := λi s => []) (λ_ => rfl) (λi s => FZ.eq_1 ..) (λx xs i s => FZ.eq_2 ..)
instance AgR {a0}:CF vE (NU N a0) 187 [.str a0] (λr=>.bool r):=AZ (NU.eq_1 ..) Tryz.func187 rfl Tryz.ntmps187 Tryz.results187
instance Ajd {a0}:CF vE (Px N a0) 134 [.int .u8 a0] (λr=>.bool r):=AZ (Px.eq_1 ..) Tryz.func134 rfl Tryz.ntmps134 Tryz.results134 [(1,[],.stop)]
instance Aam {a0}:CF vE (Jn N a0) 192 [.int .i64 a0] (λr=>.str r):=AZ (Jn.eq_1 ..) Tryz.func192 rfl Tryz.ntmps192 Tryz.results192
@[reducible,instance] def AUh {k2 xs s3} := LR.mk (X := EF N k2 xs s3) (G := λxs i (s : Unit) => EF N k2 xs i) (i := s3) (s := ()) (js := [(2, 1), (4, 29)]) (cs := [3]) (V := λi s => [.int .i64 i]) (Ms := λi s => []) rfl (λi s => EF.eq_1 ..) (λx xs i s => EF.eq_2 ..)
instance AeH {a0}:CF vE (Lp N a0) 189 [.str a0] (λr=>.bool r):=AZ (Lp.eq_1 ..) Tryz.func189 rfl Tryz.ntmps189 Tryz.results189 [(4,[],.stop)]
@[reducible,instance] def AUv {k2 xs} := LQ.mk (X := Fa N k2 xs) (G := λxs i (s : Unit) => Fa N k2 xs) (s := ()) (js := [(2, 1), (4, 23)]) (cs := [3]) (V := λi s => [.int .i64 i]) (Ms := λi s => []) (λ_ => rfl) (λi s => Fa.eq_1 ..) (λx xs i s => Fa.eq_2 ..)
instance AfP {a0}:CF vE (Nh N a0) 41 [.str a0] (λr=>.bool r):=AZ (Nh.eq_1 ..) Tryz.func41 rfl Tryz.ntmps41 Tryz.results41 [(4,[],.stop)]
instance Aho {a0}:CF vE (M0 N a0) 44 [.int .u8 a0] (λr=>.bool r):=AZ (M0.eq_1 ..) Tryz.func44 rfl Tryz.ntmps44 Tryz.results44 [(1,[],.stop)]
end Go.Proofs.YtjmejdocgdbklaaGreatDoor
