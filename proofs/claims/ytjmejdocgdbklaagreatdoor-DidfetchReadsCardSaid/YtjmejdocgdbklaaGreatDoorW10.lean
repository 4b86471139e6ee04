import Derived.Test.YtjmejdocgdbklaaGreatDoorVmFacts
import Derived.Test.YtjmejdocgdbklaaGreatDoorDefs
import Derived.Test.YtjmejdocgdbklaaGreatDoorVM7
import Derived.Test.YtjmejdocgdbklaaGreatDoorW0
import Derived.Test.YtjmejdocgdbklaaGreatDoorW1
import Derived.Test.YtjmejdocgdbklaaGreatDoorW2
import Derived.Test.YtjmejdocgdbklaaGreatDoorW3
import Derived.Test.YtjmejdocgdbklaaGreatDoorW5
import Derived.Test.YtjmejdocgdbklaaGreatDoorW6
import Derived.Test.YtjmejdocgdbklaaGreatDoorW7
set_option linter.unusedVariables false
set_option linter.unusedSimpArgs false
set_option maxHeartbeats 4000000
set_option maxRecDepth 100000
set_option linter.defProp false
namespace Go.Proofs.YtjmejdocgdbklaaGreatDoor
open Go.VM
attribute [local irreducible] AB grd letL
variable{N n:Nat}{m:MS}{Q:PQ}{args:List AVal}
instance ARJ {a0 a1}:CF vE (strings_CutPrefix N a0 a1) 111 [.str a0,.str a1] (λr=>.tuple [.str r.1,.bool r.2]):=AZ (strings_CutPrefix.eq_1 ..) Tryz.func111 rfl Tryz.ntmps111 Tryz.results111
instance AVH {a0 a1}:CF vE (JE N a0 a1) 207 [.str a0,.int .i64 a1] (λr=>.tuple [.int .u8 r.1,.bool r.2]):=AZ (JE.eq_1 ..) Tryz.func207 rfl Tryz.ntmps207 Tryz.results207 [(1,[],.stop),(3,[],.take 0 (.take 1 (.take 2 (.take 3 (.take 6 (.take 7 (.take 8 (.take 9 (.alt 4 [9,8,7,6,2,1,0] (.take 5 (.alt 10 [5,8,7,6,3,2,1,0] (.take 11 (.alt 12 [] (.alt 13 [] (.done) (.stop)) (.stop))) (.stop))) (.stop))))))))))]
instance ASn {a0 a1}:CF vE (strings_Contains N a0 a1) 166 [.str a0,.str a1] (λr=>.bool r):=AZ (strings_Contains.eq_1 ..) Tryz.func166 rfl Tryz.ntmps166 Tryz.results166
@[reducible,instance] def AUb {a1 k s0 s5} := LF.mk (X := Il N a1 k s0 s5) (G := λk (s : B8 × Int) => Il N a1 k s.1 s.2) (s := (s0, s5)) (js := [(4, 1), (6, 1), (20, 14)]) (cs := [0, 5]) (V := λs => [.str s.1, .int .i64 s.2]) (Ms := λs => []) rfl (λs => Il.eq_1 ..) (λk s => Il.eq_2 ..)
instance Z4 {a0 a1}:CF vE (strings_Count N a0 a1) 243 [.str a0,.str a1] (λr=>.int .i64 r):=AZ (strings_Count.eq_1 ..) Tryz.func243 rfl Tryz.ntmps243 Tryz.results243
def Zu {a0 a1 r} (h:strings_Count N a0 a1=some r) (ha:args=[.str a0,.str a1]) (hQ: ∀n',n<=n'->Gl (Q (.int .i64 r) ⟨m,n'⟩)):ACall vE 243 args ⟨m,n⟩ Q:=ha▸Z4.go h hQ
instance AEX {a0 a1 a2}:CB vE (DX N a0 a1 a2) 59 (λi0=>[.ptr i0 0,AP a1,.str a2]) (λi0=>[.str a0.did.method,.str a0.did.iD,.int .i64 a0.e]) (λr=>.str r.1) (λi0 r=>[.str r.2.did.method,.str r.2.did.iD,.int .i64 r.2.e]):=G5 (DX.eq_1 ..) Tryz.func59 rfl Tryz.ntmps59 Tryz.results59
instance ALy {a0 a1 a2}:CB vE (E9 N a0 a1 a2) 61 (λi0=>[.ptr i0 0,AP a1,.str a2]) (λi0=>[.str a0.did.method,.str a0.did.iD,.int .i64 a0.e]) (λr=>.slice 4 (List.map AP r.1) false) (λi0 r=>[.str r.2.did.method,.str r.2.did.iD,.int .i64 r.2.e]):=G5 (E9.eq_1 ..) Tryz.func61 rfl Tryz.ntmps61 Tryz.results61 [] true
instance ABw {a0 a1}:CB vE (Ch N a0 a1) 63 (λi0=>[.ptr i0 0,AP a1]) (λi0=>[.str a0.did.method,.str a0.did.iD,.int .i64 a0.e]) (λr=>.slice 1 (List.map AVal.str r.1) false) (λi0 r=>[.str r.2.did.method,.str r.2.did.iD,.int .i64 r.2.e]):=G5 (Ch.eq_1 ..) Tryz.func63 rfl Tryz.ntmps63 Tryz.results63
@[reducible,instance] def ANl {j3 k12 k s7 s0 bn6} := LC.mk (X := Gw N j3 k12 k s7 s0 bn6) (G := λk i (s : B8 × (List B8)) => Gw N j3 k12 k i s.1 s.2) (i := s7) (k := k) (s := (s0, bn6)) (js := [(8, 2), (22, 20)]) (cs := [0, 7]) (V := λi s => [.str s.1, .int .i64 i]) (Ms := λi s => [.s (List.map AVal.str s.2)]) rfl (λi s => Gw.eq_1 ..) (λk i s => Gw.eq_2 ..)
instance Ws {a0 a1}:CF vE (Ma N a0 a1) 298 [.str a0,.int .i64 a1] (λr=>.slice 1 (List.map AVal.str r) false):=AZ (Ma.eq_1 ..) Tryz.func298 rfl Tryz.ntmps298 Tryz.results298 [(2,[],.stop)]
def Wu {a0 a1 r} (h:Ma N a0 a1=some r) (ha:args=[.str a0,.int .i64 a1]) (hQ: ∀n',n<=n'->Gl (Q (.slice 1 (List.map AVal.str r) false) ⟨m,n'⟩)):ACall vE 298 args ⟨m,n⟩ Q:=ha▸Ws.go h hQ
instance AbX {a0}:CF vE (Lh N a0) 291 [.str a0] (λr=>.bool r):=AZ (Lh.eq_1 ..) Tryz.func291 rfl Tryz.ntmps291 Tryz.results291 [(1,[],.stop)]
instance Al3 {a0}:CF vE (RJ N a0) 274 [.int .u8 a0] (λr=>.bool r):=AZ (RJ.eq_1 ..) Tryz.func274 rfl Tryz.ntmps274 Tryz.results274 [(1,[],.stop)]
instance Aau {a0}:CF vE (GA N a0) 217 [Gv a0] (λr=>.str r):=AZ (GA.eq_1 ..) Tryz.func217 rfl Tryz.ntmps217 Tryz.results217 [(1,[],.take 0 (.take 4 (.alt 1 [4] (.alt 2 [4,0] (.take 3 (.alt 5 [3,0] (.take 6 (.alt 7 [] (.done) (.stop))) (.stop))) (.stop)) (.stop))))]
@[reducible,instance] def Aan {k2 xs s6} := LR.mk (X := Dq N k2 xs s6) (G := λxs i (s : Unit) => Dq N k2 xs i) (i := s6) (s := ()) (js := [(2, 2), (7, 26)]) (cs := [6]) (V := λi s => [.int .i64 i]) (Ms := λi s => []) rfl (λi s => Dq.eq_1 ..) (λx xs i s => Dq.eq_2 ..)
instance AiN {a0}:CF vE (LJ N a0) 277 [.str a0] (λr=>.bool r):=AZ (LJ.eq_1 ..) Tryz.func277 rfl Tryz.ntmps277 Tryz.results277 [(4,[],.stop)]
instance Tc {a0 a1}:CF vE (strings_TrimPrefix N a0 a1) 279 [.str a0,.str a1] (λr=>.str r):=AZ (strings_TrimPrefix.eq_1 ..) Tryz.func279 rfl Tryz.ntmps279 Tryz.results279
def TA {a0 a1 r} (h:strings_TrimPrefix N a0 a1=some r) (ha:args=[.str a0,.str a1]) (hQ: ∀n',n<=n'->Gl (Q (.str r) ⟨m,n'⟩)):ACall vE 279 args ⟨m,n⟩ Q:=ha▸Tc.go h hQ
instance Af2 {a0 a1}:CF vE (Lc N a0 a1) 92 [.str a0,.int .i64 a1] (λr=>.tuple [.int .u8 r.1,.bool r.2]):=AZ (Lc.eq_1 ..) Tryz.func92 rfl Tryz.ntmps92 Tryz.results92 [(1,[],.stop),(3,[],.take 0 (.take 1 (.take 2 (.take 3 (.take 6 (.take 7 (.take 8 (.take 9 (.alt 4 [9,8,7,6,2,1,0] (.take 5 (.alt 10 [5,8,7,6,3,2,1,0] (.take 11 (.alt 12 [] (.alt 13 [] (.done) (.stop)) (.stop))) (.stop))) (.stop))))))))))]
end Go.Proofs.YtjmejdocgdbklaaGreatDoor
