import Derived.Test.YtfcejbjjeaaleaaGreatDoorW0
import Derived.Test.YtfcejbjjeaaleaaGreatDoorW2
set_option linter.unusedVariables false
set_option linter.unusedSimpArgs false
set_option maxHeartbeats 4000000
set_option maxRecDepth 100000
set_option linter.defProp false
namespace Go.Proofs.YtfcejbjjeaaleaaGreatDoor
open Go.VM
attribute [local irreducible] AB grd letL
variable{N n:Nat}{m:MS}{Q:PQ}{args:List AVal}
instance ACC {a0 a1}:CF vE (Hu N a0 a1) 173 [.str a0,.str a1] (λr=>.tuple [.str r.1,.str r.2.1,.bool r.2.2]):=AX (Hu.eq_1 ..) Tryz.func173 rfl Tryz.ntmps173 Tryz.results173 [(3,[],.take 0 (.take 1 (.take 2 (.take 3 (.take 4 (.take 5 (.take 6 (.take 7 (.take 8 (.alt 9 [8,7,6,5,4,3] (.alt 10 [] (.alt 11 [] (.done) (.stop)) (.stop)) (.stop)))))))))))]
instance AkG {a0 a1}:CF vE (Jm N a0 a1) 154 [.str a0,.str a1] (λr=>.bool r):=AX (Jm.eq_1 ..) Tryz.func154 rfl Tryz.ntmps154 Tryz.results154
instance AkA {a0}:CF vE (Rf N a0) 131 [.int .u8 a0] (λr=>.bool r):=AX (Rf.eq_1 ..) Tryz.func131 rfl Tryz.ntmps131 Tryz.results131 [(1,[],.stop)]
instance Vs {a0 a1}:CF vE (strings_IndexByte N a0 a1) 75 [.str a0,.int .u8 a1] (λr=>.int .i64 r):=AX (strings_IndexByte.eq_1 ..) Tryz.func75 rfl Tryz.ntmps75 Tryz.results75
def Vq {a0 a1 r} (h:strings_IndexByte N a0 a1=some r) (ha:args=[.str a0,.int .u8 a1]) (hQ: ∀n',n<=n'->Gl (Q (.int .i64 r) ⟨m,n'⟩)):ACall vE 75 args ⟨m,n⟩ Q:=ha▸Vs.go h hQ
instance Ajs {a0}:CF vE (Lt N a0) 302 [.int .u8 a0] (λr=>.bool r):=AX (Lt.eq_1 ..) Tryz.func302 rfl Tryz.ntmps302 Tryz.results302 [(1,[],.stop)]
instance AdY {a0}:CF vE (LJ N a0) 303 [.int .u8 a0] (λr=>.int .u8 r):=AX (LJ.eq_1 ..) Tryz.func303 rfl Tryz.ntmps303 Tryz.results303
instance AAv {a0 a1}:CF vE (strings_Index N a0 a1) 281 [.str a0,.str a1] (λr=>.int .i64 r):=AX (strings_Index.eq_1 ..) Tryz.func281 rfl Tryz.ntmps281 Tryz.results281
def AA7 {a0 a1 r} (h:strings_Index N a0 a1=some r) (ha:args=[.str a0,.str a1]) (hQ: ∀n',n<=n'->Gl (Q (.int .i64 r) ⟨m,n'⟩)):ACall vE 281 args ⟨m,n⟩ Q:=ha▸AAv.go h hQ
instance XU {a0}:CF vE (Cb N a0) 298 [.str a0] (λr=>.tuple [.int .i32 r.1,.int .i64 r.2]):=AX (Cb.eq_1 ..) Tryz.func298 rfl Tryz.ntmps298 Tryz.results298 [(1,[],.stop)]
instance AjB {a0}:CF vE (MN N a0) 222 [.int .u8 a0] (λr=>.int .u64 r):=AX (MN.eq_1 ..) Tryz.func222 rfl Tryz.ntmps222 Tryz.results222
@[reducible,instance] def Yv {k2 xs} := LQ.mk (X := BL N k2 xs) (G := λxs i (s : Unit) => BL N k2 xs) (s := ()) (js := [(4, 2), (9, 9)]) (cs := [8]) (V := λi s => [.int .i64 i]) (Ms := λi s => []) (λ_ => rfl) (λi s => BL.eq_1 ..) (λx xs i s => BL.eq_2 ..)
instance AAw {a0}:CF vE (GV N a0) 316 [.str a0,.fn (.func 180) [] []] (λr=>.bool r):=AX (GV.eq_1 ..) Tryz.func316 rfl Tryz.ntmps316 Tryz.results316
@[reducible,instance] def Adp {k8 xs} := LQ.mk (X := Hw N k8 xs) (G := λxs i (s : Unit) => Hw N k8 xs) (s := ()) (js := [(2, 2), (27, 21)]) (cs := [26]) (V := λi s => [.int .i64 i]) (Ms := λi s => []) (λ_ => rfl) (λi s => Hw.eq_1 ..) (λx xs i s => Hw.eq_2 ..)
instance Ang {a0}:CF vE (Qm N a0) 304 [.str a0] (λr=>.bool r):=AX (Qm.eq_1 ..) Tryz.func304 rfl Tryz.ntmps304 Tryz.results304 [(1,[],.stop),(6,[],.stop)]
instance Aj4 {a0}:CF vE (PH N a0) 77 [FT a0] (λr=>.str r):=AX (PH.eq_1 ..) Tryz.func77 rfl Tryz.ntmps77 Tryz.results77 [(4,[],.take 0 (.take 1 (.take 2 (.take 3 (.take 4 (.take 5 (.take 6 (.alt 7 [5,4,3,2,1,0] (.take 8 (.alt 9 [] (.done) (.stop))) (.stop))))))))),(5,[],.take 0 (.take 1 (.take 2 (.take 3 (.take 4 (.take 5 (.alt 6 [4,3,2,1,0] (.take 7 (.alt 8 [] (.done) (.stop))) (.stop))))))))]
instance Xe {a0 a1}:CF vE (Ex N a0 a1) 285 [.str a0,.str a1] (λr=>.tuple [.str r.1,.bool r.2]):=AX (Ex.eq_1 ..) Tryz.func285 rfl Tryz.ntmps285 Tryz.results285
instance Vn {a0 a1}:CF vE (strings_HasPrefix N a0 a1) 272 [.str a0,.str a1] (λr=>.bool r):=AX (strings_HasPrefix.eq_1 ..) Tryz.func272 rfl Tryz.ntmps272 Tryz.results272
def KD {a0 a1 r} (h:strings_HasPrefix N a0 a1=some r) (ha:args=[.str a0,.str a1]) (hQ: ∀n',n<=n'->Gl (Q (.bool r) ⟨m,n'⟩)):ACall vE 272 args ⟨m,n⟩ Q:=ha▸Vn.go h hQ
instance XR {a0 a1}:CF vE (Ej N a0 a1) 309 [.str a0,.str a1] (λr=>.str r):=AX (Ej.eq_1 ..) Tryz.func309 rfl Tryz.ntmps309 Tryz.results309
instance SI {a0 a1}:CF vE (strings_LastIndexByte N a0 a1) 284 [.str a0,.int .u8 a1] (λr=>.int .i64 r):=AX (strings_LastIndexByte.eq_1 ..) Tryz.func284 rfl Tryz.ntmps284 Tryz.results284
def Sg {a0 a1 r} (h:strings_LastIndexByte N a0 a1=some r) (ha:args=[.str a0,.int .u8 a1]) (hQ: ∀n',n<=n'->Gl (Q (.int .i64 r) ⟨m,n'⟩)):ACall vE 284 args ⟨m,n⟩ Q:=ha▸SI.go h hQ
@[reducible,instance] def AdZ {k2 xs} := LQ.mk (X := Hy N k2 xs) (G := λxs i (s : Unit) => Hy N k2 xs) (s := ()) (js := [(2, 2), (7, 20)]) (cs := [6]) (V := λi s => [.int .i64 i]) (Ms := λi s => []) (λ_ => rfl) (λi s => Hy.eq_1 ..) (λx xs i s => Hy.eq_2 ..)
instance Amv {a0}:CF vE (QY N a0) 253 [.str a0] (λr=>.bool r):=AX (QY.eq_1 ..) Tryz.func253 rfl Tryz.ntmps253 Tryz.results253 [(4,[],.stop)]
instance AAd {a0 a1}:CB vE (AQ N a0 a1) 156 (λi0=>[.ptr i0 0,.str a1]) (λi0=>[Kh i0 210 2 a0.addr,.buf 5 a0.buf true]) (λr=>.tuple [.int .i64 r.1,.nilIface]) (λi0 r=>[Kh i0 210 2 r.2.2.addr,.buf 5 r.2.2.buf true]):=IB (AQ.eq_1 ..) Tryz.func156 rfl Tryz.ntmps156 Tryz.results156 [(2,[12],.done)]
instance AS7 {a0 a1}:CF vE (strings_HasSuffix N a0 a1) 255 [.str a0,.str a1] (λr=>.bool r):=AX (strings_HasSuffix.eq_1 ..) Tryz.func255 rfl Tryz.ntmps255 Tryz.results255
instance Adg {a0}:CF vE (Jz N a0) 80 [.int .i64 a0] (λr=>.str r):=AX (Jz.eq_1 ..) Tryz.func80 rfl Tryz.ntmps80 Tryz.results80
@[reducible,instance] def Adc {k2 xs} := LQ.mk (X := I5 N k2 xs) (G := λxs i (s : Unit) => I5 N k2 xs) (s := ()) (js := [(2, 1), (4, 1), (11, 8)]) (cs := [10]) (V := λi s => [.int .i64 i]) (Ms := λi s => []) (λ_ => rfl) (λi s => I5.eq_1 ..) (λx xs i s => I5.eq_2 ..)
instance Am3 {a0}:CF vE (Qj N a0) 7 [.slice 9 (List.map Ep a0) false] (λr=>.bool r):=AX (Qj.eq_1 ..) Tryz.func7 rfl Tryz.ntmps7 Tryz.results7
@[reducible,instance] def Aai {a1 k2 xs s5} := LR.mk (X := EL N a1 k2 xs s5) (G := λxs i (s : Unit) => EL N a1 k2 xs i) (i := s5) (s := ()) (js := [(4, 1), (6, 12)]) (cs := [5]) (V := λi s => [.int .i64 i]) (Ms := λi s => []) rfl (λi s => EL.eq_1 ..) (λx xs i s => EL.eq_2 ..)
instance AkT {a0 a1}:CF vE (Be N a0 a1) 39 [.str a0,.str a1] (λr=>.int .i64 r):=AX (Be.eq_1 ..) Tryz.func39 rfl Tryz.ntmps39 Tryz.results39
instance AkJ {a0 a1}:CF vE (Jo N a0 a1) 82 [.str a0,.str a1] (λr=>.bool r):=AX (Jo.eq_1 ..) Tryz.func82 rfl Tryz.ntmps82 Tryz.results82
instance AQ9 {a0}:CF vE (EA N a0) 85 [.int .u8 a0] (λr=>.bool r):=AX (EA.eq_1 ..) Tryz.func85 rfl Tryz.ntmps85 Tryz.results85 [(1,[],.stop)]
instance AkX {a0}:CF vE (Iq N a0) 194 [.int .u8 a0] (λr=>.bool r):=AX (Iq.eq_1 ..) Tryz.func194 rfl Tryz.ntmps194 Tryz.results194 [(1,[],.stop)]
@[reducible,instance] def AaE {k2 xs} := LQ.mk (X := Gi N k2 xs) (G := λxs i (s : Unit) => Gi N k2 xs) (s := ()) (js := [(2, 1), (4, 24)]) (cs := [3]) (V := λi s => [.int .i64 i]) (Ms := λi s => []) (λ_ => rfl) (λi s => Gi.eq_1 ..) (λx xs i s => Gi.eq_2 ..)
instance AkF {a0}:CF vE (PT N a0) 196 [.str a0] (λr=>.bool r):=AX (PT.eq_1 ..) Tryz.func196 rfl Tryz.ntmps196 Tryz.results196 [(4,[],.stop),(6,[],.stop)]
@[reducible,instance] def AXW {k2 xs} := LQ.mk (X := FW N k2 xs) (G := λxs i (s : Unit) => FW N k2 xs) (s := ()) (js := [(2, 1), (4, 11)]) (cs := [3]) (V := λi s => [.int .i64 i]) (Ms := λi s => []) (λ_ => rfl) (λi s => FW.eq_1 ..) (λx xs i s => FW.eq_2 ..)
instance AhF {a0}:CF vE (OD N a0) 197 [.str a0] (λr=>.bool r):=AX (OD.eq_1 ..) Tryz.func197 rfl Tryz.ntmps197 Tryz.results197
instance Ano {a0}:CF vE (QX N a0) 142 [.int .u8 a0] (λr=>.bool r):=AX (QX.eq_1 ..) Tryz.func142 rfl Tryz.ntmps142 Tryz.results142 [(1,[],.stop)]
end Go.Proofs.YtfcejbjjeaaleaaGreatDoor
