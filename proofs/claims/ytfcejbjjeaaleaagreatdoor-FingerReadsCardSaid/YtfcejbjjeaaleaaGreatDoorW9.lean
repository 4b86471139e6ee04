import Derived.Test.YtfcejbjjeaaleaaGreatDoorW6
set_option linter.unusedVariables false
set_option linter.unusedSimpArgs false
set_option maxHeartbeats 4000000
set_option maxRecDepth 100000
set_option linter.defProp false
namespace Go.Proofs.YtfcejbjjeaaleaaGreatDoor
open Go.VM
attribute [local irreducible] AB grd letL
variable{N n:Nat}{m:MS}{Q:PQ}{args:List AVal}
instance ATL {a0 a1 a2 a3 a4}:CB vE (GR N a0 a1 a2 a3 a4) 108 (λi0=>[.ptr i0 0,AV a1,.str a2,.int .i64 a3,.int .i64 a4]) (λi0=>[.int .i64 a0.e]) (λr=>AV r.1) (λi0 r=>[.int .i64 r.2.e]):=IB (GR.eq_1 ..) Tryz.func108 rfl Tryz.ntmps108 Tryz.results108 [(2,[],.stop)] true
instance Yw {a0 a1}:CF vE (Dz N a0 a1) 114 [.slice 4 (List.map BF a0) false,BF a1] (λr=>.bool r):=AX (Dz.eq_1 ..) Tryz.func114 rfl Tryz.ntmps114 Tryz.results114
@[reducible,instance] def Adl {a0 k2 k s1} := LF.mk (X := H8 N a0 k2 k s1) (G := λk (s : Int) => H8 N a0 k2 k s) (s := s1) (js := [(5, 12)]) (cs := [1]) (V := λs => [.int .i64 s]) (Ms := λs => []) rfl (λs => H8.eq_1 ..) (λk s => H8.eq_2 ..)
instance Ank {a0 a1}:CF vE (J6 N a0 a1) 127 [.str a0,.int .i64 a1] (λr=>.int .i64 r):=AX (J6.eq_1 ..) Tryz.func127 rfl Tryz.ntmps127 Tryz.results127 [(1,[],.stop)]
instance AdL {a0}:CF vE (NA N a0) 189 [.int .u8 a0] (λr=>.bool r):=AX (NA.eq_1 ..) Tryz.func189 rfl Tryz.ntmps189 Tryz.results189 [(1,[],.stop)]
@[reducible,instance] def AXY {a0 k7 k s7 s8} := LF.mk (X := Gz N a0 k7 k s7 s8) (G := λk (s : B8 × Int) => Gz N a0 k7 k s.1 s.2) (s := (s7, s8)) (js := [(4, 3), (9, 1), (22, 33)]) (cs := [7, 8]) (V := λs => [.str s.1, .int .i64 s.2]) (Ms := λs => []) rfl (λs => Gz.eq_1 ..) (λk s => Gz.eq_2 ..)
instance Ah3 {a0 a1}:CF vE (QE N a0 a1) 190 [.str a0,.int .i64 a1] (λr=>.tuple [.str r.1,.int .i64 r.2.1,.bool r.2.2]):=AX (QE.eq_1 ..) Tryz.func190 rfl Tryz.ntmps190 Tryz.results190 [(2,[],.stop)]
@[reducible,instance] def AeL {a0 k2 k s3} := LF.mk (X := Ff N a0 k2 k s3) (G := λk (s : Int) => Ff N a0 k2 k s) (s := s3) (js := [(4, 12)]) (cs := [3]) (V := λs => [.int .i64 s]) (Ms := λs => []) rfl (λs => Ff.eq_1 ..) (λk s => Ff.eq_2 ..)
instance Aoe {a0}:CF vE (KE N a0) 258 [.str a0] (λr=>.int .i64 r):=AX (KE.eq_1 ..) Tryz.func258 rfl Tryz.ntmps258 Tryz.results258 [(2,[],.stop)]
@[reducible,instance] def AS4 {k19 xs s4} := LQ.mk (X := Cm N k19 xs s4) (G := λxs i (s : Int) => Cm N k19 xs s) (s := s4) (js := [(22, 15)]) (cs := [4, 5]) (V := λi s => [.int .i64 s, .int .i64 i]) (Ms := λi s => []) (λ_ => rfl) (λi s => Cm.eq_1 ..) (λx xs i s => Cm.eq_2 ..)
instance Ab0 {a0}:CF vE (JF N a0) 224 [.str a0] (λr=>.int .i64 r):=AX (JF.eq_1 ..) Tryz.func224 rfl Tryz.ntmps224 Tryz.results224 [(1,[],.stop),(2,[],.stop)]
instance AkC {a0}:CF vE (Nw N a0) 226 [.int .u8 a0] (λr=>.bool r):=AX (Nw.eq_1 ..) Tryz.func226 rfl Tryz.ntmps226 Tryz.results226
instance Aea {a0}:CF vE (Im N a0) 293 [.int .i64 a0] (λr=>.tuple [.str r.1,.int .i64 r.2]):=AX (Im.eq_1 ..) Tryz.func293 rfl Tryz.ntmps293 Tryz.results293
instance AS8 {a0 a1 a2 a3}:CB vE (Ec N a0 a1 a2 a3) 122 (λi0=>[.ptr i0 0,AV a1,.str a2,.bool a3]) (λi0=>[.int .i64 a0.fail]) (λr=>.str r.1) (λi0 r=>[.int .i64 r.2.fail]):=IB (Ec.eq_1 ..) Tryz.func122 rfl Tryz.ntmps122 Tryz.results122 [(2,[],.stop)]
instance AS2 {a0 a1 a2 a3 a4}:CB vE (Fy N a0 a1 a2 a3 a4) 125 (λi0=>[.ptr i0 0,AV a1,.str a2,.int .i64 a3,.int .i64 a4]) (λi0=>[.int .i64 a0.fail]) (λr=>AV r.1) (λi0 r=>[.int .i64 r.2.fail]):=IB (Fy.eq_1 ..) Tryz.func125 rfl Tryz.ntmps125 Tryz.results125 [(9,[],.take 0 (.take 1 (.take 2 (.take 3 (.take 4 (.take 5 (.take 6 (.take 7 (.take 8 (.alt 9 [7,6] (.take 10 (.alt 11 [] (.done) (.stop))) (.stop)))))))))))] true
instance Akm {a0 a1}:CF vE (Q0 N a0 a1) 11 [Mw a0,Mw a1] (λr=>.bool r):=AX (Q0.eq_1 ..) Tryz.func11 rfl Tryz.ntmps11 Tryz.results11 [(1,[],.stop)]
instance Aj2 {a0 a1}:CF vE (strings_Cut N a0 a1) 112 [.str a0,.str a1] (λr=>.tuple [.str r.1,.str r.2.1,.bool r.2.2]):=AX (strings_Cut.eq_1 ..) Tryz.func112 rfl Tryz.ntmps112 Tryz.results112
instance AkB {a0 a1}:CF vE (Rb N a0 a1) 132 [.int .u8 a0,.str a1] (λr=>.bool r):=AX (Rb.eq_1 ..) Tryz.func132 rfl Tryz.ntmps132 Tryz.results132
instance AXw {a0 a1}:CF vE (JV N a0 a1) 274 [.str a0,.int .i64 a1] (λr=>.tuple [.int .u8 r.1,.bool r.2]):=AX (JV.eq_1 ..) Tryz.func274 rfl Tryz.ntmps274 Tryz.results274 [(1,[],.stop),(3,[],.take 0 (.take 1 (.take 2 (.take 3 (.take 6 (.take 7 (.take 8 (.take 9 (.alt 4 [9,8,7,6,2,1,0] (.take 5 (.alt 10 [5,8,7,6,3,2,1,0] (.take 11 (.alt 12 [] (.alt 13 [] (.done) (.stop)) (.stop))) (.stop))) (.stop))))))))))]
@[reducible,instance] def APB {j3 k12 k s7 s0 bn6} := LC.mk (X := Hf N j3 k12 k s7 s0 bn6) (G := λk i (s : B8 × (List B8)) => Hf N j3 k12 k i s.1 s.2) (i := s7) (k := k) (s := (s0, bn6)) (js := [(8, 2), (22, 20)]) (cs := [0, 7]) (V := λi s => [.str s.1, .int .i64 i]) (Ms := λi s => [.s (List.map AVal.str s.2)]) rfl (λi s => Hf.eq_1 ..) (λk i s => Hf.eq_2 ..)
instance Yb {a0 a1}:CF vE (NE N a0 a1) 318 [.str a0,.int .i64 a1] (λr=>.slice 1 (List.map AVal.str r) false):=AX (NE.eq_1 ..) Tryz.func318 rfl Tryz.ntmps318 Tryz.results318 [(2,[],.stop)]
def Yf {a0 a1 r} (h:NE N a0 a1=some r) (ha:args=[.str a0,.int .i64 a1]) (hQ: ∀n',n<=n'->Gl (Q (.slice 1 (List.map AVal.str r) false) ⟨m,n'⟩)):ACall vE 318 args ⟨m,n⟩ Q:=ha▸Yb.go h hQ
@[reducible,instance] def AVP {a1 k s0 s5} := LF.mk (X := JA N a1 k s0 s5) (G := λk (s : B8 × Int) => JA N a1 k s.1 s.2) (s := (s0, s5)) (js := [(4, 1), (6, 1), (20, 14)]) (cs := [0, 5]) (V := λs => [.str s.1, .int .i64 s.2]) (Ms := λs => []) rfl (λs => JA.eq_1 ..) (λk s => JA.eq_2 ..)
instance AAx {a0 a1}:CF vE (strings_Count N a0 a1) 319 [.str a0,.str a1] (λr=>.int .i64 r):=AX (strings_Count.eq_1 ..) Tryz.func319 rfl Tryz.ntmps319 Tryz.results319
def AA5 {a0 a1 r} (h:strings_Count N a0 a1=some r) (ha:args=[.str a0,.str a1]) (hQ: ∀n',n<=n'->Gl (Q (.int .i64 r) ⟨m,n'⟩)):ACall vE 319 args ⟨m,n⟩ Q:=ha▸AAx.go h hQ
@[reducible,instance] def YJ {k2 xs} := LQ.mk (X := BH N k2 xs) (G := λxs i (s : Unit) => BH N k2 xs) (s := ()) (js := [(8, 3), (19, 9)]) (cs := [18]) (V := λi s => [.int .i64 i]) (Ms := λi s => []) (λ_ => rfl) (λi s => BH.eq_1 ..) (λx xs i s => BH.eq_2 ..)
@[reducible,instance] def YZ {a1 a2 k9 xs s11} := LQ.mk (X := BG N a1 a2 k9 xs s11) (G := λxs i (s : Int) => BG N a1 a2 k9 xs s) (s := s11) (js := [(8, 2), (12, 2), (31, 27)]) (cs := [11, 30]) (V := λi s => [.int .u64 s, .int .i64 i]) (Ms := λi s => []) (λ_ => rfl) (λi s => BG.eq_1 ..) (λx xs i s => BG.eq_2 ..)
instance AAX {a0 a1 a2}:CF vE (GD N a0 a1 a2) 179 [.str a0,.int .u64 a1,.int .u64 a2,.fn (.func 180) [] []] (λr=>.tuple [.int .u64 r.1,.int .i64 r.2]):=AX (GD.eq_1 ..) Tryz.func179 rfl Tryz.ntmps179 Tryz.results179 [(14,[],.stop)]
instance Ahh {a0}:CF vE (ML N a0) 305 [.str a0] (λr=>.bool r):=AX (ML.eq_1 ..) Tryz.func305 rfl Tryz.ntmps305 Tryz.results305 [(1,[],.stop)]
@[reducible,instance] def AHj {a0 k8 k s175} := LF.mk (X := Cf N a0 k8 k s175) (G := λk (s : Nat) => Cf N a0 k8 k s) (s := s175) (js := [(4, 3), (176, 7)]) (cs := [175]) (V := λs => [.iter a0 s]) (Ms := λs => []) rfl (λs => Cf.eq_1 ..) (λk s => Cf.eq_2 ..)
@[reducible,instance] def AJV {a0 a1 j19 k29 k s12} := LC.mk (X := F9 N a0 a1 j19 k29 k s12) (G := λk i (s : Unit) => F9 N a0 a1 j19 k29 k i) (i := s12) (k := k) (s := ()) (js := [(48, 17)]) (cs := [12]) (V := λi s => [.int .i64 i]) (Ms := λi s => []) rfl (λi s => F9.eq_1 ..) (λk i s => F9.eq_2 ..)
@[reducible,instance] def AKx {a0 a1 k15 k s9} := LF.mk (X := Ch N a0 a1 k15 k s9) (G := λk (s : Int) => Ch N a0 a1 k15 k s) (s := s9) (js := [(4, 1), (10, 3), (23, 76)]) (cs := [9]) (V := λs => [.int .i64 s]) (Ms := λs => []) rfl (λs => Ch.eq_1 ..) (λk s => Ch.eq_2 ..)
instance AS3 {a0 a1}:CF vE (Dt N a0 a1) 306 [.str a0,.int .i32 a1] (λr=>.int .i64 r):=AX (Dt.eq_1 ..) Tryz.func306 rfl Tryz.ntmps306 Tryz.results306 [(34,[],.stop),(6,[],.take 0 (.take 1 (.take 2 (.take 3 (.take 4 (.take 5 (.take 6 (.done)))))))),(7,[],.take 0 (.take 1 (.take 2 (.take 3 (.take 4 (.take 5 (.take 6 (.alt 7 [5,4,2,1,0] (.alt 8 [] (.done) (.stop)) (.stop))))))))),(14,[],.take 0 (.take 1 (.take 2 (.take 3 (.take 4 (.take 5 (.take 6 (.take 7 (.take 8 (.take 9 (.take 10 (.done)))))))))))),(18,[],.stop),(27,[],.stop),(31,[],.take 0 (.take 1 (.take 2 (.take 3 (.take 4 (.take 5 (.take 6 (.take 7 (.take 8 (.take 9 (.take 10 (.done))))))))))))]
instance AoL {a0}:CF vE (SX N a0) 277 [.int .u8 a0] (λr=>.bool r):=AX (SX.eq_1 ..) Tryz.func277 rfl Tryz.ntmps277 Tryz.results277 [(1,[],.stop)]
instance AdV {a0}:CF vE (FL N a0) 35 [FK a0] (λr=>.str r):=AX (FL.eq_1 ..) Tryz.func35 rfl Tryz.ntmps35 Tryz.results35 [(1,[],.take 0 (.take 4 (.alt 1 [4] (.alt 2 [4,0] (.take 3 (.alt 5 [3,0] (.take 6 (.alt 7 [] (.done) (.stop))) (.stop))) (.stop)) (.stop))))]
instance ATQ {a0 a1}:CF vE (strings_CutPrefix N a0 a1) 252 [.str a0,.str a1] (λr=>.tuple [.str r.1,.bool r.2]):=AX (strings_CutPrefix.eq_1 ..) Tryz.func252 rfl Tryz.ntmps252 Tryz.results252
@[reducible,instance] def AdX {k2 xs s6} := LR.mk (X := Dv N k2 xs s6) (G := λxs i (s : Unit) => Dv N k2 xs i) (i := s6) (s := ()) (js := [(2, 2), (7, 26)]) (cs := [6]) (V := λi s => [.int .i64 i]) (Ms := λi s => []) rfl (λi s => Dv.eq_1 ..) (λx xs i s => Dv.eq_2 ..)
instance AnH {a0}:CF vE (Lu N a0) 280 [.str a0] (λr=>.bool r):=AX (Lu.eq_1 ..) Tryz.func280 rfl Tryz.ntmps280 Tryz.results280 [(4,[],.stop)]
instance AUP {a0 a1}:CF vE (strings_Contains N a0 a1) 249 [.str a0,.str a1] (λr=>.bool r):=AX (strings_Contains.eq_1 ..) Tryz.func249 rfl Tryz.ntmps249 Tryz.results249
instance UU {a0 a1}:CF vE (strings_TrimPrefix N a0 a1) 283 [.str a0,.str a1] (λr=>.str r):=AX (strings_TrimPrefix.eq_1 ..) Tryz.func283 rfl Tryz.ntmps283 Tryz.results283
def UG {a0 a1 r} (h:strings_TrimPrefix N a0 a1=some r) (ha:args=[.str a0,.str a1]) (hQ: ∀n',n<=n'->Gl (Q (.str r) ⟨m,n'⟩)):ACall vE 283 args ⟨m,n⟩ Q:=ha▸UU.go h hQ
end Go.Proofs.YtfcejbjjeaaleaaGreatDoor
