import Derived.Test.YtfcejbjjeaaleaaGreatDoorVmFacts
import Derived.Test.YtfcejbjjeaaleaaGreatDoorDefs
import Derived.Test.YtfcejbjjeaaleaaGreatDoorVM7
set_option linter.unusedVariables false
set_option linter.unusedSimpArgs false
set_option maxHeartbeats 4000000
set_option maxRecDepth 100000
set_option linter.defProp false
namespace Go.Proofs.YtfcejbjjeaaleaaGreatDoor
open Go.VM
attribute [local irreducible] AB grd letL
variable{N n:Nat}{m:MS}{Q:PQ}{args:List AVal}
instance AjK {a0}:CF vE (OW N a0) 38 [FK a0] (λr=>.str r):=AX (OW.eq_1 ..) Tryz.func38 rfl Tryz.ntmps38 Tryz.results38
@[reducible,instance] def Afz {k2 xs} := LQ.mk (X := Ip N k2 xs) (G := λxs i (s : Unit) => Ip N k2 xs) (s := ()) (js := [(2, 1), (4, 1), (13, 12)]) (cs := [12]) (V := λi s => [.int .i64 i]) (Ms := λi s => []) (λ_ => rfl) (λi s => Ip.eq_1 ..) (λx xs i s => Ip.eq_2 ..)
instance AoJ {a0}:CF vE (R7 N a0) 5 [MH a0] (λr=>.bool r):=AX (R7.eq_1 ..) Tryz.func5 rfl Tryz.ntmps5 Tryz.results5
instance Arr {a0}:CF vE (YX N a0) 6 [BF a0] (λr=>.bool r):=AX (YX.eq_1 ..) Tryz.func6 rfl Tryz.ntmps6 Tryz.results6
instance ArA {a0}:CF vE (Xb N a0) 15 [FK a0] (λr=>.bool r):=AX (Xb.eq_1 ..) Tryz.func15 rfl Tryz.ntmps15 Tryz.results15
@[reducible,instance] def Ajn {a0 k2 xs} := LQ.mk (X := Gy N a0 k2 xs) (G := λxs i (s : Unit) => Gy N a0 k2 xs) (s := ()) (js := [(4, 1), (6, 11)]) (cs := [5]) (V := λi s => [.int .i64 i]) (Ms := λi s => []) (λ_ => rfl) (λi s => Gy.eq_1 ..) (λx xs i s => Gy.eq_2 ..)
instance App {a0 a1}:CF vE (FU N a0 a1) 81 [.int .u8 a0,.str a1] (λr=>.bool r):=AX (FU.eq_1 ..) Tryz.func81 rfl Tryz.ntmps81 Tryz.results81
@[reducible,instance] def AbO {a0 k2 xs s9 bn} := LR.mk (X := Gs N a0 k2 xs s9 bn) (G := λxs i (s : (List Int)) => Gs N a0 k2 xs i s) (i := s9) (s := bn) (js := [(4, 1), (10, 21)]) (cs := [9]) (V := λi s => [.int .i64 i]) (Ms := λi s => [.s (List.map (AVal.int .u8) s)]) rfl (λi s => Gs.eq_1 ..) (λx xs i s => Gs.eq_2 ..)
instance Ake {a0}:CF vE (G5 N a0) 40 [.str a0] (λr=>.str r):=AX (G5.eq_1 ..) Tryz.func40 rfl Tryz.ntmps40 Tryz.results40 [(5,[],.stop)]
instance AdM {a0}:CF vE (ER N a0) 139 [.int .u8 a0] (λr=>.bool r):=AX (ER.eq_1 ..) Tryz.func139 rfl Tryz.ntmps139 Tryz.results139 [(1,[],.stop)]
instance Adb {a0}:CF vE (Bu N a0) 140 [.int .u8 a0] (λr=>.bool r):=AX (Bu.eq_1 ..) Tryz.func140 rfl Tryz.ntmps140 Tryz.results140 [(1,[],.stop)]
instance AkH {a0}:CF vE (Nf N a0) 195 [.int .u8 a0] (λr=>.int .u8 r):=AX (Nf.eq_1 ..) Tryz.func195 rfl Tryz.ntmps195 Tryz.results195
instance AiB {a0}:CF vE (Jp N a0) 137 [.int .u8 a0] (λr=>.str r):=AX (Jp.eq_1 ..) Tryz.func137 rfl Tryz.ntmps137 Tryz.results137 [(1,[],.take 0 (.take 1 (.take 2 (.take 3 (.take 4 (.take 5 (.take 6 (.alt 7 [5,4,3,2,1,0] (.alt 8 [] (.done) (.stop)) (.stop)))))))))]
@[reducible,instance] def Aae {a0 a1 k2 xs s7 s5 s6} := LR.mk (X := GQ N a0 a1 k2 xs s7 s5 s6) (G := λxs i (s : (List B8) × Int) => GQ N a0 a1 k2 xs i s.1 s.2) (i := s7) (s := (s5, s6)) (js := [(8, 20)]) (cs := [5, 6, 7]) (V := λi s => [.slice 1 (List.map AVal.str s.1) true, .int .i64 s.2, .int .i64 i]) (Ms := λi s => []) rfl (λi s => GQ.eq_1 ..) (λx xs i s => GQ.eq_2 ..)
instance Ajw {a0 a1}:CF vE (IL N a0 a1) 141 [.str a0,.int .u8 a1] (λr=>.slice 1 (List.map AVal.str r) true):=AX (IL.eq_1 ..) Tryz.func141 rfl Tryz.ntmps141 Tryz.results141 [(7,[19],.done),(8,[28],.done)]
instance Aex {a0}:CF vE (OY N a0) 42 [Qv a0] (λr=>.str r):=AX (OY.eq_1 ..) Tryz.func42 rfl Tryz.ntmps42 Tryz.results42
instance Aez {a0 a1}:CF vE (GX N a0 a1) 147 [.str a0,.str a1] (λr=>.bool r):=AX (GX.eq_1 ..) Tryz.func147 rfl Tryz.ntmps147 Tryz.results147 [(1,[],.stop)]
@[reducible,instance] def AWQ {a0 k2 k s3} := LF.mk (X := FC N a0 k2 k s3) (G := λk (s : Int) => FC N a0 k2 k s) (s := s3) (js := [(2, 1), (7, 11)]) (cs := [3]) (V := λs => [.int .i64 s]) (Ms := λs => []) rfl (λs => FC.eq_1 ..) (λk s => FC.eq_2 ..)
instance AdW {a0}:CF vE (LP N a0) 200 [.str a0] (λr=>.str r):=AX (LP.eq_1 ..) Tryz.func200 rfl Tryz.ntmps200 Tryz.results200
instance AXq {a0}:CF vE (FX N a0) 94 [Gv a0] (λr=>.str r):=AX (FX.eq_1 ..) Tryz.func94 rfl Tryz.ntmps94 Tryz.results94
instance AbG {a0 a1}:CB vE (KS N a0 a1) 48 (λi0=>[.ptr i0 0,.int .i64 a1]) (λi0=>[.slice 1 (List.map (AVal.int .u8) a0.l) false]) (λr=>.int .i64 r.1) (λi0 r=>[.slice 1 (List.map (AVal.int .u8) r.2.l) false]):=IB (KS.eq_1 ..) Tryz.func48 rfl Tryz.ntmps48 Tryz.results48 [(1,[],.stop)]
def AVl {a0 r} (h:Uw N a0=some r) (ha:args=[.slice 1 (List.map (AVal.int .u8) a0) false]) (hQ: ∀i n',n<=i->i<n'->Gl (Q (.ptr i 0) ⟨(i,[.slice 1 (List.map (AVal.int .u8) r.l) false])::m,n'⟩)):ACall vE 18 args ⟨m,n⟩ Q:=by rw[Uw]at h;subst ha;refine AeV Tryz.func18 rfl Tryz.ntmps18 Tryz.results18 (.q (.r []) (.q (.r []) .z)) λR hR=>?_;replace h:=ac trivial h;obtain⟨x1,h⟩:=Fx h;obtain⟨H,h⟩:=h;cases h;simp(disch:= omega) only[vm,seval,H];refine⟨(hR _ _ [.ptr n 0] ((n,[.slice 1 (List.map (AVal.int .u8) x1) false])::m) _ (n+1) (by first| (simp(disch:= omega) only[vm,seval,H];done)| (simp(disch:= omega) only[vm,seval,H];rfl)) slr fG (hQ (n) (n+1) fG fG).go).1⟩
instance ArQ {a0}:CN vE (Uw N a0) 18 [.slice 1 (List.map (AVal.int .u8) a0) false] (λi=>.ptr i 0) (λr i=>[.slice 1 (List.map (AVal.int .u8) r.l) false]):=⟨λh hQ=>AVl h rfl hQ⟩
instance Adw {a0}:CF vE (O5 N a0) 19 [.int .i64 a0] (λr=>.int .i64 r):=AX (O5.eq_1 ..) Tryz.func19 rfl Tryz.ntmps19 Tryz.results19
instance ANu {a0}:CB vE (Ad N a0) 102 (λi0=>[.ptr i0 0]) (λi0=>[.str a0.s,.int .i64 a0.at_]) (λr=>.bool r.1) (λi0 r=>[.str r.2.s,.int .i64 r.2.at_]):=IB (Ad.eq_1 ..) Tryz.func102 rfl Tryz.ntmps102 Tryz.results102 [(1,[],.take 0 (.take 1 (.take 2 (.take 3 (.take 4 (.take 5 (.take 6 (.take 7 (.take 8 (.take 9 (.alt 10 [] (.done) (.stop))))))))))))]
instance AEc {a0}:CF vE (GY N a0) 160 [.int .u8 a0] (λr=>.bool r):=AX (GY.eq_1 ..) Tryz.func160 rfl Tryz.ntmps160 Tryz.results160 [(1,[],.stop)]
instance AX2 {a0}:CF vE (K6 N a0) 204 [.int .u8 a0] (λr=>.bool r):=AX (K6.eq_1 ..) Tryz.func204 rfl Tryz.ntmps204 Tryz.results204 [(1,[],.stop)]
instance AkM {a0}:CF vE (PW N a0) 164 [.int .u8 a0] (λr=>.bool r):=AX (PW.eq_1 ..) Tryz.func164 rfl Tryz.ntmps164 Tryz.results164 [(1,[],.stop)]
instance Zx {a0}:CF vE (IQ N a0) 295 [.int .i64 a0] (λr=>.bool r):=AX (IQ.eq_1 ..) Tryz.func295 rfl Tryz.ntmps295 Tryz.results295 [(1,[],.stop)]
def R9 {a0 r} (h:IQ N a0=some r) (ha:args=[.int .i64 a0]) (hQ: ∀n',n<=n'->Gl (Q (.bool r) ⟨m,n'⟩)):ACall vE 295 args ⟨m,n⟩ Q:=ha▸Zx.go h hQ
instance ATF {a0}:CB vE (Lh N a0) 264 (λi0=>[.ptr i0 0]) (λi0=>[.str a0.s,.int .i64 a0.at_]) (λr=>.int .u8 r.1) (λi0 r=>[.str r.2.s,.int .i64 r.2.at_]):=IB (Lh.eq_1 ..) Tryz.func264 rfl Tryz.ntmps264 Tryz.results264 [(1,[],.take 0 (.take 1 (.take 2 (.take 3 (.take 4 (.take 5 (.take 6 (.take 7 (.take 8 (.take 9 (.done))))))))))),(2,[],.take 0 (.take 1 (.take 2 (.take 3 (.take 4 (.take 5 (.take 6 (.take 7 (.take 8 (.alt 9 [] (.done) (.stop)))))))))))]
instance ABD {a0}:CF vE (Mr N a0) 208 [El a0] (λr=>.bool r):=AX (Mr.eq_1 ..) Tryz.func208 rfl Tryz.ntmps208 Tryz.results208 [(6,[],.stop)]
def AA8 {a0 r} (h:Mr N a0=some r) (ha:args=[El a0]) (hQ: ∀n',n<=n'->Gl (Q (.bool r) ⟨m,n'⟩)):ACall vE 208 args ⟨m,n⟩ Q:=ha▸ABD.go h hQ
@[reducible,instance] def ADy {a1 k2 k s0} := LF.mk (X := CQ N a1 k2 k s0) (G := λk (s : B8) => CQ N a1 k2 k s) (s := s0) (js := [(5, 11)]) (cs := [0]) (V := λs => [.str s]) (Ms := λs => []) rfl (λs => CQ.eq_1 ..) (λk s => CQ.eq_2 ..)
instance AHh {a0 a1}:CF vE (strings_trimLeftByte N a0 a1) 265 [.str a0,.int .u8 a1] (λr=>.str r):=AX (strings_trimLeftByte.eq_1 ..) Tryz.func265 rfl Tryz.ntmps265 Tryz.results265 [(1,[],.stop)]
@[reducible,instance] def ABx {a1 k2 k s0} := LF.mk (X := Bt N a1 k2 k s0) (G := λk (s : B8) => Bt N a1 k2 k s) (s := s0) (js := [(5, 17)]) (cs := [0]) (V := λs => [.str s]) (Ms := λs => []) rfl (λs => Bt.eq_1 ..) (λk s => Bt.eq_2 ..)
instance AFp {a0 a1}:CF vE (strings_trimRightByte N a0 a1) 269 [.str a0,.int .u8 a1] (λr=>.str r):=AX (strings_trimRightByte.eq_1 ..) Tryz.func269 rfl Tryz.ntmps269 Tryz.results269 [(1,[],.stop)]
instance AEQ {a0}:CF vE (Kr N a0) 315 [.int .u8 a0] (λr=>.bool r):=AX (Kr.eq_1 ..) Tryz.func315 rfl Tryz.ntmps315 Tryz.results315
instance AWD {a0 a1}:CB vE (F5 N a0 a1) 171 (λi0=>[.ptr i0 0,.int .i64 a1]) (λi0=>[.int .i64 a0.e]) (λr=>.tuple []) (λi0 r=>[.int .i64 r.e]):=IB (F5.eq_1 ..) Tryz.func171 rfl Tryz.ntmps171 Tryz.results171
@[reducible,instance] def AYR {a0 a1 k2 xs s11} := LR.mk (X := EQ N a0 a1 k2 xs s11) (G := λxs i (s : Unit) => EQ N a0 a1 k2 xs i) (i := s11) (s := ()) (js := [(5, 3), (12, 25)]) (cs := [11]) (V := λi s => [.int .i64 i]) (Ms := λi s => []) rfl (λi s => EQ.eq_1 ..) (λx xs i s => EQ.eq_2 ..)
instance AkD {a0 a1}:CF vE (Ls N a0 a1) 170 [AV a0,.str a1] (λr=>.tuple [AV r.1,.bool r.2]):=AX (Ls.eq_1 ..) Tryz.func170 rfl Tryz.ntmps170 Tryz.results170 [(4,[],.stop)] true
instance Ao4 {a0}:CF vE (Sa N a0) 172 [AV a0] (λr=>.int .i64 r):=AX (Sa.eq_1 ..) Tryz.func172 rfl Tryz.ntmps172 Tryz.results172
@[reducible,instance] def AkY {a1 k2 xs s5} := LQ.mk (X := Ir N a1 k2 xs s5) (G := λxs i (s : (List ApiLink)) => Ir N a1 k2 xs s) (s := s5) (js := [(7, 1), (12, 20)]) (cs := [5, 11]) (V := λi s => [.slice 6 (List.map EG s) true, .int .i64 i]) (Ms := λi s => []) (λ_ => rfl) (λi s => Ir.eq_1 ..) (λx xs i s => Ir.eq_2 ..)
instance ApS {a0 a1}:CF vE (Xl N a0 a1) 57 [MV a0,.str a1] (λr=>.slice 6 (List.map EG r) false):=AX (Xl.eq_1 ..) Tryz.func57 rfl Tryz.ntmps57 Tryz.results57 [(8,[27],.done)]
@[reducible,instance] def Yx {a1 k2 xs s8_0} := LR.mk (X := BM N a1 k2 xs s8_0) (G := λxs i (s : Unit) => BM N a1 k2 xs i) (i := s8_0) (s := ()) (js := [(4, 2), (9, 10)]) (cs := [8]) (V := λi s => [.int .i64 i]) (Ms := λi s => []) rfl (λi s => BM.eq_1 ..) (λx xs i s => BM.eq_2 ..)
instance ABC {a0 a1}:CF vE (Gd N a0 a1) 178 [.slice 4 (List.map BF a0) false,BF a1] (λr=>.int .i64 r):=AX (Gd.eq_1 ..) Tryz.func178 rfl Tryz.ntmps178 Tryz.results178 [(4,[],.take 0 (.take 1 (.take 2 (.take 3 (.take 4 (.take 5 (.done)))))))]
instance Am8 {a0 a1}:CF vE (Q3 N a0 a1) 62 [.int .u64 a0,.int .u64 a1] (λr=>.int .u64 r):=AX (Q3.eq_1 ..) Tryz.func62 rfl Tryz.ntmps62 Tryz.results62
instance Ado {a0}:CF vE (O8 N a0) 26 [.int .i64 a0] (λr=>.int .i64 r):=AX (O8.eq_1 ..) Tryz.func26 rfl Tryz.ntmps26 Tryz.results26
instance Ajv {a0}:CF vE (Pk N a0) 188 [.int .u8 a0] (λr=>.bool r):=AX (Pk.eq_1 ..) Tryz.func188 rfl Tryz.ntmps188 Tryz.results188 [(1,[],.stop)]
instance AWr {a0}:CF vE (K5 N a0) 228 [.int .u8 a0] (λr=>.bool r):=AX (K5.eq_1 ..) Tryz.func228 rfl Tryz.ntmps228 Tryz.results228 [(1,[],.stop)]
instance ATP {a0 a1 a2}:CB vE (BC N a0 a1 a2) 121 (λi0=>[.ptr i0 0,.int .i64 a1,.int .i64 a2]) (λi0=>[.str a0.s,.int .i64 a0.at_,.int .i64 a0.nodes,.int .i64 a0.fail,.int .i64 a0.where_]) (λr=>.tuple []) (λi0 r=>[.str r.s,.int .i64 r.at_,.int .i64 r.nodes,.int .i64 r.fail,.int .i64 r.where_]):=IB (BC.eq_1 ..) Tryz.func121 rfl Tryz.ntmps121 Tryz.results121
instance Aqy {a0 a1}:CF vE (IR N a0 a1) 181 [El a0,.str a1] (λr=>.bool r):=AX (IR.eq_1 ..) Tryz.func181 rfl Tryz.ntmps181 Tryz.results181 [(1,[],.stop)]
instance AlJ {a0 a1}:CF vE (Kz N a0 a1) 225 [.str a0,.int .i64 a1] (λr=>.str r):=AX (Kz.eq_1 ..) Tryz.func225 rfl Tryz.ntmps225 Tryz.results225
instance Amz {a0}:CF vE (Ow N a0) 183 [.str a0] (λr=>.int .i64 r):=AX (Ow.eq_1 ..) Tryz.func183 rfl Tryz.ntmps183 Tryz.results183
instance AkS {a0}:CF vE (Nz N a0) 313 [.int .i64 a0] (λr=>.bool r):=AX (Nz.eq_1 ..) Tryz.func313 rfl Tryz.ntmps313 Tryz.results313 [(1,[],.stop)]
@[reducible,instance] def AYn {a0 k4 k s4 s3} := LC.mk (X := Cq N a0 k4 k s4 s3) (G := λk i (s : Int) => Cq N a0 k4 k i s) (i := s4) (k := k) (s := s3) (js := [(20, 14)]) (cs := [3, 4]) (V := λi s => [.int .i64 s, .int .i64 i]) (Ms := λi s => []) rfl (λi s => Cq.eq_1 ..) (λk i s => Cq.eq_2 ..)
instance Ajr {a0}:CF vE (I6 N a0) 294 [.str a0] (λr=>.int .i64 r):=AX (I6.eq_1 ..) Tryz.func294 rfl Tryz.ntmps294 Tryz.results294 [(3,[],.take 0 (.take 1 (.take 2 (.take 3 (.take 4 (.take 5 (.take 6 (.take 7 (.take 8 (.alt 9 [] (.done) (.stop)))))))))))]
@[reducible,instance] def Ag5 {a0 a1 k2 xs s14} := LR.mk (X := FZ N a0 a1 k2 xs s14) (G := λxs i (s : Unit) => FZ N a0 a1 k2 xs i) (i := s14) (s := ()) (js := [(5, 2), (15, 22)]) (cs := [14]) (V := λi s => [.int .i64 i]) (Ms := λi s => []) rfl (λi s => FZ.eq_1 ..) (λx xs i s => FZ.eq_2 ..)
instance AoI {a0 a1}:CF vE (Ns N a0 a1) 187 [AV a0,.str a1] (λr=>.tuple [AV r.1,.bool r.2]):=AX (Ns.eq_1 ..) Tryz.func187 rfl Tryz.ntmps187 Tryz.results187 [(6,[],.stop)] true
instance ATN {a0 a1}:CB vE (Dq N a0 a1) 126 (λi0=>[.ptr i0 0,.int .i64 a1]) (λi0=>[.int .i64 a0.fail]) (λr=>.tuple []) (λi0 r=>[.int .i64 r.fail]):=IB (Dq.eq_1 ..) Tryz.func126 rfl Tryz.ntmps126 Tryz.results126
@[reducible,instance] def AdH {a1 k2 xs s5} := LQ.mk (X := GJ N a1 k2 xs s5) (G := λxs i (s : (List ApiLink)) => GJ N a1 k2 xs s) (s := s5) (js := [(7, 1), (12, 12)]) (cs := [5, 11]) (V := λi s => [.slice 6 (List.map EG s) true, .int .i64 i]) (Ms := λi s => []) (λ_ => rfl) (λi s => GJ.eq_1 ..) (λx xs i s => GJ.eq_2 ..)
instance AmI {a0 a1}:CF vE (Sm N a0 a1) 68 [MV a0,.str a1] (λr=>.slice 6 (List.map EG r) false):=AX (Sm.eq_1 ..) Tryz.func68 rfl Tryz.ntmps68 Tryz.results68 [(6,[19],.done)]
instance Aot {a0 a1}:CF vE (R8 N a0 a1) 72 [.int .u64 a0,.int .u64 a1] (λr=>.int .u64 r):=AX (R8.eq_1 ..) Tryz.func72 rfl Tryz.ntmps72 Tryz.results72
@[reducible,instance] def AOP {a1 k2 xs s13} := LR.mk (X := ED N a1 k2 xs s13) (G := λxs i (s : Unit) => ED N a1 k2 xs i) (i := s13) (s := ()) (js := [(4, 2), (14, 12)]) (cs := [13]) (V := λi s => [.int .i64 i]) (Ms := λi s => []) rfl (λi s => ED.eq_1 ..) (λx xs i s => ED.eq_2 ..)
instance AX7 {a0 a1}:CF vE (K9 N a0 a1) 31 [.slice 4 (List.map BF a0) false,.slice 4 (List.map BF a1) false] (λr=>.bool r):=AX (K9.eq_1 ..) Tryz.func31 rfl Tryz.ntmps31 Tryz.results31 [(6,[],.take 0 (.take 1 (.take 2 (.take 3 (.take 4 (.take 5 (.take 6 (.take 7 (.take 8 (.done))))))))))]
@[reducible,instance] def AR0 {a1 k2 xs s13} := LR.mk (X := He N a1 k2 xs s13) (G := λxs i (s : Unit) => He N a1 k2 xs i) (i := s13) (s := ()) (js := [(4, 2), (14, 12)]) (cs := [13]) (V := λi s => [.int .i64 i]) (Ms := λi s => []) rfl (λi s => He.eq_1 ..) (λx xs i s => He.eq_2 ..)
instance AXS {a0 a1}:CF vE (ND N a0 a1) 32 [.slice 9 (List.map Ep a0) false,.slice 9 (List.map Ep a1) false] (λr=>.bool r):=AX (ND.eq_1 ..) Tryz.func32 rfl Tryz.ntmps32 Tryz.results32 [(6,[],.take 0 (.take 1 (.take 2 (.take 3 (.take 4 (.take 5 (.take 6 (.take 7 (.take 8 (.done))))))))))]
end Go.Proofs.YtfcejbjjeaaleaaGreatDoor
