import Derived.Test.YtjmejdocgdbklaaGreatDoorVmFacts
import Derived.Test.YtjmejdocgdbklaaGreatDoorDefs
import Derived.Test.YtjmejdocgdbklaaGreatDoorVM7
import Derived.Test.YtjmejdocgdbklaaGreatDoorVM5
set_option linter.unusedVariables false
set_option linter.unusedSimpArgs false
set_option maxHeartbeats 4000000
set_option maxRecDepth 100000
set_option linter.defProp false
namespace Go.Proofs.YtjmejdocgdbklaaGreatDoor
open Go.VM
attribute [local irreducible] AB grd letL
variable{N n:Nat}{m:MS}{Q:PQ}{args:List AVal}
instance WN {a0 a1}:CF vE (Et N a0 a1) 168 [.str a0,.str a1] (λr=>.bool r):=AZ (Et.eq_1 ..) Tryz.func168 rfl Tryz.ntmps168 Tryz.results168 [(1,[],.stop)]
instance AL3 {a0 a1}:CB vE (EL N a0 a1) 116 (λi0=>[.ptr i0 0,.int .i64 a1]) (λi0=>[.str a0.did.method,.str a0.did.iD,.int .i64 a0.e]) (λr=>.tuple []) (λi0 r=>[.str r.did.method,.str r.did.iD,.int .i64 r.e]):=G5 (EL.eq_1 ..) Tryz.func116 rfl Tryz.ntmps116 Tryz.results116
@[reducible,instance] def AZ1 {a0 a1 k2 xs s11} := LR.mk (X := ED N a0 a1 k2 xs s11) (G := λxs i (s : Unit) => ED N a0 a1 k2 xs i) (i := s11) (s := ()) (js := [(5, 3), (12, 25)]) (cs := [11]) (V := λi s => [.int .i64 i]) (Ms := λi s => []) rfl (λi s => ED.eq_1 ..) (λx xs i s => ED.eq_2 ..)
instance AhT {a0 a1}:CF vE (JY N a0 a1) 62 [AP a0,.str a1] (λr=>.tuple [AP r.1,.bool r.2]):=AZ (JY.eq_1 ..) Tryz.func62 rfl Tryz.ntmps62 Tryz.results62 [(4,[],.stop)] true
instance Ahh {a0}:CF vE (Oh N a0) 213 [Po a0] (λr=>.str r):=AZ (Oh.eq_1 ..) Tryz.func213 rfl Tryz.ntmps213 Tryz.results213
instance AAT {a0}:CF vE (strings_shouldUseASCIISet N a0) 292 [.int .i64 a0] (λr=>.bool r):=AZ (strings_shouldUseASCIISet.eq_1 ..) Tryz.func292 rfl Tryz.ntmps292 Tryz.results292
instance Aa7 {a0}:CF vE (OT N a0) 255 [Gv a0] (λr=>FJ r):=AZ (OT.eq_1 ..) Tryz.func255 rfl Tryz.ntmps255 Tryz.results255
instance AbQ {a0}:CF vE (MG N a0) 256 [Gv a0] (λr=>.str r):=AZ (MG.eq_1 ..) Tryz.func256 rfl Tryz.ntmps256 Tryz.results256
@[reducible,instance] def SQ {a0 a1 k2 k s5} := LF.mk (X := Ad N a0 a1 k2 k s5) (G := λk (s : Int) => Ad N a0 a1 k2 k s) (s := s5) (js := [(4, 1), (9, 10)]) (cs := [5]) (V := λs => [.int .i64 s]) (Ms := λs => []) rfl (λs => Ad.eq_1 ..) (λk s => Ad.eq_2 ..)
instance TQ {a0 a1}:CF vE (De N a0 a1) 295 [.str a0,.int .u8 a1] (λr=>.int .i64 r):=AZ (De.eq_1 ..) Tryz.func295 rfl Tryz.ntmps295 Tryz.results295
def ADO {r} (h:O0 N=some r) (ha:args=[]) (hQ: ∀i n',n<=i->i<n'->Gl (Q (.sh i) ⟨(i,[.map [[97,99,99,116],[109,97,105,108,116,111],[104,116,116,112,115],[100,105,100]] [.fn (.func 171) [] [],.fn (.func 172) [] [],.fn (.func 173) [] [],.fn (.func 174) [] []]])::m,n'⟩)):ACall vE 120 args ⟨m,n⟩ Q:=by rw[O0]at h;subst ha;refine Ac9 Tryz.func120 rfl Tryz.ntmps120 Tryz.results120 (.q (.r []) (.q (.r []) .z)) λR hR=>?_;replace h:=ac trivial h;obtain⟨H,h⟩:=h;cases h;simp(decide:=true) (disch:= omega) only[vm,seval,H,I9,K5];refine⟨(hR _ _ [.sh n] ((n,[.map [[97,99,99,116],[109,97,105,108,116,111],[104,116,116,112,115],[100,105,100]] [.fn (.func 171) [] [],.fn (.func 172) [] [],.fn (.func 173) [] [],.fn (.func 174) [] []]])::m) _ (n+1) (by first| (simp(decide:=true) (disch:= omega) only[vm,seval,H,I9,K5];done)| (simp(decide:=true) (disch:= omega) only[vm,seval,H,I9,K5];rfl)) slr fy (hQ (n) (n+1) fy fy).go).1⟩
instance Ahl:CN vE (O0 N) 120 [] (λi=>.sh i) (λr i=>[.map [[97,99,99,116],[109,97,105,108,116,111],[104,116,116,112,115],[100,105,100]] [.fn (.func 171) [] [],.fn (.func 172) [] [],.fn (.func 173) [] [],.fn (.func 174) [] []]]):=⟨λh hQ=>ADO h rfl hQ⟩
@[reducible,instance] def AgV {k2 xs} := LQ.mk (X := IP N k2 xs) (G := λxs i (s : Unit) => IP N k2 xs) (s := ()) (js := [(2, 1), (4, 1), (13, 12)]) (cs := [12]) (V := λi s => [.int .i64 i]) (Ms := λi s => []) (λ_ => rfl) (λi s => IP.eq_1 ..) (λx xs i s => IP.eq_2 ..)
instance Alz {a0}:CF vE (RU N a0) 5 [OD a0] (λr=>.bool r):=AZ (RU.eq_1 ..) Tryz.func5 rfl Tryz.ntmps5 Tryz.results5
def AUZ {a0 r} (h:RL N a0=some r) (ha:args=[.slice 1 (List.map (AVal.int .u8) a0) false]) (hQ: ∀i n',n<=i->i<n'->Gl (Q (.ptr i 0) ⟨(i,[.slice 1 (List.map (AVal.int .u8) r.l) false])::m,n'⟩)):ACall vE 10 args ⟨m,n⟩ Q:=by rw[RL]at h;subst ha;refine Ac9 Tryz.func10 rfl Tryz.ntmps10 Tryz.results10 (.q (.r []) (.q (.r []) .z)) λR hR=>?_;replace h:=ac trivial h;obtain⟨x1,h⟩:=Fg h;obtain⟨H,h⟩:=h;cases h;simp(disch:= omega) only[vm,seval,H];refine⟨(hR _ _ [.ptr n 0] ((n,[.slice 1 (List.map (AVal.int .u8) x1) false])::m) _ (n+1) (by first| (simp(disch:= omega) only[vm,seval,H];done)| (simp(disch:= omega) only[vm,seval,H];rfl)) slr fy (hQ (n) (n+1) fy fy).go).1⟩
instance Aof {a0}:CN vE (RL N a0) 10 [.slice 1 (List.map (AVal.int .u8) a0) false] (λi=>.ptr i 0) (λr i=>[.slice 1 (List.map (AVal.int .u8) r.l) false]):=⟨λh hQ=>AUZ h rfl hQ⟩
@[reducible,instance] def AhO {a0 k2 xs} := LQ.mk (X := Gj N a0 k2 xs) (G := λxs i (s : Unit) => Gj N a0 k2 xs) (s := ()) (js := [(4, 1), (6, 11)]) (cs := [5]) (V := λi s => [.int .i64 i]) (Ms := λi s => []) (λ_ => rfl) (λi s => Gj.eq_1 ..) (λx xs i s => Gj.eq_2 ..)
instance Amf {a0 a1}:CF vE (E8 N a0 a1) 79 [.int .u8 a0,.str a1] (λr=>.bool r):=AZ (E8.eq_1 ..) Tryz.func79 rfl Tryz.ntmps79 Tryz.results79
@[reducible,instance] def AYd {a0 k2 xs s9 bn} := LR.mk (X := GQ N a0 k2 xs s9 bn) (G := λxs i (s : (List Int)) => GQ N a0 k2 xs i s) (i := s9) (s := bn) (js := [(4, 1), (10, 21)]) (cs := [9]) (V := λi s => [.int .i64 i]) (Ms := λi s => [.s (List.map (AVal.int .u8) s)]) rfl (λi s => GQ.eq_1 ..) (λx xs i s => GQ.eq_2 ..)
instance AhD {a0}:CF vE (Hz N a0) 30 [.str a0] (λr=>.str r):=AZ (Hz.eq_1 ..) Tryz.func30 rfl Tryz.ntmps30 Tryz.results30 [(5,[],.stop)]
instance AbA {a0}:CF vE (Bh N a0) 91 [.int .u8 a0] (λr=>.bool r):=AZ (Bh.eq_1 ..) Tryz.func91 rfl Tryz.ntmps91 Tryz.results91 [(1,[],.stop)]
end Go.Proofs.YtjmejdocgdbklaaGreatDoor
