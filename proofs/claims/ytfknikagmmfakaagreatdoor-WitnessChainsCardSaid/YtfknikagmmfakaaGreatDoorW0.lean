import Derived.Test.YtfknikagmmfakaaGreatDoorVmFacts
import Derived.Test.YtfknikagmmfakaaGreatDoorDefs
import Derived.Test.YtfknikagmmfakaaGreatDoorVM7
set_option linter.unusedVariables false
set_option linter.unusedSimpArgs false
set_option maxHeartbeats 4000000
set_option maxRecDepth 100000
set_option linter.defProp false
namespace Go.Proofs.YtfknikagmmfakaaGreatDoor
open Go.VM
attribute [local irreducible] AA grd letL
variable{N n:Nat}{m:MS}{Q:PQ}{args:List AVal}
instance AKM {a0}:CF vE (C8 N a0) 15 [.int .i64 a0] (fun r=>.bool r):=AR (C8.eq_1 ..) Tryz.func15 rfl Tryz.ntmps15 Tryz.results15
theorem IY {a0 r} (h:Av N a0=some r) (ha:args=[.slice 9 (List.map AL a0) false]) (hQ: ∀n',n≤n'→Gl (Q (.slice 9 (List.map AL r) true) ⟨m,n'⟩)):ACall vE 16 args ⟨m,n⟩ Q:=by
 rw[Av]at h
 subst ha
 refine ent hQ Tryz.func16 rfl Tryz.ntmps16 Tryz.results16 (.q (.r []) (.q (.q (.r []) .z) .z)) fun R hR=>?_
 replace h:=And.intro trivial h
 obtain⟨c,h⟩:=Mj h
 try simp only[liE,seval]at c
 replace h:=Ke c h
 obtain⟨H,h⟩:=h
 cases h
 simp(disch:=omega) only[vm,seval,H]
 refine⟨fun c hc=>?_⟩
 cases c
 · refine Cv (.c (.q (.r []) .z) .z) ?_
   simp(disch:=omega) only[vm,seval,H]
   refine⟨Cv (.q (.r []) .z) ?_⟩
   simp(disch:=omega) only[vm,seval,H]
   refine⟨(hR _ _ _ _ _ _ (by simp(disch:=omega) only[vm,seval,H];rfl) slr ?_ (by omega) ?_).1⟩<;>first|(simp(disch:=omega) only[vm,seval,H];done)|rfl
 · have e:a0=[]:=List.map_eq_nil_iff.1 (hc rfl)
   subst e
   refine Cv (.c (.q (.r []) .z) .z) ?_
   simp(disch:=omega) only[vm,seval,H]
   refine⟨(hR _ _ _ _ _ _ (by simp(disch:=omega) only[vm,seval,H];rfl) slr ?_ (by omega) ?_).1⟩<;>first|(simp(disch:=omega) only[vm,seval,H];done)|rfl
instance O0 {a0}:CF vE (Av N a0) 16 [.slice 9 (List.map AL a0) false] (fun r=>.slice 9 (List.map AL r) true):=⟨fun h hQ=>IY h rfl hQ⟩
theorem APJ {a0 r} (h:SV N a0=some r) (ha:args=[.slice 1 (List.map (AVal.int .u8) a0) false]) (hQ: ∀i n',n≤i→i<n'→Gl (Q (.ptr i 0) ⟨(i,[.slice 1 (List.map (AVal.int .u8) r.l) false])::m,n'⟩)):ACall vE 18 args ⟨m,n⟩ Q:=by
 rw[SV]at h
 subst ha
 refine Ab7 Tryz.func18 rfl Tryz.ntmps18 Tryz.results18 (.q (.r []) (.q (.r []) .z)) fun R hR=>?_
 replace h:=And.intro trivial h
 obtain⟨x1,h⟩:=EN h
 obtain⟨H,h⟩:=h
 cases h
 simp(disch:=omega) only[vm,seval,H]
 refine⟨(hR _ _ [.ptr n 0] ((n,[.slice 1 (List.map (AVal.int .u8) x1) false])::m) _ (n+1) (by first|(simp(disch:=omega) only[vm,seval,H];done)|(simp(disch:=omega) only[vm,seval,H];rfl)) slr (by omega) (hQ (n) (n+1) (by omega) (by omega)).go).1⟩
instance AkK {a0}:CN vE (SV N a0) 18 [.slice 1 (List.map (AVal.int .u8) a0) false] (fun i=>.ptr i 0) (fun r i=>[.slice 1 (List.map (AVal.int .u8) r.l) false]):=⟨fun h hQ=>APJ h rfl hQ⟩
@[reducible, instance] def AgP {a0 k2 xs} := LQ.mk (X := KA N a0 k2 xs) (G := fun xs i (s : Unit) => KA N a0 k2 xs) (s := ()) (js := [(4, 1), (6, 11)]) (cs := [5]) (V := fun i s => [.int .i64 i]) (Ms := fun i s => []) (fun _ => rfl) (fun i s => KA.eq_1 ..) (fun x xs i s => KA.eq_2 ..)
instance AlJ {a0 a1}:CF vE (Jc N a0 a1) 64 [.int .u8 a0,.str a1] (fun r=>.bool r):=AR (Jc.eq_1 ..) Tryz.func64 rfl Tryz.ntmps64 Tryz.results64
@[reducible, instance] def AXO {a0 k2 xs s9 bn} := LR.mk (X := Gg N a0 k2 xs s9 bn) (G := fun xs i (s : (List Int)) => Gg N a0 k2 xs i s) (i := s9) (s := bn) (js := [(4, 1), (10, 21)]) (cs := [9]) (V := fun i s => [.int .i64 i]) (Ms := fun i s => [.s (List.map (AVal.int .u8) s)]) rfl (fun i s => Gg.eq_1 ..) (fun x xs i s => Gg.eq_2 ..)
instance AgQ {a0}:CF vE (Dv N a0) 28 [.str a0] (fun r=>.str r):=AR (Dv.eq_1 ..) Tryz.func28 rfl Tryz.ntmps28 Tryz.results28 [(5,[],.stop)]
instance AZv {a0}:CF vE (Fz N a0) 143 [.int .u8 a0] (fun r=>.bool r):=AR (Fz.eq_1 ..) Tryz.func143 rfl Tryz.ntmps143 Tryz.results143 [(1,[],.stop)]
instance AZ4 {a0}:CF vE (Di N a0) 144 [.int .u8 a0] (fun r=>.bool r):=AR (Di.eq_1 ..) Tryz.func144 rfl Tryz.ntmps144 Tryz.results144 [(1,[],.stop)]
instance Af5 {a0}:CF vE (M5 N a0) 240 [.int .u8 a0] (fun r=>.int .u8 r):=AR (M5.eq_1 ..) Tryz.func240 rfl Tryz.ntmps240 Tryz.results240
instance Aeb {a0}:CF vE (Ls N a0) 141 [.int .u8 a0] (fun r=>.str r):=AR (Ls.eq_1 ..) Tryz.func141 rfl Tryz.ntmps141 Tryz.results141 [(1,[],.take 0 (.take 1 (.take 2 (.take 3 (.take 4 (.take 5 (.take 6 (.alt 7 [5,4,3,2,1,0] (.alt 8 [] (.done) (.stop)) (.stop)))))))))]
@[reducible, instance] def AXu {a0 a1 k2 xs s7 s5 s6} := LR.mk (X := Gb N a0 a1 k2 xs s7 s5 s6) (G := fun xs i (s : (List (List UInt8)) × Int) => Gb N a0 a1 k2 xs i s.1 s.2) (i := s7) (s := (s5, s6)) (js := [(8, 20)]) (cs := [5, 6, 7]) (V := fun i s => [.vec 1 (List.map AVal.str s.1), .int .i64 s.2, .int .i64 i]) (Ms := fun i s => []) rfl (fun i s => Gb.eq_1 ..) (fun x xs i s => Gb.eq_2 ..)
instance Xo {a0 a1}:CF vE (Ak1 (LX N a0 a1)) 85 [.str a0,.int .u8 a1] (fun r=>.vec 1 (List.map AVal.str r)):=AR (AiM.trans (LX.eq_1 ..)) Tryz.func85 rfl Tryz.ntmps85 Tryz.results85 [(0,[4],.done),(1,[5],.done),(7,[5,19],.done),(8,[4,28],.done)]
instance AgT {a0 a1}:CF vE (LX N a0 a1) 85 [.str a0,.int .u8 a1] (fun r=>.slice 1 (List.map AVal.str r) false):=CF.freeze Xo
instance AcA {a0}:CF vE (Nz N a0) 30 [MP a0] (fun r=>.str r):=AR (Nz.eq_1 ..) Tryz.func30 rfl Tryz.ntmps30 Tryz.results30
instance AfQ {a0}:CF vE (KX N a0) 102 [A7 a0] (fun r=>.str r):=AR (KX.eq_1 ..) Tryz.func102 rfl Tryz.ntmps102 Tryz.results102
@[reducible, instance] def ATN {k s0 s3} := LF.mk (X := FW N k s0 s3) (G := fun k (s : Int × (List UInt8)) => FW N k s.1 s.2) (s := (s0, s3)) (js := [(2, 1), (4, 13)]) (cs := [0, 3]) (V := fun s => [.int .u64 s.1, .str s.2]) (Ms := fun s => []) rfl (fun s => FW.eq_1 ..) (fun k s => FW.eq_2 ..)
instance Ac7 {a0}:CF vE (MG N a0) 247 [.int .u64 a0] (fun r=>.str r):=AR (MG.eq_1 ..) Tryz.func247 rfl Tryz.ntmps247 Tryz.results247
instance AfE {a0}:CF vE (OE N a0) 151 [A7 a0] (fun r=>Ay r):=AR (OE.eq_1 ..) Tryz.func151 rfl Tryz.ntmps151 Tryz.results151
instance AeA {a0 a1}:CF vE (G7 N a0 a1) 83 [.str a0,.str a1] (fun r=>.bool r):=AR (G7.eq_1 ..) Tryz.func83 rfl Tryz.ntmps83 Tryz.results83 [(1,[],.stop)]
instance AXw {a0 a1}:CB vE (CY N a0 a1) 38 (fun i0=>[.ptr i0 0,.int .i64 a1]) (fun i0=>[.slice 1 (List.map (AVal.int .u8) a0.l) false]) (fun r=>.int .i64 r.1) (fun i0 r=>[.slice 1 (List.map (AVal.int .u8) r.2.l) false]):=D9 (CY.eq_1 ..) Tryz.func38 rfl Tryz.ntmps38 Tryz.results38 [(1,[],.stop)]
@[reducible, instance] def AXk {rec_ref15_count j1 k10 xs s6} := LQ.mk (X := GR N rec_ref15_count j1 k10 xs s6) (G := fun xs i (s : Int) => GR N rec_ref15_count j1 k10 xs s) (s := s6) (js := [(4, 1), (8, 2), (27, 14)]) (cs := [6, 26]) (V := fun i s => [.int .i64 s, .int .i64 i]) (Ms := fun i s => []) (fun _ => rfl) (fun i s => GR.eq_1 ..) (fun x xs i s => GR.eq_2 ..)
theorem U7 (N:Nat): ∀D:Nat,(∀ {a0:ApiValue}{a1:Int},CF vE (Jv N D a0 a1) 157 [AB a0,.int .i64 a1] (fun r=>.int .i64 r)):=by
 intro D
 induction D with
 |zero=>exact⟨fun h=>by rw[Jv.eq_1]at h;cases h⟩
 |succ D ih=>
  exact AR (Jv.eq_2 ..) Tryz.func157 rfl Tryz.ntmps157 Tryz.results157 [(2,[],.stop)] true
instance Afd {a0 a1}:CF vE (Jv N N a0 a1) 157 [AB a0,.int .i64 a1] (fun r=>.int .i64 r):=U7 N N
@[reducible, instance] def AWy {a0 k4 k s4 s3} := LC.mk (X := Ga N a0 k4 k s4 s3) (G := fun k i (s : Int) => Ga N a0 k4 k i s) (i := s4) (k := k) (s := s3) (js := [(20, 14)]) (cs := [3, 4]) (V := fun i s => [.int .i64 s, .int .i64 i]) (Ms := fun i s => []) rfl (fun i s => Ga.eq_1 ..) (fun k i s => Ga.eq_2 ..)
instance AgS {a0}:CF vE (Pg N a0) 447 [.str a0] (fun r=>.int .i64 r):=AR (Pg.eq_1 ..) Tryz.func447 rfl Tryz.ntmps447 Tryz.results447 [(3,[],.take 0 (.take 1 (.take 2 (.take 3 (.take 4 (.take 5 (.take 6 (.take 7 (.take 8 (.alt 9 [] (.done) (.stop)))))))))))]
instance Afo {a0}:CF vE (Pi N a0) 463 [.int .i64 a0] (fun r=>.bool r):=AR (Pi.eq_1 ..) Tryz.func463 rfl Tryz.ntmps463 Tryz.results463 [(1,[],.stop)]
@[reducible, instance] def ATH {k8 k s3 s4 s5} := LF.mk (X := EM N k8 k s3 s4 s5) (G := fun k (s : (List (List UInt8)) × (List (List UInt8)) × (List (List UInt8))) => EM N k8 k s.1 s.2.1 s.2.2) (s := (s3, s4, s5)) (js := [(22, 31)]) (cs := [3, 4, 5]) (V := fun s => [.slice 1 (List.map AVal.str s.1) false, .slice 1 (List.map AVal.str s.2.1) false, .slice 1 (List.map AVal.str s.2.2) true]) (Ms := fun s => []) rfl (fun s => EM.eq_1 ..) (fun k s => EM.eq_2 ..)
theorem TI (N:Nat): ∀D:Nat,(∀ {a0:(List (List UInt8))},CF vE (Fg N D a0) 160 [.slice 1 (List.map AVal.str a0) false] (fun r=>.slice 1 (List.map AVal.str r) false)):=by
 intro D
 induction D with
 |zero=>exact⟨fun h=>by rw[Fg.eq_1]at h;cases h⟩
 |succ D ih=>
  exact AR (Fg.eq_2 ..) Tryz.func160 rfl Tryz.ntmps160 Tryz.results160 [(3,[],.take 0 (.take 1 (.take 2 (.take 3 (.take 4 (.take 6 (.take 7 (.take 8 (.take 9 (.take 10 (.alt 5 [10,9,8,7,6,3,2,1,0] (.alt 11 [9,8,7,6,4,3,2,1,0] (.alt 12 [10,9,8,7,6] (.alt 13 [] (.done) (.stop)) (.stop)) (.stop)) (.stop)))))))))))),(5,[],.stop),(6,[],.take 0 (.take 1 (.take 2 (.take 3 (.take 4 (.take 5 (.take 6 (.done)))))))),(7,[37],.take 1 (.take 2 (.take 3 (.take 4 (.take 6 (.take 7 (.alt 0 [7,6,4,3,2,1] (.alt 5 [7,6,3,2,1] (.alt 8 [7,6] (.alt 9 [] (.done) (.stop)) (.stop)) (.stop)) (.stop)))))))),(8,[45],.take 1 (.take 2 (.take 3 (.take 4 (.take 6 (.take 7 (.alt 0 [7,6,4,3,2,1] (.alt 5 [7,6,3,2,1] (.alt 8 [7,6] (.alt 9 [] (.done) (.stop)) (.stop)) (.stop)) (.stop)))))))),(9,[53],.done)] true
instance AcM {a0}:CF vE (Fg N N a0) 160 [.slice 1 (List.map AVal.str a0) false] (fun r=>.slice 1 (List.map AVal.str r) false):=TI N N
@[reducible, instance] def AZw {k2 xs s3} := LQ.mk (X := IE N k2 xs s3) (G := fun xs i (s : Int) => IE N k2 xs s) (s := s3) (js := [(5, 1), (15, 8)]) (cs := [3, 14]) (V := fun i s => [.int .i64 s, .int .i64 i]) (Ms := fun i s => []) (fun _ => rfl) (fun i s => IE.eq_1 ..) (fun x xs i s => IE.eq_2 ..)
@[reducible, instance] def AZm {rec_ref15_long k7 xs} := LQ.mk (X := IJ N rec_ref15_long k7 xs) (G := fun xs i (s : Unit) => IJ N rec_ref15_long k7 xs) (s := ()) (js := [(2, 1), (7, 1), (29, 6)]) (cs := [28]) (V := fun i s => [.int .i64 i]) (Ms := fun i s => []) (fun _ => rfl) (fun i s => IJ.eq_1 ..) (fun x xs i s => IJ.eq_2 ..)
theorem VT (N:Nat): ∀D:Nat,(∀ {a0:ApiValue},CF vE (Kc N D a0) 92 [AB a0] (fun r=>.bool r)):=by
 intro D
 induction D with
 |zero=>exact⟨fun h=>by rw[Kc.eq_1]at h;cases h⟩
 |succ D ih=>
  exact AR (Kc.eq_2 ..) Tryz.func92 rfl Tryz.ntmps92 Tryz.results92 [] true
instance AhX {a0}:CF vE (Kc N N a0) 92 [AB a0] (fun r=>.bool r):=VT N N
@[reducible, instance] def AdJ {a0 a1 k2 xs s14} := LR.mk (X := I9 N a0 a1 k2 xs s14) (G := fun xs i (s : Unit) => I9 N a0 a1 k2 xs i) (i := s14) (s := ()) (js := [(5, 2), (15, 22)]) (cs := [14]) (V := fun i s => [.int .i64 i]) (Ms := fun i s => []) rfl (fun i s => I9.eq_1 ..) (fun x xs i s => I9.eq_2 ..)
instance Ajw {a0 a1}:CF vE (MH N a0 a1) 161 [AB a0,.str a1] (fun r=>.tuple [AB r.1,.bool r.2]):=AR (MH.eq_1 ..) Tryz.func161 rfl Tryz.ntmps161 Tryz.results161 [(6,[],.stop)] true
instance Agl {a0 a1 a2}:CF vE (G8 N a0 a1 a2) 96 [AB a0,.str a1,AB a2] (fun r=>AB r):=AR (G8.eq_1 ..) Tryz.func96 rfl Tryz.ntmps96 Tryz.results96 [(1,[],.take 0 (.take 1 (.take 2 (.take 3 (.take 4 (.take 5 (.take 6 (.take 7 (.take 8 (.take 9 (.take 10 (.take 12 (.take 13 (.take 14 (.take 15 (.take 16 (.take 17 (.take 18 (.take 19 (.take 20 (.take 21 (.take 22 (.alt 11 [22,21,20,19,18,17,16,15,14,13,12,9,7,6,5,4,3,2,1,0] (.take 24 (.alt 23 [24,21,19,18,17,16,15,14,13,12,10,9,8,7,6,5,4,3,2,1,0] (.alt 25 [22,21,20,19,16] (.take 26 (.alt 27 [] (.done) (.stop))) (.stop)) (.stop))) (.stop))))))))))))))))))))))))]
instance Ajh {a0}:CF vE (Kh N a0) 99 [.str a0] (fun r=>.agg [.int .i64 r.kind,.str r.text,.slice 1 (List.map AVal.str r.keys) true,.slice 4 (List.map AB r.items) true]):=AR (Kh.eq_1 ..) Tryz.func99 rfl Tryz.ntmps99 Tryz.results99
@[reducible, instance] def AeC {k s0 s3} := LF.mk (X := JE N k s0 s3) (G := fun k (s : Int × (List UInt8)) => JE N k s.1 s.2) (s := (s0, s3)) (js := [(2, 1), (4, 13)]) (cs := [0, 3]) (V := fun s => [.int .i64 s.1, .str s.2]) (Ms := fun s => []) rfl (fun s => JE.eq_1 ..) (fun k s => JE.eq_2 ..)
instance Ajl {a0}:CF vE (TY N a0) 156 [.int .i64 a0] (fun r=>.str r):=AR (TY.eq_1 ..) Tryz.func156 rfl Tryz.ntmps156 Tryz.results156
@[reducible, instance] def AZg {a1 k2 xs s5} := LQ.mk (X := IK N a1 k2 xs s5) (G := fun xs i (s : (List ApiLink)) => IK N a1 k2 xs s) (s := s5) (js := [(7, 1), (12, 12)]) (cs := [5, 11]) (V := fun i s => [.slice 6 (List.map BS s) true, .int .i64 i]) (Ms := fun i s => []) (fun _ => rfl) (fun i s => IK.eq_1 ..) (fun x xs i s => IK.eq_2 ..)
instance AjW {a0 a1}:CF vE (Qs N a0 a1) 100 [GZ a0,.str a1] (fun r=>.slice 6 (List.map BS r) false):=AR (Qs.eq_1 ..) Tryz.func100 rfl Tryz.ntmps100 Tryz.results100 [(6,[19],.done)]
instance Af7 {a0}:CF vE (Lb N a0) 251 [.int .u8 a0] (fun r=>.bool r):=AR (Lb.eq_1 ..) Tryz.func251 rfl Tryz.ntmps251 Tryz.results251 [(1,[],.stop)]
instance ATi {a0}:CF vE (Lg N a0) 252 [.int .u8 a0] (fun r=>.bool r):=AR (Lg.eq_1 ..) Tryz.func252 rfl Tryz.ntmps252 Tryz.results252 [(1,[],.stop)]
end Go.Proofs.YtfknikagmmfakaaGreatDoor
