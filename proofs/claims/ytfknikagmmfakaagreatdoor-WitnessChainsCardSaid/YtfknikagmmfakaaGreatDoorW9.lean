import Derived.Test.YtfknikagmmfakaaGreatDoorW2
import Derived.Test.YtfknikagmmfakaaGreatDoorW4
set_option linter.unusedVariables false
set_option linter.unusedSimpArgs false
set_option maxHeartbeats 4000000
set_option maxRecDepth 100000
set_option linter.defProp false
namespace Go.Proofs.YtfknikagmmfakaaGreatDoor
open Go.VM
attribute [local irreducible] AA grd letL
variable{N n:Nat}{m:MS}{Q:PQ}{args:List AVal}
@[reducible, instance] def AZ2 {k2 k s0} := LF.mk (X := H8 N k2 k s0) (G := fun k (s : (List UInt8)) => H8 N k2 k s) (s := s0) (js := [(3, 10)]) (cs := [0]) (V := fun s => [.str s]) (Ms := fun s => []) rfl (fun s => H8.eq_1 ..) (fun k s => H8.eq_2 ..)
@[reducible, instance] def AZ6 {k15 k s0} := LF.mk (X := IG N k15 k s0) (G := fun k (s : (List UInt8)) => IG N k15 k s) (s := s0) (js := [(13, 16)]) (cs := [0]) (V := fun s => [.str s]) (Ms := fun s => []) rfl (fun s => IG.eq_1 ..) (fun k s => IG.eq_2 ..)
instance Agx {a0}:CF vE (RY N a0) 127 [.str a0] (fun r=>.str r):=AR (RY.eq_1 ..) Tryz.func127 rfl Tryz.ntmps127 Tryz.results127 [(1,[],.stop),(3,[],.stop)]
@[reducible, instance] def Wi {k2 xs s5 bi0} := LQ.mk (X := Cg N k2 xs s5 bi0) (G := fun xs i (s : (List (List UInt8)) × DiddocDecoder) => Cg N k2 xs s.1 s.2) (s := (s5, bi0)) (js := [(7, 1), (11, 14)]) (cs := [5, 10]) (V := fun i s => [.slice 1 (List.map AVal.str s.1) true, .int .i64 i]) (Ms := fun i s => [.s ([.str s.2.did.method, .str s.2.did.iD, .int .i64 s.2.e])]) (fun _ => rfl) (fun i s => Cg.eq_1 ..) (fun x xs i s => Cg.eq_2 ..)
instance AJW {a0 a1}:CB vE (Ih N a0 a1) 232 (fun i0=>[.ptr i0 0,.slice 4 (List.map AB a1) false]) (fun i0=>[.str a0.did.method,.str a0.did.iD,.int .i64 a0.e]) (fun r=>.slice 1 (List.map AVal.str r.1) false) (fun i0 r=>[.str r.2.did.method,.str r.2.did.iD,.int .i64 r.2.e]):=D9 (Ih.eq_1 ..) Tryz.func232 rfl Tryz.ntmps232 Tryz.results232 [(7,[19],.done)]
instance TA {a0 a1}:CF vE (CQ N a0 a1) 62 [.slice 4 (List.map Aj a0) false,Aj a1] (fun r=>.bool r):=AR (CQ.eq_1 ..) Tryz.func62 rfl Tryz.ntmps62 Tryz.results62
theorem Rz {a0 a1 r} (h:Jd N a0 a1=some r) (ha:args=[.str a0,.int .i64 a1]) (hQ: ∀n',n≤n'→Gl (Q (.tuple [.int .i64 r.1,.int .i64 r.2.1,.int .i64 r.2.2]) ⟨m,n'⟩)):ACall vE 466 args ⟨m,n⟩ Q:=by
 rw[Jd]at h
 subst ha
 refine ent hQ Tryz.func466 rfl Tryz.ntmps466 Tryz.results466 (.q (.r []) (.q .z .z)) fun R hR=>?_
 replace h:=And.intro trivial h
 simp(disch:=omega) only[vm,seval,h.1]
 refine⟨QD (γ:=Unit) h [11,12,13,14,15,16,17] [18] (fun j1 g=>[.bool j1]) (fun j1 g=>m) (.r []) ?_ ?_⟩<;>clear h
 rintro j1 _ n4 hnn4 _ _ h
 refine Cv (.c (.q (.r []) .z) .z) ?_
 rcases Ig h with h|h
 exact tR
 simp(disch:=omega) only[vm,seval,h.1]
 refine⟨QD (γ:=Unit) h [4,5,6,7,8,9,10,19,20,21,22,23,24,25,26,27,28,29,30,31,32,33,34,35,36,37,38,39,40,41,42,43,44,45,46,47,48,49,50,51,52,53,54,55,56,57,58,59,60,61,62,63,64,65,66,67,68,69,70,71,72,73,74,75,76,77,78,79,80,81,82,83] [] (fun j5 g=>[]) (fun j5 g=>m) (.q (.r []) .z) ?_ ?_⟩<;>clear h
 rintro j5 _ n8 hnn8 _ _ h
 refine Cv (.q (.r []) .z) ?_
 exact tR
 intro k6 Jk6 hk6 h
 obtain⟨hfk9,h⟩:=Mj h
 simp(disch:=omega) only[vm,seval,h.1]
 refine⟨AeM (σ:=Unit) (γ:=Unit) 0 4 hfk9 (fun xs i s=>DU N a0 a1 k6 xs i) (fun i s g=>[.int .i64 i]) (fun i s g=>m) [4,5,6,7,8,9,10,21,22,23,24,25,26,27,28,29,30,31,32,33,34,35,36,37,38,39,40,41,42,43,44,45,46,47,48,49,50,51,52,53,54,55,56,57,58,59,60,61,62,63,64,65,66,67,68,69,70,71,72,73,74,75,76,77,78,79,80,81,82,83] [20] () () h tD tD ?_ ?_⟩<;>clear h
 rintro s20 _ _ nL0_1 hnL0_1 _ h
 change _∧DU N a0 a1 k6 0 s20=_ at h
 rw[DU]at h
 refine Cv (.q (.r []) (.q (.c .z .z) (.q (.q (.r []) (.q (.q .z (.c .z .z)) (.q .z (.q (.q (.r []) (.c .z .z)) .z)))) (.r [])))) ?_
 exact tJ (hk6 () ())
 rintro xsk9 s20 _ _ nL0_1 hnL0_1 _ h Jk9 hk9
 change _∧DU N a0 a1 k6 (xsk9+1) s20=_ at h
 rw[DU]at h
 refine Cv (.q (.r []) (.q (.c .z .z) (.q (.q (.r []) (.q (.q .z (.c .z .z)) (.q .z (.q (.q (.r []) (.c .z .z)) .z)))) (.r [])))) ?_
 obtain⟨x10,h⟩:=EN h
 replace h:=Ke (Ox (k:=.i64) h.1.1) h
 obtain⟨x11,h⟩:=EN h
 simp(disch:=omega) only[vm,seval,h.1]
 refine⟨L6 [] (.take 0 (.take 1 (.take 2 (.take 3 (.take 4 (.take 5 (.take 6 (.take 7 (.take 8 (.done)))))))))) JY (by kernel_rfl) ?_⟩
 rcases Ig h with h|h
 exact tJ (hk9 () ())
 simp(disch:=omega) only[vm,seval,h.1]
 refine⟨L6 [] (.take 0 (.take 1 (.take 2 (.take 3 (.take 4 (.take 5 (.take 6 (.alt 7 [] (.done) (.stop))))))))) JY (by kernel_rfl) ?_⟩
 rcases Ig h with h|h
 exact tJ (hk6 () ())
 simp(disch:=omega) only[vm,seval,h.1]
 refine⟨QD (γ:=Unit) h [4,5,6,10,47,48,49,50,51,52,53,54,55,56,57,58,59,60,61,62,63,64,65,66,67,68] [9] (fun j12 g=>[.int .i64 j12]) (fun j12 g=>(nL0_1,[.int .u8 x10.mark,.int .u8 x10.mask,.int .i64 x10.least])::m) (.q (.r []) .z) ?_ ?_⟩<;>clear h
 rintro j12 _ n15 hnn15 _ _ h
 refine Cv (.q .z (.q (.r []) .z)) ?_
 simp(disch:=omega) only[vm,seval,h.1]
 refine⟨QD (γ:=Unit) h [69,70,71,72,73,74,75,76] [77] (fun j18 g=>[.bool j18]) (fun j18 g=>(nL0_1,[.int .u8 x10.mark,.int .u8 x10.mask,.int .i64 x10.least])::m) (.r []) ?_ ?_⟩<;>clear h
 rintro j18 _ n21 hnn21 _ _ h
 refine Cv (.c .z .z) ?_
 rcases Ig h with h|h
 exact tJ (hk6 () ())
 exact tR
 intro k19 Jk19 hk19 h
 rcases Ig h with h|h
 exact tJ (hk19 true ())
 obtain⟨y22,h⟩:=EN h
 simp(disch:=omega) only[vm,seval,h.1]
 refine⟨UB h.1.1 tD fun n23 hn23=>?_⟩
 exact tJ (hk19 (!y22) ())
 intro k13 Jk13 hk13 h
 simp(disch:=omega) only[vm,seval,h.1]
 refine⟨Aet (σ:=Int×Int) (γ:=Unit) (fun k s=>Et N a0 a1 s20 k13 k s.1 s.2) (fun s g=>[.int .i64 s.1,.int .i64 s.2]) (fun s g=>(nL0_1,[.int .u8 x10.mark,.int .u8 x10.mask,.int .i64 x10.least])::m) [4,5,6,47,48,49,50,51,52,53,54,55,56,57,58,59,60,61,62,63,64,65,66,67,68] [9,10] ((wr .i64 (LM .u8 (AX x11) x10.mask)),1) () h (fun _=>rfl) tD tD ?_⟩
 clear h
 rintro k16 ⟨s9,s10⟩ _ nL1_2 hnL1_2 _ h Jk16 hk16
 change _∧Et N a0 a1 s20 k13 (k16+1) s9 s10=_ at h
 rw[Et]at h
 refine Cv (.q (.q (.r []) (.c .z .z)) (.q (.q (.q (.r []) (.c (.q (.r []) .z) .z)) (.r [])) (.r []))) ?_
 rcases Ig h with h|h
 obtain⟨x17,h⟩:=EN h
 rcases Ig h with h|h
 exact tR
 exact tJ (hk16 ((Mt .i64 (ASD .i64 s9 6) (wr .i64 (LM .u8 (AX x17) 63))),(wr .i64 (s10+1))) ())
 exact tJ (hk13 s9 ())
 intro k2 Jk2 hk2 h
 rcases Ig h with h|h
 exact tJ (hk2 true ())
 exact tJ (hk2 (decide (a1≥(a0.length:Int))) ())
instance AS8 {a0 a1}:CF vE (Jd N a0 a1) 466 [.str a0,.int .i64 a1] (fun r=>.tuple [.int .i64 r.1,.int .i64 r.2.1,.int .i64 r.2.2]):=⟨fun h hQ=>Rz h rfl hQ⟩
@[reducible, instance] def O7 {a0 k2 k bi0_at_} := LC.mk (X := BA N a0 k2 k bi0_at_) (G := fun k i (s : Unit) => BA N a0 k2 k i) (i := bi0_at_) (k := k) (s := ()) (js := [(10, 30)]) (cs := []) (V := fun i s => []) (Ms := fun i s => [.p [.k, .v (.int .i64 i)]]) rfl (fun i s => BA.eq_1 ..) (fun k i s => BA.eq_2 ..)
instance Qo {a0}:CB vE (Ca N a0) 386 (fun i0=>[.ptr i0 0,.fn (.func 298) [] []]) (fun i0=>[.str a0.s,.int .i64 a0.at_]) (fun r=>.str r.1) (fun i0 r=>[.str r.2.s,.int .i64 r.2.at_]):=D9 (Ca.eq_1 ..) Tryz.func386 rfl Tryz.ntmps386 Tryz.results386 [(2,[],.take 0 (.take 1 (.take 2 (.take 3 (.take 4 (.take 5 (.take 6 (.take 7 (.take 8 (.take 9 (.take 10 (.take 11 (.take 12 (.take 13 (.take 14 (.take 15 (.take 16 (.take 17 (.take 18 (.take 19 (.take 20 (.alt 21 [19,18,17,16,15,14,13,12,9,8,7,6,5,4,3,2,1,0] (.take 22 (.done)) (.stop))))))))))))))))))))))),(4,[],.take 0 (.take 1 (.take 2 (.take 3 (.take 4 (.take 5 (.take 6 (.take 7 (.take 8 (.take 9 (.alt 10 [] (.done) (.stop))))))))))))]
@[reducible, instance] def Pk {a0 k2 k bi0_at_} := LC.mk (X := A9 N a0 k2 k bi0_at_) (G := fun k i (s : Unit) => A9 N a0 k2 k i) (i := bi0_at_) (k := k) (s := ()) (js := [(10, 30)]) (cs := []) (V := fun i s => []) (Ms := fun i s => [.p [.k, .v (.int .i64 i)]]) rfl (fun i s => A9.eq_1 ..) (fun k i s => A9.eq_2 ..)
instance Qn {a0}:CB vE (Df N a0) 386 (fun i0=>[.ptr i0 0,.fn (.func 376) [] []]) (fun i0=>[.str a0.s,.int .i64 a0.at_]) (fun r=>.str r.1) (fun i0 r=>[.str r.2.s,.int .i64 r.2.at_]):=D9 (Df.eq_1 ..) Tryz.func386 rfl Tryz.ntmps386 Tryz.results386 [(2,[],.take 0 (.take 1 (.take 2 (.take 3 (.take 4 (.take 5 (.take 6 (.take 7 (.take 8 (.take 9 (.take 10 (.take 11 (.take 12 (.take 13 (.take 14 (.take 15 (.take 16 (.take 17 (.take 18 (.take 19 (.take 20 (.alt 21 [19,18,17,16,15,14,13,12,9,8,7,6,5,4,3,2,1,0] (.take 22 (.done)) (.stop))))))))))))))))))))))),(4,[],.take 0 (.take 1 (.take 2 (.take 3 (.take 4 (.take 5 (.take 6 (.take 7 (.take 8 (.take 9 (.alt 10 [] (.done) (.stop))))))))))))]
@[reducible, instance] def Qd {a0 k2 k bi0_at_} := LC.mk (X := BI N a0 k2 k bi0_at_) (G := fun k i (s : Unit) => BI N a0 k2 k i) (i := bi0_at_) (k := k) (s := ()) (js := [(10, 30)]) (cs := []) (V := fun i s => []) (Ms := fun i s => [.p [.k, .v (.int .i64 i)]]) rfl (fun i s => BI.eq_1 ..) (fun k i s => BI.eq_2 ..)
instance Rq {a0}:CB vE (Dx N a0) 386 (fun i0=>[.ptr i0 0,.fn (.func 387) [] []]) (fun i0=>[.str a0.s,.int .i64 a0.at_]) (fun r=>.str r.1) (fun i0 r=>[.str r.2.s,.int .i64 r.2.at_]):=D9 (Dx.eq_1 ..) Tryz.func386 rfl Tryz.ntmps386 Tryz.results386 [(2,[],.take 0 (.take 1 (.take 2 (.take 3 (.take 4 (.take 5 (.take 6 (.take 7 (.take 8 (.take 9 (.take 10 (.take 11 (.take 12 (.take 13 (.take 14 (.take 15 (.take 16 (.take 17 (.take 18 (.take 19 (.take 20 (.alt 21 [19,18,17,16,15,14,13,12,9,8,7,6,5,4,3,2,1,0] (.take 22 (.done)) (.stop))))))))))))))))))))))),(4,[],.take 0 (.take 1 (.take 2 (.take 3 (.take 4 (.take 5 (.take 6 (.take 7 (.take 8 (.take 9 (.alt 10 [] (.done) (.stop))))))))))))]
@[reducible, instance] def We {k2 k s0 bi1} := LF.mk (X := Cb N k2 k s0 bi1) (G := fun k (s : (List UInt8) × (List Bool)) => Cb N k2 k s.1 s.2) (s := (s0, bi1)) (js := [(5, 10)]) (cs := [0]) (V := fun s => [.str s.1]) (Ms := fun s => [.s (List.map AVal.bool s.2)]) rfl (fun s => Cb.eq_1 ..) (fun k s => Cb.eq_2 ..)
instance Y4 {a0 a1}:CB vE (strings_trimLeftASCII N a0 a1) 471 (fun i1=>[.str a0,.ptr i1 0]) (fun i1=>List.map AVal.bool a1) (fun r=>.str r.1) (fun i1 r=>List.map AVal.bool r.2):=D9 (strings_trimLeftASCII.eq_1 ..) Tryz.func471 rfl Tryz.ntmps471 Tryz.results471
@[reducible, instance] def VJ {k2 k s0 bi1} := LF.mk (X := CS N k2 k s0 bi1) (G := fun k (s : (List UInt8) × (List Bool)) => CS N k2 k s.1 s.2) (s := (s0, bi1)) (js := [(5, 16)]) (cs := [0]) (V := fun s => [.str s.1]) (Ms := fun s => [.s (List.map AVal.bool s.2)]) rfl (fun s => CS.eq_1 ..) (fun k s => CS.eq_2 ..)
instance YM {a0 a1}:CB vE (strings_trimRightASCII N a0 a1) 474 (fun i1=>[.str a0,.ptr i1 0]) (fun i1=>List.map AVal.bool a1) (fun r=>.str r.1) (fun i1 r=>List.map AVal.bool r.2):=D9 (strings_trimRightASCII.eq_1 ..) Tryz.func474 rfl Tryz.ntmps474 Tryz.results474
instance ANs {a0 a1 a2}:CB vE (DW N a0 a1 a2) 302 (fun i0=>[.ptr i0 0,AB a1,.str a2]) (fun i0=>[.int .i64 a0.e]) (fun r=>.str r.1) (fun i0 r=>[.int .i64 r.2.e]):=D9 (DW.eq_1 ..) Tryz.func302 rfl Tryz.ntmps302 Tryz.results302
instance AO6 {a0 a1 a2 a3 a4}:CB vE (Fj N a0 a1 a2 a3 a4) 303 (fun i0=>[.ptr i0 0,AB a1,.str a2,.int .i64 a3,.int .i64 a4]) (fun i0=>[.int .i64 a0.e]) (fun r=>AB r.1) (fun i0 r=>[.int .i64 r.2.e]):=D9 (Fj.eq_1 ..) Tryz.func303 rfl Tryz.ntmps303 Tryz.results303 [(2,[],.stop)] true
@[reducible, instance] def AGc {k2 y5 k s5 s15} := LF.mk (X := EH N k2 y5 k s5 s15) (G := fun k (s : (List ApiHostPort) × Int) => EH N k2 y5 k s.1 s.2) (s := (s5, s15)) (js := [(7, 5), (16, 33)]) (cs := [5, 15]) (V := fun s => [.slice 2 (List.map Ay s.1) true, .int .i64 s.2]) (Ms := fun s => []) rfl (fun s => EH.eq_1 ..) (fun k s => EH.eq_2 ..)
instance AO7 {a0 a1}:CF vE (KJ N a0 a1) 212 [GZ a0,Aj a1] (fun r=>.slice 2 (List.map Ay r) true):=AR (KJ.eq_1 ..) Tryz.func212 rfl Tryz.ntmps212 Tryz.results212 [(7,[],.stop),(8,[43],.done),(10,[49],.done)]
@[reducible, instance] def XV {k2 xs s3} := LQ.mk (X := Ct N k2 xs s3) (G := fun xs i (s : (List ApiHostPort)) => Ct N k2 xs s) (s := s3) (js := [(5, 1), (9, 9)]) (cs := [3, 8]) (V := fun i s => [.slice 2 (List.map Ay s) true, .int .i64 i]) (Ms := fun i s => []) (fun _ => rfl) (fun i s => Ct.eq_1 ..) (fun x xs i s => Ct.eq_2 ..)
instance AKT {a0}:CF vE (JP N a0) 213 [.slice 4 (List.map Aj a0) false] (fun r=>.slice 2 (List.map Ay r) false):=AR (JP.eq_1 ..) Tryz.func213 rfl Tryz.ntmps213 Tryz.results213 [(5,[12],.done)]
@[reducible, instance] def Mo {k2 k bi0_s bi0_at_} := LF.mk (X := Ai N k2 k bi0_s bi0_at_) (G := fun k (s : (List UInt8) × Int) => Ai N k2 k s.1 s.2) (s := (bi0_s, bi0_at_)) (js := [(10, 23)]) (cs := []) (V := fun s => []) (Ms := fun s => [.s ([.str s.1, .int .i64 s.2])]) rfl (fun s => Ai.eq_1 ..) (fun k s => Ai.eq_2 ..)
instance NP {a0}:CB vE (CJ N a0) 396 (fun i0=>[.ptr i0 0,.fn (.func 397) [] []]) (fun i0=>[.str a0.s,.int .i64 a0.at_]) (fun r=>.str r.1) (fun i0 r=>[.str r.2.s,.int .i64 r.2.at_]):=D9 (CJ.eq_1 ..) Tryz.func396 rfl Tryz.ntmps396 Tryz.results396 [(2,[],.take 0 (.alt 1 [] (.take 2 (.take 3 (.take 4 (.take 5 (.take 6 (.take 7 (.take 8 (.take 9 (.take 10 (.take 11 (.take 12 (.take 13 (.alt 14 [12,11,10,9,8,7,6,5,2,0] (.take 15 (.done)) (.stop)))))))))))))) (.stop))),(4,[],.take 0 (.take 1 (.take 2 (.take 3 (.take 4 (.take 5 (.take 6 (.take 7 (.take 8 (.take 9 (.alt 10 [] (.done) (.stop))))))))))))]
instance AKS {a0 a1}:CB vE (Bl N a0 a1) 311 (fun i0=>[.ptr i0 0,.int .u8 a1]) (fun i0=>[.str a0.s,.int .i64 a0.at_]) (fun r=>.bool r.1) (fun i0 r=>[.str r.2.s,.int .i64 r.2.at_]):=D9 (Bl.eq_1 ..) Tryz.func311 rfl Tryz.ntmps311 Tryz.results311 [(1,[],.take 0 (.alt 1 [] (.take 2 (.take 3 (.take 4 (.take 5 (.take 6 (.take 7 (.take 8 (.take 9 (.take 10 (.take 11 (.take 12 (.take 13 (.take 14 (.done)))))))))))))) (.stop)))]
@[reducible, instance] def AZV {k2 xs} := LQ.mk (X := EC N k2 xs) (G := fun xs i (s : Unit) => EC N k2 xs) (s := ()) (js := [(2, 1), (4, 1), (11, 8)]) (cs := [10]) (V := fun i s => [.int .i64 i]) (Ms := fun i s => []) (fun _ => rfl) (fun i s => EC.eq_1 ..) (fun x xs i s => EC.eq_2 ..)
instance AjQ {a0}:CF vE (MU N a0) 5 [.slice 9 (List.map AL a0) false] (fun r=>.bool r):=AR (MU.eq_1 ..) Tryz.func5 rfl Tryz.ntmps5 Tryz.results5
@[reducible, instance] def ATs {k2 xs s3 s4} := LQ.mk (X := DR N k2 xs s3 s4) (G := fun xs i (s : (List (List ApiExchange)) × (List ApiExchange)) => DR N k2 xs s.1 s.2) (s := (s3, s4)) (js := [(6, 1), (10, 16)]) (cs := [3, 4, 9]) (V := fun i s => [.slice 1 (List.map (fun l => AVal.slice 9 (List.map AL l) false) s.1) true, .slice 9 (List.map AL s.2) true, .int .i64 i]) (Ms := fun i s => []) (fun _ => rfl) (fun i s => DR.eq_1 ..) (fun x xs i s => DR.eq_2 ..)
instance Aay {a0}:CF vE (KT N a0) 7 [.slice 9 (List.map AL a0) false] (fun r=>.slice 1 (List.map (fun l=>AVal.slice 9 (List.map AL l) false) r) false):=AR (KT.eq_1 ..) Tryz.func7 rfl Tryz.ntmps7 Tryz.results7 [(6,[13],.done),(8,[21],.done),(11,[29],.done)]
end Go.Proofs.YtfknikagmmfakaaGreatDoor
