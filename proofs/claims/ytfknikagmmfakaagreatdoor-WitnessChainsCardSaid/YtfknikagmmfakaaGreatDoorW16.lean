import Derived.Test.YtfknikagmmfakaaGreatDoorW13
import Derived.Test.YtfknikagmmfakaaGreatDoorW14
set_option linter.unusedVariables false
set_option linter.unusedSimpArgs false
set_option maxHeartbeats 4000000
set_option maxRecDepth 100000
set_option linter.defProp false
namespace Go.Proofs.YtfknikagmmfakaaGreatDoor
open Go.VM
attribute [local irreducible] AA grd letL
variable{N n:Nat}{m:MS}{Q:PQ}{args:List AVal}
instance Al9 {a0}:CF vE (WV N a0) 357 [.str a0] (fun r=>.tuple [.str r.1,.str r.2.1,.int .i64 r.2.2]):=AR (WV.eq_1 ..) Tryz.func357 rfl Tryz.ntmps357 Tryz.results357 [(3,[],.stop)]
instance AcX {a0 a1}:CF vE (KU N a0 a1) 209 [.str a0,.int .u64 a1] (fun r=>.tuple [.int .u64 r.1,.int .i64 r.2]):=AR (KU.eq_1 ..) Tryz.func209 rfl Tryz.ntmps209 Tryz.results209
theorem Rh {a0 a1 a2 a3 r} (h:strings_genSplit N a0 a1 a2 a3=some r) (ha:args=[.str a0,.str a1,.int .i64 a2,.int .i64 a3]) (hQ: ∀n',n≤n'→Gl (Q (.slice 1 (List.map AVal.str r) false) ⟨m,n'⟩)):ACall vE 296 args ⟨m,n⟩ Q:=by
 rw[strings_genSplit]at h
 subst ha
 refine ACall.give (Ab7 Tryz.func296 rfl Tryz.ntmps296 Tryz.results296 (.q (.r []) (.q (.q (.r []) (.c (.q (.r []) .z) .z)) (.q (.q (.r []) (.c (.q (.r []) .z) .z)) .z))) (fun R hR=>?_))
 replace h:=And.intro trivial h
 rcases Ig h with h|h
 cases h.2
 rcases Ig h with h|h
 cases h.2
 simp(disch:=omega) only[vm,seval,h.1]
 refine⟨QD (γ:=Unit) h [19,20,21,22,23,24] [3] (fun j1 g=>[.int .i64 j1]) (fun j1 g=>m) (.q (.r []) (.c (.r []) .z)) ?_ ?_⟩<;>clear h
 rintro j1 _ n4 hnn4 _ _ h
 refine Cv (.q (.r []) (.q (.r []) (.q (.r []) (.q (.r []) .z)))) ?_
 obtain⟨c,h⟩:=Mj h
 try simp only[liE,seval]at c
 replace h:=Ke c h
 simp(disch:=omega) only[vm,seval,h.1]
 refine⟨QD (γ:=Unit) h [11,34,35,36,37,38,39,40,41,42,43,44,45,46,47,48,49,50,51,52,53,54,55,56,57] [0,10] (fun j7 g=>[.str j7.1,.int .i64 j7.2.1]) (fun j7 g=>(n4,List.map AVal.str j7.2.2)::m) .z ?_ ?_⟩<;>clear h
 rintro j7 _ n10 hnn10 _ _ h
 refine Cv (.q (.r []) (.q (.r []) .z)) ?_
 obtain⟨c,h⟩:=Mj h
 try simp only[liE,seval]at c
 replace h:=Ke c h
 obtain⟨c,h⟩:=Mj h
 try simp only[liE,seval]at c
 replace h:=Ke c h
 obtain⟨c,h⟩:=Mj h
 try simp only[liE,seval]at c
 replace h:=Ke c h
 obtain⟨cg,h⟩:=Mj h
 obtain⟨H,h⟩:=h
 cases h
 simp(disch:=omega) only[vm,seval,H]
 refine⟨(hR _ _ _ _ _ _ (by simp(disch:=omega) only[vm,seval,H];rfl) slr (by omega) ⟨[_],_,_,rfl,AY5 (l:=(j7.2.2.set j7.2.1.toNat j7.1)) (by simpa only[List.length_set]using cg),rfl,(hQ _ (by first|omega|(dsimp only;omega))).go⟩).1⟩
 intro k8 Jk8 hk8 h
 obtain⟨hfk11,h⟩:=Mj h
 simp(disch:=omega) only[vm,seval,h.1]
 refine⟨AeM (σ:=(List UInt8)×(List (List UInt8))) (γ:=Unit) 0 (wr .i64 ((if(wr .i64 ((a0.length:Int)+1))<j1 then(wr .i64 ((a0.length:Int)+1))else j1)-1)) hfk11 (fun xs i s=>Cz N a0 a1 a2 j1 k8 xs i s.1 s.2) (fun i s g=>[.str s.1,.int .i64 i]) (fun i s g=>(n4,List.map AVal.str s.2)::m) [11,34,35,36,37,38,39,40,41,42,43,44,45,46,47,48,49,50,51,52,53,54,55,56,57] [0,10] (a0,(List.replicate (if(wr .i64 ((a0.length:Int)+1))<j1 then(wr .i64 ((a0.length:Int)+1))else j1).toNat ([]:List UInt8))) () h tD tD ?_ ?_⟩<;>clear h
 rintro s10 ⟨s0,bn4⟩ _ nL0_1 hnL0_1 _ h
 change _∧Cz N a0 a1 a2 j1 k8 0 s10 s0 bn4=_ at h
 rw[Cz]at h
 refine Cv (.q (.q (.r []) (.c .z .z)) (.q (.r []) (.q (.q (.r []) (.c .z .z)) (.q (.r []) (.q (.r []) (.r [])))))) ?_
 exact tJ (hk8 (s0,s10,bn4) ())
 rintro xsk11 s10 ⟨s0,bn4⟩ _ nL0_1 hnL0_1 _ h Jk11 hk11
 change _∧Cz N a0 a1 a2 j1 k8 (xsk11+1) s10 s0 bn4=_ at h
 rw[Cz]at h
 refine Cv (.q (.q (.r []) (.c .z .z)) (.q (.r []) (.q (.q (.r []) (.c .z .z)) (.q (.r []) (.q (.r []) (.r [])))))) ?_
 obtain⟨y12,h⟩:=EN h
 simp(disch:=omega) only[vm,seval,h.1]
 refine⟨VA h.1.1 tD fun n13 hn13=>?_⟩
 rcases Ig h with h|h
 exact tJ (hk8 (s0,s10,bn4) ())
 obtain⟨x14,h⟩:=EN h
 obtain⟨c,h⟩:=Mj h
 try simp only[liE,seval]at c
 replace h:=Ke c h
 obtain⟨c,h⟩:=Mj h
 try simp only[liE,seval]at c
 replace h:=Ke c h
 obtain⟨x15,h⟩:=EN h
 exact tJ (hk11 (x15,(bn4.set s10.toNat x14)) ())
 intro k2 Jk2 hk2 h
 rcases Ig h with h|h
 obtain⟨y5,h⟩:=EN h
 simp(disch:=omega) only[vm,seval,h.1]
 refine⟨Un h.1.1 tD fun n6 hn6=>?_⟩
 exact tJ (hk2 (wr .i64 (y5+1)) ())
 exact tJ (hk2 a3 ())
instance ARc {a0 a1 a2 a3}:CF vE (strings_genSplit N a0 a1 a2 a3) 296 [.str a0,.str a1,.int .i64 a2,.int .i64 a3] (fun r=>.slice 1 (List.map AVal.str r) false):=⟨fun h hQ=>Rh h rfl hQ⟩
@[reducible, instance] def Aa8 {k s0} := LF.mk (X := JH N k s0) (G := fun k (s : (List UInt8)) => JH N k s) (s := s0) (js := [(2, 19)]) (cs := [0]) (V := fun s => [.str s]) (Ms := fun s => []) rfl (fun s => JH.eq_1 ..) (fun k s => JH.eq_2 ..)
instance Ajx {a0}:CF vE (TJ N a0) 423 [.str a0] (fun r=>.bool r):=AR (TJ.eq_1 ..) Tryz.func423 rfl Tryz.ntmps423 Tryz.results423
@[reducible, instance] def AKP {k17 xs s8 bn15} := LR.mk (X := Dt N k17 xs s8 bn15) (G := fun xs i (s : (List Bool)) => Dt N k17 xs i s) (i := s8) (s := bn15) (js := [(4, 1), (33, 11)]) (cs := [8]) (V := fun i s => [.int .i64 i]) (Ms := fun i s => [.s (List.map AVal.bool s)]) rfl (fun i s => Dt.eq_1 ..) (fun x xs i s => Dt.eq_2 ..)
@[reducible, instance] def AKJ {a0 a1 k24 k s45} := LF.mk (X := Dr N a0 a1 k24 k s45) (G := fun k (s : Nat) => Dr N a0 a1 k24 k s) (s := s45) (js := [(4, 1), (9, 2), (46, 9)]) (cs := [45]) (V := fun s => [.iter a0 s]) (Ms := fun s => []) rfl (fun s => Dr.eq_1 ..) (fun k s => Dr.eq_2 ..)
instance ARH {a0 a1}:CF vE (strings_IndexAny N a0 a1) 295 [.str a0,.str a1] (fun r=>.int .i64 r):=AR (strings_IndexAny.eq_1 ..) Tryz.func295 rfl Tryz.ntmps295 Tryz.results295
instance Aax {a0}:CF vE (Lt N a0) 136 [.str a0] (fun r=>.tuple [YY r.1,.int .i64 r.2]):=AR (Lt.eq_1 ..) Tryz.func136 rfl Tryz.ntmps136 Tryz.results136 [(14,[],.stop)]
instance ATg {a0}:CB vE (Je N a0) 124 (fun i0=>[.ptr i0 0]) (fun i0=>[.str a0.rest,.bool a0.more]) (fun r=>.str r.1) (fun i0 r=>[.str r.2.rest,.bool r.2.more]):=D9 (Je.eq_1 ..) Tryz.func124 rfl Tryz.ntmps124 Tryz.results124
instance AZz {a0}:CF vE (LG N a0) 197 [.int .u8 a0] (fun r=>.bool r):=AR (LG.eq_1 ..) Tryz.func197 rfl Tryz.ntmps197 Tryz.results197 [(1,[],.stop)]
instance AmN {a0 a1}:CF vE (LK N a0 a1) 128 [EP a0,.str a1] (fun r=>.tuple [.str r.1,.bool r.2]):=AR (LK.eq_1 ..) Tryz.func128 rfl Tryz.ntmps128 Tryz.results128
instance AiJ {a0 a1}:CF vE (RX N a0 a1) 292 [.str a0,.int .u64 a1] (fun r=>.tuple [.int .u64 r.1,.int .i64 r.2]):=AR (RX.eq_1 ..) Tryz.func292 rfl Tryz.ntmps292 Tryz.results292
@[reducible, instance] def AIV {k2 k bn_addr bn_buf bi0_s bi0_at_} := LF.mk (X := Da N k2 k bn_addr bn_buf bi0_s bi0_at_) (G := fun k (s : Bool × (List UInt8) × (List UInt8) × Int) => Da N k2 k s.1 s.2.1 s.2.2.1 s.2.2.2) (s := (bn_addr, bn_buf, bi0_s, bi0_at_)) (js := [(2, 2), (5, 4), (16, 50)]) (cs := []) (V := fun s => []) (Ms := fun s => [.t (fun q => [F8 q 274 2 s.1, .buf 5 s.2.1 true]), .s ([.str s.2.2.1, .int .i64 s.2.2.2])]) rfl (fun s => Da.eq_1 ..) (fun k s => Da.eq_2 ..)
instance APA {a0}:CB vE (KF N a0) 436 (fun i0=>[.ptr i0 0]) (fun i0=>[.str a0.s,.int .i64 a0.at_]) (fun r=>.tuple [.str r.1,.int .i64 r.2.1]) (fun i0 r=>[.str r.2.2.s,.int .i64 r.2.2.at_]):=D9 (KF.eq_1 ..) Tryz.func436 rfl Tryz.ntmps436 Tryz.results436 [(3,[],.take 0 (.take 1 (.take 2 (.take 3 (.take 4 (.take 5 (.take 6 (.take 7 (.take 8 (.take 9 (.done))))))))))),(5,[],.take 0 (.take 1 (.take 2 (.take 3 (.take 4 (.take 5 (.take 6 (.take 7 (.take 8 (.alt 9 [] (.done) (.stop)))))))))))]
instance AKI {a0}:CB vE (F9 N a0) 437 (fun i0=>[.ptr i0 0]) (fun i0=>[.str a0.s,.int .i64 a0.at_]) (fun r=>.tuple [.str r.1,.bool r.2.1]) (fun i0 r=>[.str r.2.2.s,.int .i64 r.2.2.at_]):=D9 (F9.eq_1 ..) Tryz.func437 rfl Tryz.ntmps437 Tryz.results437 [(3,[],.stop),(12,[],.take 0 (.take 1 (.take 2 (.take 3 (.take 4 (.take 5 (.take 6 (.take 7 (.take 8 (.take 9 (.alt 10 [] (.alt 11 [] (.done) (.stop)) (.stop))))))))))))]
instance ZU {a0 a1}:CF vE (Fe N a0 a1) 478 [.str a0,.int .i32 a1] (fun r=>.bool r):=AR (Fe.eq_1 ..) Tryz.func478 rfl Tryz.ntmps478 Tryz.results478
instance ARt {a0 a1}:CB vE (Kq N a0 a1) 306 (fun i0=>[.ptr i0 0,AB a1]) (fun i0=>[.int .i64 a0.e]) (fun r=>BS r.1) (fun i0 r=>[.int .i64 r.2.e]):=D9 (Kq.eq_1 ..) Tryz.func306 rfl Tryz.ntmps306 Tryz.results306
@[reducible, instance] def AQm {k s4 bn_s bn_at_} := LF.mk (X := Ed N k s4 bn_s bn_at_) (G := fun k (s : (List ApiWebLink) × (List UInt8) × Int) => Ed N k s.1 s.2.1 s.2.2) (s := (s4, bn_s, bn_at_)) (js := [(2, 2), (6, 2), (11, 38)]) (cs := [4]) (V := fun s => [.slice 3 (List.map K5 s.1) true]) (Ms := fun s => [.s ([.str s.2.1, .int .i64 s.2.2])]) rfl (fun s => Ed.eq_1 ..) (fun k s => Ed.eq_2 ..)
instance AZS {a0}:CF vE (NW N a0) 215 [.str a0] (fun r=>.tuple [.slice 3 (List.map K5 r.1) false,.int .i64 r.2]):=AR (NW.eq_1 ..) Tryz.func215 rfl Tryz.ntmps215 Tryz.results215 [(12,[],.stop),(14,[45],.done)] true
instance AgY {a0 a1}:CF vE (PD N a0 a1) 313 [Kb a0,Kb a1] (fun r=>Kb r):=AR (PD.eq_1 ..) Tryz.func313 rfl Tryz.ntmps313 Tryz.results313 [(11,[],.take 0 (.take 1 (.take 2 (.take 3 (.take 4 (.alt 5 [3,2] (.take 6 (.alt 7 [] (.done) (.stop))) (.stop))))))),(12,[],.take 0 (.take 1 (.take 2 (.take 3 (.take 4 (.alt 5 [3,2] (.take 6 (.alt 7 [] (.done) (.stop))) (.stop))))))),(14,[],.take 0 (.take 1 (.take 2 (.take 3 (.take 4 (.alt 5 [3,2] (.take 6 (.alt 7 [] (.done) (.stop))) (.stop)))))))]
instance Al5 {a0}:CF vE (WM N a0) 314 [Kb a0] (fun r=>.str r):=AR (WM.eq_1 ..) Tryz.func314 rfl Tryz.ntmps314 Tryz.results314
@[reducible, instance] def Abt {a0 k2 xs} := LQ.mk (X := I4 N a0 k2 xs) (G := fun xs i (s : Unit) => I4 N a0 k2 xs) (s := ()) (js := [(4, 1), (6, 1), (10, 14)]) (cs := [9]) (V := fun i s => [.int .i64 i]) (Ms := fun i s => []) (fun _ => rfl) (fun i s => I4.eq_1 ..) (fun x xs i s => I4.eq_2 ..)
instance Ajq {a0 a1}:CF vE (Tv N a0 a1) 328 [Fu a0,.slice 1 (List.map AVal.str a1) false] (fun r=>.bool r):=AR (Tv.eq_1 ..) Tryz.func328 rfl Tryz.ntmps328 Tryz.results328
@[reducible, instance] def ATw {k4 xs} := LQ.mk (X := FR N k4 xs) (G := fun xs i (s : Unit) => FR N k4 xs) (s := ()) (js := [(2, 1), (5, 3), (13, 11)]) (cs := [12]) (V := fun i s => [.int .i64 i]) (Ms := fun i s => []) (fun _ => rfl) (fun i s => FR.eq_1 ..) (fun x xs i s => FR.eq_2 ..)
instance Ae3 {a0}:CF vE (OQ N a0) 71 [.str a0] (fun r=>.bool r):=AR (OQ.eq_1 ..) Tryz.func71 rfl Tryz.ntmps71 Tryz.results71
instance AgB {a0}:CF vE (LJ N a0) 249 [.str a0] (fun r=>.bool r):=AR (LJ.eq_1 ..) Tryz.func249 rfl Tryz.ntmps249 Tryz.results249
instance Ab5 {a0}:CF vE (OW N a0) 411 [.str a0] (fun r=>.tuple [.agg [.int .i64 r.1.minor,.int .i64 r.1.status,.slice 2 (List.map Ae r.1.fields) true],.bool r.2]):=AR (OW.eq_1 ..) Tryz.func411 rfl Tryz.ntmps411 Tryz.results411 [(1,[],.stop),(4,[],.stop)]
@[reducible, instance] def AZP {a0 k2 k s7} := LF.mk (X := IR N a0 k2 k s7) (G := fun k (s : Int) => IR N a0 k2 k s) (s := s7) (js := [(13, 12)]) (cs := [7]) (V := fun s => [.int .i64 s]) (Ms := fun s => []) rfl (fun s => IR.eq_1 ..) (fun k s => IR.eq_2 ..)
instance AiF {a0 a1}:CF vE (Q0 N a0 a1) 449 [.str a0,.int .i64 a1] (fun r=>.tuple [.int .u64 r.1,.int .i64 r.2.1,.int .i64 r.2.2]):=AR (Q0.eq_1 ..) Tryz.func449 rfl Tryz.ntmps449 Tryz.results449 [(2,[],.stop),(6,[],.stop)]
@[reducible, instance] def AWB {a0 y12 y14 k s5 bn15_params} := LF.mk (X := Gn N a0 y12 y14 k s5 bn15_params) (G := fun k (s : Int × (List ApiField)) => Gn N a0 y12 y14 k s.1 s.2) (s := (s5, bn15_params)) (js := [(3, 1), (9, 4), (52, 59)]) (cs := [5]) (V := fun s => [.int .i64 s.1]) (Ms := fun s => [.p [.k, .k, .v (.slice 2 (List.map Ae s.2) true)]]) rfl (fun s => Gn.eq_1 ..) (fun k s => Gn.eq_2 ..)
instance Af8 {a0}:CF vE (QF N a0) 343 [.str a0] (fun r=>.tuple [Fu r.1,.bool r.2]):=AR (QF.eq_1 ..) Tryz.func343 rfl Tryz.ntmps343 Tryz.results343 [(2,[],.stop),(14,[],.stop),(19,[102],.take 0 (.take 2 (.take 4 (.take 8 (.alt 1 [8,4,2] (.alt 3 [8,4,0] (.alt 5 [8,2,0] (.take 6 (.alt 7 [8,4,2,0] (.take 9 (.alt 10 [8] (.alt 11 [] (.done) (.stop)) (.stop))) (.stop))) (.stop)) (.stop)) (.alt 3 [8,4,0] (.alt 1 [8,4,2] (.alt 5 [8,2,0] (.take 6 (.alt 7 [8,4,2,0] (.take 9 (.alt 10 [8] (.alt 11 [] (.done) (.stop)) (.stop))) (.stop))) (.stop)) (.alt 5 [8,2,0] (.take 6 (.alt 1 [6,8,4,2] (.alt 7 [8,4,2,0] (.take 9 (.alt 10 [8] (.alt 11 [] (.done) (.stop)) (.stop))) (.stop)) (.stop))) (.stop))) (.stop)))))))] true
@[reducible, instance] def AZu {a0 k6 k s1} := LF.mk (X := Hw N a0 k6 k s1) (G := fun k (s : Int) => Hw N a0 k6 k s) (s := s1) (js := [(23, 12)]) (cs := [1]) (V := fun s => [.int .i64 s]) (Ms := fun s => []) rfl (fun s => Hw.eq_1 ..) (fun k s => Hw.eq_2 ..)
@[reducible, instance] def AZi {a0 j5 k31 k s12} := LF.mk (X := IB N a0 j5 k31 k s12) (G := fun k (s : Int) => IB N a0 j5 k31 k s) (s := s12) (js := [(100, 16)]) (cs := [12]) (V := fun s => [.int .i64 s]) (Ms := fun s => []) rfl (fun s => IB.eq_1 ..) (fun k s => IB.eq_2 ..)
instance AjE {a0 a1}:CF vE (RJ N a0 a1) 421 [.str a0,.int .i64 a1] (fun r=>.tuple [Cm r.1,.int .i64 r.2.1,.int .i64 r.2.2]):=AR (RJ.eq_1 ..) Tryz.func421 rfl Tryz.ntmps421 Tryz.results421 [(1,[],.stop),(3,[],.stop),(15,[],.stop),(21,[],.stop),(24,[],.stop)]
@[reducible, instance] def AKH {a0 k s4 s5} := LF.mk (X := Dq N a0 k s4 s5) (G := fun k (s : (List ApiField) × Int) => Dq N a0 k s.1 s.2) (s := (s4, s5)) (js := [(2, 2), (6, 68)]) (cs := [4, 5]) (V := fun s => [.slice 2 (List.map Ae s.1) true, .int .i64 s.2]) (Ms := fun s => []) rfl (fun s => Dq.eq_1 ..) (fun k s => Dq.eq_2 ..)
instance AQ3 {a0}:CF vE (Ko N a0) 177 [.str a0] (fun r=>.tuple [.slice 2 (List.map Ae r.1) false,.bool r.2]):=AR (Ko.eq_1 ..) Tryz.func177 rfl Tryz.ntmps177 Tryz.results177 [(5,[],.stop),(10,[],.stop),(14,[58],.done)] true
instance AZy {a0}:CF vE (LH N a0) 178 [.str a0] (fun r=>.tuple [.int .u64 r.1,.bool r.2]):=AR (LH.eq_1 ..) Tryz.func178 rfl Tryz.ntmps178 Tryz.results178
@[reducible, instance] def AAw {a0 a1 k2 k s7 bn} := LF.mk (X := De N a0 a1 k2 k s7 bn) (G := fun k (s : Int × (List Int)) => De N a0 a1 k2 k s.1 s.2) (s := (s7, bn)) (js := [(4, 2), (8, 3), (14, 43)]) (cs := [7]) (V := fun s => [.int .i64 s.1]) (Ms := fun s => [.s ([.slice 1 (List.map (AVal.int .u8) s.2) true])]) rfl (fun s => De.eq_1 ..) (fun k s => De.eq_2 ..)
instance APE {a0 a1}:CF vE (EJ N a0 a1) 279 [.str a0,.str a1] (fun r=>.tuple [.str r.1,.int .i64 r.2]):=AR (EJ.eq_1 ..) Tryz.func279 rfl Tryz.ntmps279 Tryz.results279 [(15,[38],.done),(17,[],.stop),(18,[53],.done)]
instance AZG {a0 a1}:CF vE (K4 N a0 a1) 196 [.str a0,.int .u64 a1] (fun r=>.tuple [.int .u64 r.1,.int .i64 r.2]):=AR (K4.eq_1 ..) Tryz.func196 rfl Tryz.ntmps196 Tryz.results196 [(1,[],.stop)]
instance AZM {a0 a1}:CF vE (strings_Split N a0 a1) 207 [.str a0,.str a1] (fun r=>.slice 1 (List.map AVal.str r) false):=AR (strings_Split.eq_1 ..) Tryz.func207 rfl Tryz.ntmps207 Tryz.results207
instance Ajm {a0}:CF vE (Nl N a0) 275 [.str a0] (fun r=>.tuple [Kb r.1,.int .i64 r.2]):=AR (Nl.eq_1 ..) Tryz.func275 rfl Tryz.ntmps275 Tryz.results275 [(7,[],.stop),(10,[],.take 0 (.take 1 (.take 2 (.take 3 (.take 4 (.take 5 (.take 6 (.take 7 (.alt 8 [6,5,4,3] (.take 9 (.alt 10 [6,5,4,3] (.alt 11 [] (.done) (.stop)) (.stop))) (.stop)))))))))),(17,[],.take 0 (.take 1 (.take 2 (.take 3 (.take 4 (.take 5 (.take 6 (.alt 7 [5,4,3] (.alt 8 [] (.done) (.stop)) (.stop)))))))))]
@[reducible, instance] def AdZ {k2 xs} := LQ.mk (X := JB N k2 xs) (G := fun xs i (s : Unit) => JB N k2 xs) (s := ()) (js := [(2, 2), (7, 8)]) (cs := [6]) (V := fun i s => [.int .i64 i]) (Ms := fun i s => []) (fun _ => rfl) (fun i s => JB.eq_1 ..) (fun x xs i s => JB.eq_2 ..)
instance Aj6 {a0}:CF vE (Tu N a0) 125 [.str a0] (fun r=>.bool r):=AR (Tu.eq_1 ..) Tryz.func125 rfl Tryz.ntmps125 Tryz.results125
instance AQS {a0}:CB vE (JJ N a0) 205 (fun i0=>[.ptr i0 0]) (fun i0=>[.str a0.rest,.int .u64 a0.size]) (fun r=>.tuple [.str r.1,.int .i64 r.2.1]) (fun i0 r=>[.str r.2.2.rest,.int .u64 r.2.2.size]):=D9 (JJ.eq_1 ..) Tryz.func205 rfl Tryz.ntmps205 Tryz.results205
end Go.Proofs.YtfknikagmmfakaaGreatDoor
