import Derived.Test.YtcahkpfjpeomoaaGreatDoorW18
set_option linter.unusedVariables false
set_option linter.unusedSimpArgs false
set_option maxHeartbeats 4000000
set_option maxRecDepth 100000
set_option linter.defProp false
namespace Go.Proofs.YtcahkpfjpeomoaaGreatDoor
open Go.VM
attribute [local irreducible] AA grd letL
variable{N n:Nat}{m:MS}{Q:PQ}{args:List AVal}
instance Abu {a0}:CF vE (RY N a0) 186 [.str a0] (fun r=>.tuple [MW r.1,.int .i64 r.2]):=AP (RY.eq_1 ..) Tryz.func186 rfl Tryz.ntmps186 Tryz.results186 [(5,[],.stop)]
@[reducible, instance] def AT5 {k18 xs} := LQ.mk (X := IG N k18 xs) (G := fun xs i (s : Unit) => IG N k18 xs) (s := ()) (js := [(3, 1), (7, 2), (42, 15)]) (cs := [41]) (V := fun i s => [.int .i64 i]) (Ms := fun i s => []) (fun _ => rfl) (fun i s => IG.eq_1 ..) (fun x xs i s => IG.eq_2 ..)
instance AbJ {a0}:CF vE (Q0 N a0) 188 [.str a0] (fun r=>.tuple [Lx r.1,.int .i64 r.2]):=AP (Q0.eq_1 ..) Tryz.func188 rfl Tryz.ntmps188 Tryz.results188 [(3,[],.stop),(6,[],.stop),(12,[],.stop)]
instance AaG {a0}:CF vE (OB N a0) 159 [.str a0] (fun r=>.tuple [Cw r.1,.int .i64 r.2]):=AP (OB.eq_1 ..) Tryz.func159 rfl Tryz.ntmps159 Tryz.results159
instance AZX {a0}:CF vE (Mm N a0) 76 [.str a0] (fun r=>.tuple [Aa r.1,.int .i64 r.2]):=AP (Mm.eq_1 ..) Tryz.func76 rfl Tryz.ntmps76 Tryz.results76 [(6,[],.stop),(10,[],.take 0 (.take 1 (.take 3 (.take 4 (.take 5 (.alt 2 [5,4,3,0] (.take 6 (.alt 7 [5,4,3,1,0] (.done) (.stop))) (.stop)))))))]
instance AZy {a0}:CF vE (Mh N a0) 129 [D9 a0] (fun r=>.tuple [.slice 1 (List.map AVal.str r.1) false,Cw r.2.1,.int .i64 r.2.2]):=AP (Mh.eq_1 ..) Tryz.func129 rfl Tryz.ntmps129 Tryz.results129 [(9,[],.take 0 (.take 1 (.take 2 (.alt 3 [2,1] (.alt 4 [2] (.alt 5 [] (.done) (.stop)) (.stop)) (.stop)))))] true
instance AdB {a0 a1 a2}:CF vE (Tm N a0 a1 a2) 250 [Iq a0,.str a1,.int .i64 a2] (fun r=>.tuple [.str r.1,.int .i64 r.2]):=AP (Tm.eq_1 ..) Tryz.func250 rfl Tryz.ntmps250 Tryz.results250 [(5,[],.stop),(7,[],.stop)]
@[reducible, instance] def ARL {y3 y11 k14 k s7 bn3_params bn1} := LF.mk (X := Gx N y3 y11 k14 k s7 bn3_params bn1) (G := fun k (s : Bool × (List ApiField) × GrammarCursor) => Gx N y3 y11 k14 k s.1 s.2.1 s.2.2) (s := (s7, bn3_params, bn1)) (js := [(3, 1), (8, 2), (37, 40)]) (cs := [7]) (V := fun s => [.bool s.1]) (Ms := fun s => [.p [.k, .k, .v (.slice 2 (List.map Af s.2.1) true)], .k, .s ([.str s.2.2.s, .int .i64 s.2.2.at_])]) rfl (fun s => Gx.eq_1 ..) (fun k s => Gx.eq_2 ..)
instance AZS {a0}:CF vE (Pp N a0) 93 [.str a0] (fun r=>.tuple [K6 r.1,.int .i64 r.2]):=AP (Pp.eq_1 ..) Tryz.func93 rfl Tryz.ntmps93 Tryz.results93 [(7,[],.stop),(9,[],.stop),(18,[],.stop),(20,[],.stop),(21,[72],.done)] true
instance AID {a0}:CB vE (Jp N a0) 205 (fun i0=>[.ptr i0 0]) (fun i0=>[.str a0.s,.int .i64 a0.at_]) (fun r=>.tuple [.int .i64 r.1,.str r.2.1,.int .i64 r.2.2.1]) (fun i0 r=>[.str r.2.2.2.s,.int .i64 r.2.2.2.at_]):=ED (Jp.eq_1 ..) Tryz.func205 rfl Tryz.ntmps205 Tryz.results205 [(1,[],.take 0 (.take 1 (.take 2 (.take 3 (.take 4 (.take 5 (.take 6 (.take 7 (.take 8 (.take 9 (.done))))))))))),(3,[],.take 0 (.take 1 (.take 2 (.take 3 (.take 4 (.take 5 (.take 6 (.take 7 (.take 8 (.alt 9 [] (.done) (.stop))))))))))),(10,[],.stop),(16,[],.stop)]
instance V3 {a0}:CF vE (GN N a0) 260 [.str a0] (fun r=>.tuple [.str r.1,.int .i64 r.2]):=AP (GN.eq_1 ..) Tryz.func260 rfl Tryz.ntmps260 Tryz.results260 [(3,[],.stop),(7,[],.take 0 (.take 1 (.alt 2 [1,0] (.alt 3 [] (.done) (.stop)) (.stop)))),(15,[],.stop)]
theorem Vh {a0 r} (h:GN N a0=some r) (ha:args=[.str a0]) (hQ: ∀n',n≤n'→Gl (Q (.tuple [.str r.1,.int .i64 r.2]) ⟨m,n'⟩)):ACall vE 260 args ⟨m,n⟩ Q:=
 ha▸V3.go h hQ
@[reducible, instance] def AFk {k s4 bn_s bn_at_} := LF.mk (X := DV N k s4 bn_s bn_at_) (G := fun k (s : (List ApiField) × (List UInt8) × Int) => DV N k s.1 s.2.1 s.2.2) (s := (s4, bn_s, bn_at_)) (js := [(2, 2), (6, 3), (12, 44)]) (cs := [4]) (V := fun s => [.slice 2 (List.map Af s.1) true]) (Ms := fun s => [.s ([.str s.2.1, .int .i64 s.2.2])]) rfl (fun s => DV.eq_1 ..) (fun k s => DV.eq_2 ..)
instance ALJ {a0}:CF vE (Kh N a0) 139 [.str a0] (fun r=>.tuple [.slice 2 (List.map Af r.1) false,.bool r.2]):=AP (Kh.eq_1 ..) Tryz.func139 rfl Tryz.ntmps139 Tryz.results139 [(9,[],.stop),(12,[],.stop),(14,[52],.done)] true
instance LY {a0}:CF vE (Bi N a0) 90 [.slice 1 (List.map AVal.str a0) false,.fn (.func 214) [] []] (fun r=>.bool r):=AP (Bi.eq_1 ..) Tryz.func90 rfl Tryz.ntmps90 Tryz.results90
instance AKf {a0}:CB vE (KG N a0) 166 (fun i0=>[.ptr i0 0]) (fun i0=>[.str a0.s,.int .i64 a0.at_]) (fun r=>.tuple [Af r.1,.bool r.2.1]) (fun i0 r=>[.str r.2.2.s,.int .i64 r.2.2.at_]):=ED (KG.eq_1 ..) Tryz.func166 rfl Tryz.ntmps166 Tryz.results166 [(4,[],.stop)]
instance AKW {a0}:CF vE (KS N a0) 131 [.str a0] (fun r=>.tuple [Ap r.1,.int .i64 r.2]):=AP (KS.eq_1 ..) Tryz.func131 rfl Tryz.ntmps131 Tryz.results131 [(4,[],.take 0 (.take 2 (.take 3 (.alt 1 [3,2] (.alt 4 [2,0] (.alt 5 [] (.alt 6 [] (.done) (.stop)) (.stop)) (.stop)) (.stop)))))]
instance AKX {a0}:CF vE (KJ N a0) 132 [.str a0] (fun r=>.tuple [Ap r.1,.int .i64 r.2]):=AP (KJ.eq_1 ..) Tryz.func132 rfl Tryz.ntmps132 Tryz.results132 [(4,[],.take 0 (.take 2 (.take 3 (.alt 1 [3,2] (.alt 4 [2,0] (.alt 5 [] (.alt 6 [] (.done) (.stop)) (.stop)) (.stop)) (.stop)))))]
instance AYP {a0}:CF vE (Iz N a0) 99 [.str a0] (fun r=>.tuple [Aa r.1,.int .i64 r.2]):=AP (Iz.eq_1 ..) Tryz.func99 rfl Tryz.ntmps99 Tryz.results99 [(6,[],.stop)]
instance AMI {a0}:CF vE (JE N a0) 192 [D9 a0] (fun r=>.tuple [Cw r.1,.int .i64 r.2]):=AP (JE.eq_1 ..) Tryz.func192 rfl Tryz.ntmps192 Tryz.results192
instance AdG {a0}:CF vE (TY N a0) 40 [.str a0] (fun r=>.tuple [Ap r.1,.int .i64 r.2]):=AP (TY.eq_1 ..) Tryz.func40 rfl Tryz.ntmps40 Tryz.results40 [(4,[],.take 0 (.take 2 (.take 3 (.take 4 (.take 5 (.alt 1 [5,4,3,2] (.alt 6 [4,2,0] (.alt 7 [] (.alt 8 [] (.done) (.stop)) (.stop)) (.stop)) (.stop)))))))]
@[reducible, instance] def APB {k4 xs s7} := LQ.mk (X := He N k4 xs s7) (G := fun xs i (s : (List UInt8)) => He N k4 xs s) (s := s7) (js := [(3, 1), (9, 3), (27, 25)]) (cs := [7, 26]) (V := fun i s => [.str s, .int .i64 i]) (Ms := fun i s => []) (fun _ => rfl) (fun i s => He.eq_1 ..) (fun x xs i s => He.eq_2 ..)
instance AZ6 {a0}:CF vE (PM N a0) 127 [D9 a0] (fun r=>.tuple [Aa r.1,.int .i64 r.2]):=AP (PM.eq_1 ..) Tryz.func127 rfl Tryz.ntmps127 Tryz.results127 [(9,[],.stop)]
instance AZZ {a0}:CF vE (Pt N a0) 184 [Aa a0] (fun r=>.bool r):=AP (Pt.eq_1 ..) Tryz.func184 rfl Tryz.ntmps184 Tryz.results184 [(2,[],.stop)]
instance AN9 {a0}:CF vE (LW N a0) 79 [D9 a0] (fun r=>.tuple [Cw r.1,.int .i64 r.2]):=AP (LW.eq_1 ..) Tryz.func79 rfl Tryz.ntmps79 Tryz.results79
instance ZJ {a0 a1}:CF vE (L9 N a0 a1) 147 [.str a0,.int .i64 a1] (fun r=>.tuple [Ev r.1,.int .i64 r.2.1,.int .i64 r.2.2]):=AP (L9.eq_1 ..) Tryz.func147 rfl Tryz.ntmps147 Tryz.results147 [(1,[],.stop),(9,[],.take 0 (.take 1 (.take 2 (.take 4 (.take 5 (.take 6 (.take 7 (.alt 3 [7,6,5,4] (.alt 8 [7,6,5,4] (.alt 9 [] (.alt 10 [] (.done) (.stop)) (.stop)) (.stop)) (.stop)))))))))]
theorem AEf {a0 a1 r} (h:L9 N a0 a1=some r) (ha:args=[.str a0,.int .i64 a1]) (hQ: ∀n',n≤n'→Gl (Q (.tuple [Ev r.1,.int .i64 r.2.1,.int .i64 r.2.2]) ⟨m,n'⟩)):ACall vE 147 args ⟨m,n⟩ Q:=
 ha▸ZJ.go h hQ
instance Afh {a0}:CF vE (Vw N a0) 92 [Iq a0] (fun r=>UE r):=AP (Vw.eq_1 ..) Tryz.func92 rfl Tryz.ntmps92 Tryz.results92 [(8,[],.stop),(10,[],.stop)]
instance APQ {a0}:CF vE (MN N a0) 154 [.str a0] (fun r=>.bool r):=AP (MN.eq_1 ..) Tryz.func154 rfl Tryz.ntmps154 Tryz.results154 [(1,[],.stop)]
@[reducible, instance] def AOO {k4 k s5 bn2_params bi0} := LF.mk (X := F3 N k4 k s5 bn2_params bi0) (G := fun k (s : Bool × (List ApiField) × GrammarCursor) => F3 N k4 k s.1 s.2.1 s.2.2) (s := (s5, bn2_params, bi0)) (js := [(7, 1), (17, 20)]) (cs := [5]) (V := fun s => [.bool s.1]) (Ms := fun s => [.p [.k, .k, .v (.slice 2 (List.map Af s.2.1) true)], .k, .s ([.str s.2.2.s, .int .i64 s.2.2.at_])]) rfl (fun s => F3.eq_1 ..) (fun k s => F3.eq_2 ..)
instance AUy {a0}:CB vE (Nz N a0) 105 (fun i0=>[.ptr i0 0]) (fun i0=>[.str a0.s,.int .i64 a0.at_]) (fun r=>.tuple [JR r.1,.bool r.2.1]) (fun i0 r=>[.str r.2.2.s,.int .i64 r.2.2.at_]):=ED (Nz.eq_1 ..) Tryz.func105 rfl Tryz.ntmps105 Tryz.results105 [(4,[],.stop),(9,[32],.done)]
instance ALr {a0}:CF vE (Kg N a0) 133 [.str a0] (fun r=>.tuple [Ap r.1,.int .i64 r.2]):=AP (Kg.eq_1 ..) Tryz.func133 rfl Tryz.ntmps133 Tryz.results133 [(4,[],.take 0 (.take 2 (.take 3 (.take 4 (.take 5 (.alt 1 [5,4,3,2] (.alt 6 [4,2,0] (.alt 7 [] (.alt 8 [] (.done) (.stop)) (.stop)) (.stop)) (.stop)))))))]
instance AX2 {a0}:CF vE (OQ N a0) 243 [D9 a0] (fun r=>.tuple [Aa r.1,.int .i64 r.2]):=AP (OQ.eq_1 ..) Tryz.func243 rfl Tryz.ntmps243 Tryz.results243 [(10,[],.take 1 (.take 2 (.alt 0 [2,1] (.alt 3 [2,1] (.alt 4 [] (.done) (.stop)) (.stop)) (.stop))))]
instance AUH {a0}:CF vE (JH N a0) 107 [Aa a0] (fun r=>.bool r):=AP (JH.eq_1 ..) Tryz.func107 rfl Tryz.ntmps107 Tryz.results107 [(2,[],.stop)]
@[reducible, instance] def ALe {k28 xs} := LQ.mk (X := E8 N k28 xs) (G := fun xs i (s : Unit) => E8 N k28 xs) (s := ()) (js := [(3, 1), (62, 18)]) (cs := [8]) (V := fun i s => [.int .i64 i]) (Ms := fun i s => []) (fun _ => rfl) (fun i s => E8.eq_1 ..) (fun x xs i s => E8.eq_2 ..)
@[reducible, instance] def ANy {a0 k19 xs s5} := LQ.mk (X := FH N a0 k19 xs s5) (G := fun xs i (s : (List UInt8)) => FH N a0 k19 xs s) (s := s5) (js := [(3, 1), (7, 4), (59, 38)]) (cs := [5, 58]) (V := fun i s => [.str s, .int .i64 i]) (Ms := fun i s => []) (fun _ => rfl) (fun i s => FH.eq_1 ..) (fun x xs i s => FH.eq_2 ..)
instance ATc {a0}:CF vE (NC N a0) 128 [Aa a0] (fun r=>.tuple [D9 r.1,.int .i64 r.2]):=AP (NC.eq_1 ..) Tryz.func128 rfl Tryz.ntmps128 Tryz.results128 [(4,[],.stop),(18,[],.stop)]
end Go.Proofs.YtcahkpfjpeomoaaGreatDoor
