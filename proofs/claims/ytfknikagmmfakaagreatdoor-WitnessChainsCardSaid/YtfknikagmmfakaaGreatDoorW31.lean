import Derived.Test.YtfknikagmmfakaaGreatDoorW26
import Derived.Test.YtfknikagmmfakaaGreatDoorVM8
set_option linter.unusedVariables false
set_option linter.unusedSimpArgs false
set_option maxHeartbeats 4000000
set_option maxRecDepth 100000
set_option linter.defProp false
namespace Go.Proofs.YtfknikagmmfakaaGreatDoor
open Go.VM
attribute [local irreducible] AA grd letL
variable{N n:Nat}{m:MS}{Q:PQ}{args:List AVal}
instance AjR {a0 a1 a2}:CB vE (Oc N a0 a1 a2) 20 (fun i0=>[.ptr i0 0,Aj a1,.slice 1 (List.map AVal.str a2) false]) (fun i0=>[.slice 1 (List.map (AVal.int .u8) a0.l) false]) (fun r=>.slice 7 (List.map Ap r.1) true) (fun i0 r=>[.slice 1 (List.map (AVal.int .u8) r.2.l) false]):=D9 (Oc.eq_1 ..) Tryz.func20 rfl Tryz.ntmps20 Tryz.results20 [(20,[],.take 0 (.take 3 (.take 4 (.take 5 (.alt 1 [5,4,3] (.alt 2 [5,4,3,0] (.alt 6 [4,3,0] (.alt 7 [5,0] (.alt 8 [5,4,3,0] (.alt 9 [] (.done) (.stop)) (.stop)) (.stop)) (.stop)) (.alt 6 [4,3,0] (.alt 2 [5,4,3,0] (.alt 7 [5,0] (.alt 8 [5,4,3,0] (.alt 9 [] (.done) (.stop)) (.stop)) (.stop)) (.alt 7 [5,0] (.alt 2 [5,4,3,0] (.alt 8 [5,4,3,0] (.alt 9 [] (.done) (.stop)) (.stop)) (.stop)) (.stop))) (.stop))) (.stop)))))),(23,[130],.done),(24,[136],.done),(28,[],.take 0 (.take 2 (.take 5 (.take 6 (.alt 1 [6,5,2] (.alt 3 [6,5,0] (.alt 4 [6,5,2,0] (.alt 7 [5,2,0] (.alt 8 [6,2,0] (.take 9 (.alt 10 [6,5,2,0] (.alt 11 [] (.done) (.stop)) (.stop))) (.stop)) (.stop)) (.alt 7 [5,2,0] (.alt 4 [6,5,2,0] (.alt 8 [6,2,0] (.take 9 (.alt 10 [6,5,2,0] (.alt 11 [] (.done) (.stop)) (.stop))) (.stop)) (.alt 8 [6,2,0] (.take 9 (.alt 4 [9,6,5,2,0] (.alt 10 [6,5,2,0] (.alt 11 [] (.done) (.stop)) (.stop)) (.stop))) (.stop))) (.stop))) (.stop)) (.stop)))))),(31,[167],.done),(32,[173],.done)]
instance AdH {a0 a1 a2}:CF vE (Oe N a0 a1 a2) 54 [.slice 7 (List.map Ap a0) false,.int .u64 a1,Aj a2] (fun r=>.tuple [JV r.1,.int .i64 r.2]):=AR (Oe.eq_1 ..) Tryz.func54 rfl Tryz.ntmps54 Tryz.results54 [] true
instance APG {a0 a1}:CF vE (KQ N a0 a1) 131 [.str a0,Aj a1] (fun r=>.slice 2 (List.map Ay r) true):=AR (KQ.eq_1 ..) Tryz.func131 rfl Tryz.ntmps131 Tryz.results131 [(7,[],.take 0 (.take 1 (.take 3 (.take 4 (.alt 2 [4,3] (.alt 5 [1,0] (.alt 6 [4,3,1,0] (.alt 7 [4,3,1,0] (.alt 8 [] (.done) (.stop)) (.stop)) (.stop)) (.stop)) (.stop)))))),(10,[43],.done),(11,[49],.done)]
@[reducible, instance] def Ml {k2 xs s8_0 bi1_0_0} := LR.mk (X := Ag N k2 xs s8_0 bi1_0_0) (G := fun xs i (s : ApiID) => Ag N k2 xs i s) (i := s8_0) (s := bi1_0_0) (js := [(4, 2), (9, 10)]) (cs := [8]) (V := fun i s => [.int .i64 i]) (Ms := fun i s => [.s ([.int .i64 s.kind, .str s.text, .str s.host, .int .i64 s.port])]) rfl (fun i s => Ag.eq_1 ..) (fun x xs i s => Ag.eq_2 ..)
instance NB {a0 b1_0}:CB vE (Bz N a0 b1_0) 317 (fun i1_0=>[.slice 1 (List.map AVal.str a0) false,.fn (.func 221) [] [.ptr i1_0 0]]) (fun i1_0=>[.int .i64 b1_0.kind,.str b1_0.text,.str b1_0.host,.int .i64 b1_0.port]) (fun r=>.int .i64 r.1) (fun i1_0 r=>[.int .i64 r.2.kind,.str r.2.text,.str r.2.host,.int .i64 r.2.port]):=D9 (Bz.eq_1 ..) Tryz.func317 rfl Tryz.ntmps317 Tryz.results317
instance AUH:CF vE (MN N) 9 [] (fun r=>.tuple [.str r.1,.slice 7 (List.map Ap r.2) true]):=AR (MN.eq_1 ..) Tryz.func9 rfl Tryz.ntmps9 Tryz.results9 [(4,[],.take 0 (.take 1 (.take 2 (.take 3 (.take 4 (.take 5 (.take 6 (.take 8 (.take 9 (.take 10 (.take 11 (.take 12 (.alt 7 [12,11,10,9,8,5,4,1,0] (.alt 13 [11,10,6,5,4,3,2,1,0] (.alt 14 [12,11,10,9,8,6,5,4,3,2,1,0] (.alt 15 [12,11,10,9,8,6,5,4,3,2] (.alt 16 [] (.done) (.stop)) (.stop)) (.stop)) (.stop)) (.stop))))))))))))))]
instance AZU {a0 a1 a2}:CF vE (LA N a0 a1 a2) 21 [.slice 7 (List.map Ap a0) false,.int .u64 a1,Aj a2] (fun r=>.tuple [JV r.1,.int .i64 r.2]):=AR (LA.eq_1 ..) Tryz.func21 rfl Tryz.ntmps21 Tryz.results21
instance AO4 {a0 a1 a2 a3}:CF vE (KL N a0 a1 a2 a3) 61 [.slice 7 (List.map Ap a0) false,.int .u64 a1,Aj a2,AL a3] (fun r=>.slice 2 (List.map Ay r) true):=AR (KL.eq_1 ..) Tryz.func61 rfl Tryz.ntmps61 Tryz.results61 [(5,[],.take 0 (.take 1 (.take 2 (.take 4 (.alt 3 [4,0] (.alt 5 [2,1,0] (.alt 6 [4,2,1,0] (.alt 7 [] (.done) (.stop)) (.stop)) (.stop)) (.stop))))))]
instance Mf {a0 b1_0}:CB vE (Bp N a0 b1_0) 223 (fun i1_0=>[.slice 1 (List.map AVal.str a0) false,.fn (.func 221) [] [.ptr i1_0 0]]) (fun i1_0=>[.int .i64 b1_0.kind,.str b1_0.text,.str b1_0.host,.int .i64 b1_0.port]) (fun r=>.bool r.1) (fun i1_0 r=>[.int .i64 r.2.kind,.str r.2.text,.str r.2.host,.int .i64 r.2.port]):=D9 (Bp.eq_1 ..) Tryz.func223 rfl Tryz.ntmps223 Tryz.results223
@[reducible, instance] def AQN {y1 y3 y6 k9 xs bn41_err bn41_fresh_store bn41_fresh_seconds} := LQ.mk (X := Ei N y1 y3 y6 k9 xs bn41_err bn41_fresh_store bn41_fresh_seconds) (G := fun xs i (s : Int × Bool × Int) => Ei N y1 y3 y6 k9 xs s.1 s.2.1 s.2.2) (s := (bn41_err, bn41_fresh_store, bn41_fresh_seconds)) (js := [(13, 1), (74, 14)]) (cs := [73]) (V := fun i s => [.int .i64 i]) (Ms := fun i s => [.k, .p [.v (.int .i64 s.1), .k, .k, .k, .k, .k, .k, .k, .k, .v (.bool s.2.1), .v (.int .u64 s.2.2)]]) (fun _ => rfl) (fun i s => Ei.eq_1 ..) (fun x xs i s => Ei.eq_2 ..)
instance AZ3 {a0 a1 a2}:CF vE (Ng N a0 a1 a2) 10 [.slice 7 (List.map Ap a0) false,.int .u64 a1,.str a2] (fun r=>JQ r):=AR (Ng.eq_1 ..) Tryz.func10 rfl Tryz.ntmps10 Tryz.results10 [(13,[],.take 0 (.take 1 (.take 3 (.take 4 (.alt 2 [4,3,0] (.alt 5 [3,1,0] (.take 6 (.alt 7 [] (.done) (.stop))) (.stop)) (.stop))))))] true
@[reducible, instance] def AL3 {k17 xs bn1_i2} := LQ.mk (X := Dy N k17 xs bn1_i2) (G := fun xs i (s : (List (List UInt8 × Int))) => Dy N k17 xs s) (s := bn1_i2) (js := [(13, 1), (49, 6)]) (cs := [48]) (V := fun i s => [.int .i64 i]) (Ms := fun i s => [.k, .k, .s ([.hset s])]) (fun _ => rfl) (fun i s => Dy.eq_1 ..) (fun x xs i s => Dy.eq_2 ..)
@[reducible, instance] def AL8 {a0 a1 xk7 k9 xs bn1_i1} := LQ.mk (X := D7 N a0 a1 xk7 k9 xs bn1_i1) (G := fun xs i (s : (List (List UInt8 × Int))) => D7 N a0 a1 xk7 k9 xs s) (s := bn1_i1) (js := [(11, 1), (13, 1), (39, 17)]) (cs := [38]) (V := fun i s => [.int .i64 i]) (Ms := fun i s => [.k, .s ([.hset s])]) (fun _ => rfl) (fun i s => D7.eq_1 ..) (fun x xs i s => D7.eq_2 ..)
@[reducible, instance] def AMo {a0 a1 a2 k4 xs bn1} := LQ.mk (X := D6 N a0 a1 a2 k4 xs bn1) (G := fun xs i (s : (List (List UInt8 × Int))) => D6 N a0 a1 a2 k4 xs s) (s := bn1) (js := [(6, 1), (9, 1), (11, 1), (13, 1), (23, 34)]) (cs := [22]) (V := fun i s => [.int .i64 i]) (Ms := fun i s => [.s ([.hset s])]) (fun _ => rfl) (fun i s => D6.eq_1 ..) (fun x xs i s => D6.eq_2 ..)
instance AS4 {a0 a1 a2}:CF vE (Lh N a0 a1 a2) 25 [.slice 7 (List.map Ap a0) false,.int .u64 a1,JQ a2] (fun r=>.bool r):=AR (Lh.eq_1 ..) Tryz.func25 rfl Tryz.ntmps25 Tryz.results25
instance Afi {a0 a1}:CF vE (P8 N a0 a1) 135 [Dl a0,Aj a1] (fun r=>.tuple [JV r.1,.int .i64 r.2]):=AR (P8.eq_1 ..) Tryz.func135 rfl Tryz.ntmps135 Tryz.results135 [(8,[],.stop),(10,[],.take 0 (.take 1 (.take 2 (.take 4 (.take 5 (.alt 3 [5,4,0] (.alt 6 [4,2,1,0] (.alt 7 [5,4,2,1] (.alt 8 [] (.alt 9 [] (.done) (.stop)) (.stop)) (.stop)) (.stop)) (.stop)))))))] true
instance AZH {a0 a1 a2 a3}:CF vE (Kw N a0 a1 a2 a3) 63 [.slice 7 (List.map Ap a0) false,.int .u64 a1,Aj a2,AL a3] (fun r=>.slice 4 (List.map Aj r) false):=AR (Kw.eq_1 ..) Tryz.func63 rfl Tryz.ntmps63 Tryz.results63 [] true
@[reducible, instance] def AP9 {a0 a1 a2 k2 xs s7} := LQ.mk (X := Ea N a0 a1 a2 k2 xs s7) (G := fun xs i (s : Bool) => Ea N a0 a1 a2 k2 xs s) (s := s7) (js := [(6, 1), (9, 2), (16, 34)]) (cs := [7, 15]) (V := fun i s => [.bool s, .int .i64 i]) (Ms := fun i s => []) (fun _ => rfl) (fun i s => Ea.eq_1 ..) (fun x xs i s => Ea.eq_2 ..)
instance AZ0 {a0 a1 a2}:CF vE (NY N a0 a1 a2) 26 [.slice 7 (List.map Ap a0) false,.int .u64 a1,JQ a2] (fun r=>.bool r):=AR (NY.eq_1 ..) Tryz.func26 rfl Tryz.ntmps26 Tryz.results26 [(6,[],.take 0 (.take 1 (.take 2 (.take 3 (.take 4 (.take 5 (.take 6 (.take 8 (.take 9 (.alt 7 [9,8,4,0] (.alt 10 [8,6,5,4,3,2,0] (.take 11 (.done)) (.stop)) (.stop))))))))))),(8,[],.take 0 (.take 1 (.take 2 (.take 3 (.take 4 (.take 5 (.take 6 (.take 8 (.take 9 (.alt 7 [9,8,4,0] (.alt 10 [8,6,5,4,3,2,0] (.take 11 (.alt 12 [] (.done) (.stop))) (.stop)) (.stop)))))))))))]
@[reducible, instance] def AO0 {a0 a1 k10 xs} := LQ.mk (X := EK N a0 a1 k10 xs) (G := fun xs i (s : Unit) => EK N a0 a1 k10 xs) (s := ()) (js := [(6, 1), (8, 4), (31, 23)]) (cs := [30]) (V := fun i s => [.int .i64 i]) (Ms := fun i s => []) (fun _ => rfl) (fun i s => EK.eq_1 ..) (fun x xs i s => EK.eq_2 ..)
instance AT2 {a0 a1 a2}:CF vE (Ii N a0 a1 a2) 11 [.slice 7 (List.map Ap a0) false,.int .u64 a1,JQ a2] (fun r=>.int .i64 r):=AR (Ii.eq_1 ..) Tryz.func11 rfl Tryz.ntmps11 Tryz.results11 [(1,[],.stop),(7,[],.stop),(10,[],.stop)]
instance AhG:CF vE (Nt N) 4 [] (fun r=>.bool r):=AR (Nt.eq_1 ..) Tryz.func4 rfl Tryz.ntmps4 Tryz.results4 [(5,[],.stop)]
@[reducible, instance] def Xe {a1 k10 xs s23 bn6} := LR.mk (X := BP N a1 k10 xs s23 bn6) (G := fun xs i (s : (List ApiExchange)) => BP N a1 k10 xs i s) (i := s23) (s := bn6) (js := [(5, 1), (24, 19)]) (cs := [23]) (V := fun i s => [.int .i64 i]) (Ms := fun i s => [.s ([.vec 9 (List.map AL s)])]) rfl (fun i s => BP.eq_1 ..) (fun x xs i s => BP.eq_2 ..)
@[reducible, instance] def YL {y24 k27 xs s54} := LR.mk (X := BQ N y24 k27 xs s54) (G := fun xs i (s : Unit) => BQ N y24 k27 xs i) (i := s54) (s := ()) (js := [(4, 1), (8, 1), (55, 13)]) (cs := [54]) (V := fun i s => [.int .i64 i]) (Ms := fun i s => [.d]) rfl (fun i s => BQ.eq_1 ..) (fun x xs i s => BQ.eq_2 ..)
theorem tWx {G : Prop} (x : G := by
  repeat' (first
      | ((with_reducible refine appW_go [20] hD rfl rfl ?_)
         simp (maxSteps := 10000000) (disch := omega) only [vm, wpE, seval, h.1, an_nil])
      | (with_reducible obtain ⟨_, h⟩ := Am9 h)
      | (with_reducible obtain ⟨_, h⟩ := AnS h)
      | ((fail_if_success with_reducible have := EN h)
         (with_reducible obtain ⟨c, h⟩ := Mj h)
         (try simp only [liE, seval] at c)
         replace h := Ke c h)
      | ((with_reducible obtain ⟨_, c, h⟩ := AoW h)
         (first | replace c := And.intro (congrArg (List.map (AVal.int .u8)) c) (congrArg (List.map (AVal.int .i64)) c) | replace c := congrArg (List.map AVal.str) c | replace c := Anr c | skip)
         (try simp only [List.map_cons, List.map_nil, eE] at c)
         replace h := Ke c h)
      | ((with_reducible refine isW ?_)
         simp (maxSteps := 10000000) (disch := omega) only [vm, wpE, seval, h.1])
      | ((with_reducible refine isC ?_)
         first
           | ((with_reducible refine Sr h.1.1 ?_ ?_)
              · exact aW
              intro _ _)
           | ((with_reducible refine AOg h.1.1 ?_ ?_ ?_)
              · exact aW
              · exact sW
              intro _ _)
           | ((with_reducible refine Sr h.1.2.1 ?_ ?_)
              · exact aW
              intro _ _)
           | ((with_reducible refine AOg h.1.2.1 ?_ ?_ ?_)
              · exact aW
              · exact sW
              intro _ _)
           | ((with_reducible refine Sr h.1.2.2.1 ?_ ?_)
              · exact aW
              intro _ _)
           | ((with_reducible refine AOg h.1.2.2.1 ?_ ?_ ?_)
              · exact aW
              · exact sW
              intro _ _)
           | ((with_reducible refine Sr h.1.2.2.2.1 ?_ ?_)
              · exact aW
              intro _ _)
           | ((with_reducible refine AOg h.1.2.2.2.1 ?_ ?_ ?_)
              · exact aW
              · exact sW
              intro _ _)
           | ((with_reducible refine Sr h.1.2.2.2.2.1 ?_ ?_)
              · exact aW
              intro _ _)
           | ((with_reducible refine AOg h.1.2.2.2.2.1 ?_ ?_ ?_)
              · exact aW
              · exact sW
              intro _ _)
           | ((with_reducible refine APX h.1.1 ?_ ?_ ?_)
              · exact aW
              · exact sW
              intro _ _)
           | ((with_reducible refine APX h.1.2.1 ?_ ?_ ?_)
              · exact aW
              · exact sW
              intro _ _)
           | ((with_reducible refine APX h.1.2.2.1 ?_ ?_ ?_)
              · exact aW
              · exact sW
              intro _ _)
           | ((with_reducible refine APk h.1.1 ?_ ?_ ?_)
              · exact aW
              · exact sW
              intro _ _)
           | ((with_reducible refine APk h.1.2.1 ?_ ?_ ?_)
              · exact aW
              · exact sW
              intro _ _)
           | ((with_reducible refine APk h.1.2.2.1 ?_ ?_ ?_)
              · exact aW
              · exact sW
              intro _ _)
           | ((with_reducible refine Abw h.1.1 ?_ ?_)
              · exact aW
              intro _ _ _ _)
           | ((with_reducible refine Abw h.1.2.1 ?_ ?_)
              · exact aW
              intro _ _ _ _)
           | ((with_reducible refine Abw h.1.2.2.1 ?_ ?_)
              · exact aW
              intro _ _ _ _)
           | ((with_reducible apply AdS h.1.1)
              · (first | with_reducible rfl | (simp (maxSteps := 10000000) (disch := omega) only [vm, wpE, seval, h.1]; rfl))
              · exact sW
              · omega
              intro _ _)
           | ((with_reducible apply AdS h.1.2.1)
              · (first | with_reducible rfl | (simp (maxSteps := 10000000) (disch := omega) only [vm, wpE, seval, h.1]; rfl))
              · exact sW
              · omega
              intro _ _)
           | ((with_reducible apply AdS h.1.2.2.1)
              · (first | with_reducible rfl | (simp (maxSteps := 10000000) (disch := omega) only [vm, wpE, seval, h.1]; rfl))
              · exact sW
              · omega
              intro _ _)
           | ((with_reducible refine ASo h.1.1 ?_ ?_ ?_)
              · exact aW
              · exact sW
              intro _ _)
           | ((with_reducible refine ARm h.1.1 ?_ ?_ ?_)
              · exact aW
              · exact sW
              intro _ _)
           | ((with_reducible refine ASo h.1.2.1 ?_ ?_ ?_)
              · exact aW
              · exact sW
              intro _ _)
           | ((with_reducible refine ARm h.1.2.1 ?_ ?_ ?_)
              · exact aW
              · exact sW
              intro _ _)
           | ((with_reducible refine ASo h.1.2.2.1 ?_ ?_ ?_)
              · exact aW
              · exact sW
              intro _ _)
           | ((with_reducible refine ARm h.1.2.2.1 ?_ ?_ ?_)
              · exact aW
              · exact sW
              intro _ _)
           | ((with_reducible refine Sr h.1.2.2.2.2.2.1 ?_ ?_)
              · exact aW
              intro _ _)
           | ((with_reducible refine Sr h.1.2.2.2.2.2.2.1 ?_ ?_)
              · exact aW
              intro _ _)
           | ((with_reducible refine Sr h.1.2.2.2.2.2.2.2.1 ?_ ?_)
              · exact aW
              intro _ _)
           | ((with_reducible refine Sr h.1.2.2.2.2.2.2.2.2.1 ?_ ?_)
              · exact aW
              intro _ _))
      | (with_reducible refine Am4 ?_)
      | ((with_reducible refine isA ?_)
         first
           | ((with_reducible refine Anh h hD ?_ ?_ ?_)
              · rfl
              all_goals (clear h; intro _ _ _ h))
           | ((with_reducible refine Aj0 h hD ?_ ?_ ?_)
              · rfl
              all_goals (clear h; intro _ _ _ h))
           | ((with_reducible refine AnE h hD ?_ ?_ ?_)
              · rfl
              all_goals (clear h; intro _ _ _ _ h))
           | ((with_reducible refine AnM h hD ?_ ?_ ?_)
              · exact xW
              · exact kW
              (clear h; intro _ _ _ _ h _ _))
           | ((with_reducible refine Adc h hD ?_ ?_ ?_ ?_ ?_)
              · exact yW
              · exact xW
              · exact kW
              all_goals (clear h; first | intro _ _ _ _ _ _ h _ _ | intro _ _ _ _ h))
           | ((with_reducible refine Als h hD ?_ ?_ ?_ ?_ ?_)
              · exact yW
              · exact xW
              · exact kW
              all_goals (clear h; first | intro _ _ _ _ _ _ h _ _ | intro _ _ _ _ h))
           | ((with_reducible refine AaY h hD ?_ ?_ ?_ ?_ ?_)
              · exact yW
              · exact xW
              · exact kW
              all_goals (clear h; first | intro _ _ _ _ _ h _ _ | intro _ _ _ _ h))
           | ((with_reducible refine AlR h hD ?_ ?_ ?_ ?_ ?_)
              · exact yW
              · exact xW
              · exact kW
              all_goals (clear h; first | intro _ _ _ _ _ h _ _ | intro _ _ _ _ h))
           | (with_reducible refine AoD hD (by simp only [AKs, Yf, liE, seval]; rfl) (by simp only [AX1, liE, seval]; rfl) (by kernel_rfl) ?_)
           | (with_reducible refine Aoa hD ?_))
      | ((with_reducible refine AnY h ?_ ?_) <;> clear h <;> intro h)
      | ((with_reducible obtain ⟨H, h⟩ := AmH h)
         subst h
         (try simp (maxSteps := 10000000) (disch := omega) only [vm, wpE, seval, H])
         first
           | refine Aof hR (by simp (maxSteps := 10000000) (disch := omega) only [vm, wpE, seval, H]; rfl) ?_ (by omega) ?_
           | refine Aoh hR (by simp (maxSteps := 10000000) (disch := omega) only [vm, wpE, seval, H]; rfl) ?_ (by omega) ?_
         · (first | ((repeat (first | exact List.Sublist.refl _ | apply List.Sublist.cons)); done) | (simp (maxSteps := 10000000) (disch := omega) only [vm, wpE, seval, H]; (repeat (first | exact List.Sublist.refl _ | apply List.Sublist.cons)); done))
         · (first | (simp (maxSteps := 10000000) (disch := omega) only [vm, wpE, seval, H]; done) | rfl))
      | ((with_reducible refine Aok (by assumption) h ?_ ?_ ?_ (by omega))
         · first | (simp (maxSteps := 10000000) (disch := omega) only [vm, wpE, seval, h.1, List.map_set, AL]; with_reducible exact SubW.refl _) | exact uW
         · exact vW
         · exact kW)
      | ((with_reducible refine AoP (by assumption) h ?_ ?_ ?_ ?_)
         · (simp (maxSteps := 10000000) (disch := omega) only [vm, wpE, seval, h.1]; ((repeat (first | with_reducible exact SubW.refl _ | refine SubW.keep (by repeat (first | with_reducible exact WkL.nil | refine WkL.cons (Wk.same _) ?_ | refine WkL.cons (Wk.strip _) ?_)) ?_ | apply SubW.drop)); done))
         · exact vW
         · exact kW
         · (simp (maxSteps := 10000000) (disch := omega) only [vm, wpE, seval, h.1]; omega))
      | ((with_reducible refine Amj h (by assumption) ?_ ?_ ?_ (by omega))
         · exact uW
         · exact vW
         · exact kW)
      | ((with_reducible refine Amm h (by assumption) ?_ ?_ ?_ (by omega))
         · exact uW
         · exact vW
         · exact kW)
      | ((with_reducible refine Anq h (by assumption) ?_ ?_ ?_ (by omega))
         · exact uW
         · exact vW
         · exact kW)
      | ((with_reducible refine AnP h (by assumption) ?_ ?_ ?_ (by omega))
         · exact uW
         · exact vW
         · exact kW)
      | ((with_reducible refine Anl h (by assumption) ?_ ?_ ?_ (by omega))
         · exact uW
         · exact vW
         · exact kW)
      | (with_reducible refine AQ4 ?_ ?_)
      | (with_reducible exact Anz h)
      | (simp (maxSteps := 10000000) (disch := omega) only [vm, wpE, seval, h.1])
      | (with_reducible obtain ⟨_, h⟩ := EN h)
      | (with_reducible rcases Ig h with h | h)
      | (simp only [AA] at h))) : G := x
variable {E : Env} {c : Code} {n : Nat} {m : MS} {β ρ : Type}
instance Ow {a0 a1}:CF vE (EU N a0 a1) 3 [.slice 9 (List.map AL a0) false,.slice 1 (List.map (AVal.int .u8) a1) false] (fun r=>.bool r):=AR (EU.eq_1 ..) Tryz.func3 rfl Tryz.ntmps3 Tryz.results3 [(3,[],.stop),(5,[20],.stop),(12,[43,1000043],.done),(18,[],.take 0 (.take 1 (.take 2 (.take 3 (.take 4 (.take 5 (.take 6 (.take 7 (.alt 8 [6,5,4,2,1,0] (.take 9 (.done)) (.stop))))))))))] (w := by intro r n m R hR h hD; exact tWx)
theorem O3 {a0 a1 r} (h:EU N a0 a1=some r) (ha:args=[.slice 9 (List.map AL a0) false,.slice 1 (List.map (AVal.int .u8) a1) false]) (hQ: ∀n',n≤n'→Gl (Q (.bool r) ⟨m,n'⟩)):ACall vE 3 args ⟨m,n⟩ Q:=
 ha▸Ow.go h hQ
end Go.Proofs.YtfknikagmmfakaaGreatDoor
