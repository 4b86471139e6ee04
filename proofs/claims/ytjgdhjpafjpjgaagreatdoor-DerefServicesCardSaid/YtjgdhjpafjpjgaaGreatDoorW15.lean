import Derived.Test.YtjgdhjpafjpjgaaGreatDoorVmFacts
import Derived.Test.YtjgdhjpafjpjgaaGreatDoorDefs
import Derived.Test.YtjgdhjpafjpjgaaGreatDoorVM7
import Derived.Test.YtjgdhjpafjpjgaaGreatDoorW0
import Derived.Test.YtjgdhjpafjpjgaaGreatDoorW1
import Derived.Test.YtjgdhjpafjpjgaaGreatDoorW3
import Derived.Test.YtjgdhjpafjpjgaaGreatDoorW5
import Derived.Test.YtjgdhjpafjpjgaaGreatDoorW6
import Derived.Test.YtjgdhjpafjpjgaaGreatDoorW9
import Derived.Test.YtjgdhjpafjpjgaaGreatDoorW11
import Derived.Test.YtjgdhjpafjpjgaaGreatDoorW12
import Derived.Test.YtjgdhjpafjpjgaaGreatDoorW14
set_option linter.unusedVariables false
set_option linter.unusedSimpArgs false
set_option maxHeartbeats 4000000
set_option maxRecDepth 100000
set_option linter.defProp false
namespace Go.Proofs.YtjgdhjpafjpjgaaGreatDoor
open Go.VM
attribute [local irreducible] AA grd letL
variable{N n:Nat}{m:MS}{Q:PQ}{args:List AVal}
theorem O0 {a0 r}{i0:Nat} (h:BA N a0=some r) (ha:args=[.ptr i0 0]) (hi0:Bd m i0=some ([.str a0.s,.int .i64 a0.at_,.int .i64 a0.nodes,.int .i64 a0.fail,.int .i64 a0.where_])) (hQ: ∀n',n≤n'→Gl (Q (GQ r.1) ⟨Bl m i0 ([.str r.2.s,.int .i64 r.2.at_,.int .i64 r.2.nodes,.int .i64 r.2.fail,.int .i64 r.2.where_]),n'⟩)):ACall vE 45 args ⟨m,n⟩ Q:=by
 rw[BA]at h
 subst ha
 refine ACall.front hi0 fun hin=>ent (fun n' k=>⟨_,rfl,(hQ n' k).go⟩) Tryz.func45 rfl Tryz.ntmps45 Tryz.results45 (.q (.r []) (.q (.q (.r []) (.c (.q (.r []) .z) .z)) .z)) fun R hR=>?_
 replace h:=And.intro trivial h
 rcases D9 h with h|h
 exact tR
 · simp(disch:=omega) only[vm,seval,h.1]
   refine⟨Gn (γ:=Nat) h [12,13,14,15,16,17,18,19,20,21,22,23,24] [3,4,5] (fun j2 g=>[.ptr g 0,.int .i64 j2.1,.int .i64 j2.2.1]) (fun j2 g=>(g,[.int .i64 j2.2.2.kind,.str j2.2.2.text,.int .i64 j2.2.2.at_])::(n,[.int .i64 0,.str [],.int .i64 0])::(i0,[.str a0.s,.int .i64 a0.at_,.int .i64 a0.nodes,.int .i64 a0.fail,.int .i64 a0.where_])::Eh m i0) .z ?_ ?_⟩<;>clear h
   rintro j2 q1 n5 hnn5 hk hd h
   simp only[List.map_cons,List.nodup_cons,List.mem_cons,not_or]at hd
   try dsimp only at hk
   obtain⟨hu10,hk⟩:=GZ hk
   obtain⟨hu11,hk⟩:=GZ hk
   obtain⟨hu12,hk⟩:=GZ hk
   clear hk
   refine BI (.q (.q (.r []) (.c (.q (.r []) (.q (.r []) .z)) .z)) (.q (.r []) (.q (.r []) .z))) ?_
   rcases D9 h with h|h
   obtain⟨y8,h⟩:=Ad h
   simp(disch:=omega) only[vm,seval,h.1]
   refine⟨O6 h.1.1 tD (i0:=i0) (by simp(disch:=omega) only[vm,seval,h.1]) fun n9 hn9=>?_⟩
   exact tR
   exact tR
   · intro k3 Jk3 hk3 h
     obtain⟨y6,h⟩:=Ad h
     have cy6:=h.1.1
     simp(disch:=omega) only[vm,seval,h.1]
     refine⟨Ji [] (.take 0 (.take 1 (.take 2 (.take 3 (.take 4 (.take 5 (.take 6 (.take 7 (.alt 8 [6,5,4,2,1,0] (.take 9 (.alt 10 [7,6,5,4,3,2,1,0] (.alt 11 [7,6,5,4,3,2,1,0] (.alt 12 [7,6,5,4,3,2,1,0] (.alt 13 [9,7,6,5,4,3,2,1,0] (.alt 14 [] (.alt 15 [] (.alt 16 [] (.done) (.stop)) (.stop)) (.stop)) (.stop)) (.alt 13 [9,7,6,5,4,3,2,1,0] (.alt 12 [7,6,5,4,3,2,1,0] (.alt 14 [] (.alt 15 [] (.alt 16 [] (.done) (.stop)) (.stop)) (.stop)) (.alt 14 [] (.alt 12 [7,6,5,4,3,2,1,0] (.alt 15 [] (.alt 16 [] (.done) (.stop)) (.stop)) (.alt 15 [] (.alt 12 [7,6,5,4,3,2,1,0] (.alt 16 [] (.done) (.stop)) (.stop)) (.stop))) (.stop))) (.stop))) (.alt 12 [7,6,5,4,3,2,1,0] (.alt 11 [7,6,5,4,3,2,1,0] (.alt 13 [9,7,6,5,4,3,2,1,0] (.alt 14 [] (.alt 15 [] (.alt 16 [] (.done) (.stop)) (.stop)) (.stop)) (.stop)) (.alt 13 [9,7,6,5,4,3,2,1,0] (.alt 11 [7,6,5,4,3,2,1,0] (.alt 14 [] (.alt 15 [] (.alt 16 [] (.done) (.stop)) (.stop)) (.stop)) (.alt 14 [] (.alt 11 [7,6,5,4,3,2,1,0] (.alt 15 [] (.alt 16 [] (.done) (.stop)) (.stop)) (.stop)) (.stop))) (.stop))) (.alt 13 [9,7,6,5,4,3,2,1,0] (.alt 11 [7,6,5,4,3,2,1,0] (.alt 12 [7,6,5,4,3,2,1,0] (.alt 14 [] (.alt 15 [] (.alt 16 [] (.done) (.stop)) (.stop)) (.stop)) (.alt 14 [] (.alt 12 [7,6,5,4,3,2,1,0] (.alt 15 [] (.alt 16 [] (.done) (.stop)) (.stop)) (.alt 15 [] (.alt 12 [7,6,5,4,3,2,1,0] (.alt 16 [] (.done) (.stop)) (.stop)) (.stop))) (.stop))) (.alt 12 [7,6,5,4,3,2,1,0] (.alt 11 [7,6,5,4,3,2,1,0] (.alt 14 [] (.alt 15 [] (.alt 16 [] (.done) (.stop)) (.stop)) (.stop)) (.alt 14 [] (.alt 11 [7,6,5,4,3,2,1,0] (.alt 15 [] (.alt 16 [] (.done) (.stop)) (.stop)) (.stop)) (.stop))) (.alt 14 [] (.alt 11 [7,6,5,4,3,2,1,0] (.alt 12 [7,6,5,4,3,2,1,0] (.alt 15 [] (.alt 16 [] (.done) (.stop)) (.stop)) (.alt 15 [] (.alt 12 [7,6,5,4,3,2,1,0] (.alt 16 [] (.done) (.stop)) (.stop)) (.stop))) (.alt 12 [7,6,5,4,3,2,1,0] (.alt 11 [7,6,5,4,3,2,1,0] (.alt 15 [] (.alt 16 [] (.done) (.stop)) (.stop)) (.stop)) (.stop))) (.stop)))) (.stop)))) (.alt 11 [7,6,5,4,3,2,1,0] (.alt 10 [7,6,5,4,3,2,1,0] (.alt 12 [7,6,5,4,3,2,1,0] (.alt 13 [9,7,6,5,4,3,2,1,0] (.alt 14 [] (.alt 15 [] (.alt 16 [] (.done) (.stop)) (.stop)) (.stop)) (.stop)) (.alt 13 [9,7,6,5,4,3,2,1,0] (.alt 12 [7,6,5,4,3,2,1,0] (.alt 14 [] (.alt 15 [] (.alt 16 [] (.done) (.stop)) (.stop)) (.stop)) (.alt 14 [] (.alt 12 [7,6,5,4,3,2,1,0] (.alt 15 [] (.alt 16 [] (.done) (.stop)) (.stop)) (.alt 15 [] (.alt 12 [7,6,5,4,3,2,1,0] (.alt 16 [] (.done) (.stop)) (.stop)) (.stop))) (.stop))) (.stop))) (.alt 12 [7,6,5,4,3,2,1,0] (.alt 10 [7,6,5,4,3,2,1,0] (.alt 13 [9,7,6,5,4,3,2,1,0] (.alt 14 [] (.alt 15 [] (.alt 16 [] (.done) (.stop)) (.stop)) (.stop)) (.stop)) (.alt 13 [9,7,6,5,4,3,2,1,0] (.alt 10 [7,6,5,4,3,2,1,0] (.alt 14 [] (.alt 15 [] (.alt 16 [] (.done) (.stop)) (.stop)) (.stop)) (.stop)) (.stop))) (.alt 13 [9,7,6,5,4,3,2,1,0] (.alt 10 [7,6,5,4,3,2,1,0] (.alt 12 [7,6,5,4,3,2,1,0] (.alt 14 [] (.alt 15 [] (.alt 16 [] (.done) (.stop)) (.stop)) (.stop)) (.alt 14 [] (.alt 12 [7,6,5,4,3,2,1,0] (.alt 15 [] (.alt 16 [] (.done) (.stop)) (.stop)) (.alt 15 [] (.alt 12 [7,6,5,4,3,2,1,0] (.alt 16 [] (.done) (.stop)) (.stop)) (.stop))) (.stop))) (.alt 12 [7,6,5,4,3,2,1,0] (.alt 10 [7,6,5,4,3,2,1,0] (.alt 14 [] (.alt 15 [] (.alt 16 [] (.done) (.stop)) (.stop)) (.stop)) (.stop)) (.stop))) (.stop)))) (.alt 12 [7,6,5,4,3,2,1,0] (.alt 10 [7,6,5,4,3,2,1,0] (.alt 11 [7,6,5,4,3,2,1,0] (.alt 13 [9,7,6,5,4,3,2,1,0] (.alt 14 [] (.alt 15 [] (.alt 16 [] (.done) (.stop)) (.stop)) (.stop)) (.stop)) (.alt 13 [9,7,6,5,4,3,2,1,0] (.alt 11 [7,6,5,4,3,2,1,0] (.alt 14 [] (.alt 15 [] (.alt 16 [] (.done) (.stop)) (.stop)) (.stop)) (.alt 14 [] (.alt 11 [7,6,5,4,3,2,1,0] (.alt 15 [] (.alt 16 [] (.done) (.stop)) (.stop)) (.stop)) (.stop))) (.stop))) (.alt 11 [7,6,5,4,3,2,1,0] (.alt 10 [7,6,5,4,3,2,1,0] (.alt 13 [9,7,6,5,4,3,2,1,0] (.alt 14 [] (.alt 15 [] (.alt 16 [] (.done) (.stop)) (.stop)) (.stop)) (.stop)) (.alt 13 [9,7,6,5,4,3,2,1,0] (.alt 10 [7,6,5,4,3,2,1,0] (.alt 14 [] (.alt 15 [] (.alt 16 [] (.done) (.stop)) (.stop)) (.stop)) (.stop)) (.stop))) (.alt 13 [9,7,6,5,4,3,2,1,0] (.alt 10 [7,6,5,4,3,2,1,0] (.alt 11 [7,6,5,4,3,2,1,0] (.alt 14 [] (.alt 15 [] (.alt 16 [] (.done) (.stop)) (.stop)) (.stop)) (.alt 14 [] (.alt 11 [7,6,5,4,3,2,1,0] (.alt 15 [] (.alt 16 [] (.done) (.stop)) (.stop)) (.stop)) (.stop))) (.alt 11 [7,6,5,4,3,2,1,0] (.alt 10 [7,6,5,4,3,2,1,0] (.alt 14 [] (.alt 15 [] (.alt 16 [] (.done) (.stop)) (.stop)) (.stop)) (.stop)) (.stop))) (.stop)))) (.alt 13 [9,7,6,5,4,3,2,1,0] (.alt 10 [7,6,5,4,3,2,1,0] (.alt 11 [7,6,5,4,3,2,1,0] (.alt 12 [7,6,5,4,3,2,1,0] (.alt 14 [] (.alt 15 [] (.alt 16 [] (.done) (.stop)) (.stop)) (.stop)) (.alt 14 [] (.alt 12 [7,6,5,4,3,2,1,0] (.alt 15 [] (.alt 16 [] (.done) (.stop)) (.stop)) (.alt 15 [] (.alt 12 [7,6,5,4,3,2,1,0] (.alt 16 [] (.done) (.stop)) (.stop)) (.stop))) (.stop))) (.alt 12 [7,6,5,4,3,2,1,0] (.alt 11 [7,6,5,4,3,2,1,0] (.alt 14 [] (.alt 15 [] (.alt 16 [] (.done) (.stop)) (.stop)) (.stop)) (.alt 14 [] (.alt 11 [7,6,5,4,3,2,1,0] (.alt 15 [] (.alt 16 [] (.done) (.stop)) (.stop)) (.stop)) (.stop))) (.alt 14 [] (.alt 11 [7,6,5,4,3,2,1,0] (.alt 12 [7,6,5,4,3,2,1,0] (.alt 15 [] (.alt 16 [] (.done) (.stop)) (.stop)) (.alt 15 [] (.alt 12 [7,6,5,4,3,2,1,0] (.alt 16 [] (.done) (.stop)) (.stop)) (.stop))) (.alt 12 [7,6,5,4,3,2,1,0] (.alt 11 [7,6,5,4,3,2,1,0] (.alt 15 [] (.alt 16 [] (.done) (.stop)) (.stop)) (.stop)) (.stop))) (.stop)))) (.alt 11 [7,6,5,4,3,2,1,0] (.alt 10 [7,6,5,4,3,2,1,0] (.alt 12 [7,6,5,4,3,2,1,0] (.alt 14 [] (.alt 15 [] (.alt 16 [] (.done) (.stop)) (.stop)) (.stop)) (.alt 14 [] (.alt 12 [7,6,5,4,3,2,1,0] (.alt 15 [] (.alt 16 [] (.done) (.stop)) (.stop)) (.alt 15 [] (.alt 12 [7,6,5,4,3,2,1,0] (.alt 16 [] (.done) (.stop)) (.stop)) (.stop))) (.stop))) (.alt 12 [7,6,5,4,3,2,1,0] (.alt 10 [7,6,5,4,3,2,1,0] (.alt 14 [] (.alt 15 [] (.alt 16 [] (.done) (.stop)) (.stop)) (.stop)) (.stop)) (.stop))) (.alt 12 [7,6,5,4,3,2,1,0] (.alt 10 [7,6,5,4,3,2,1,0] (.alt 11 [7,6,5,4,3,2,1,0] (.alt 14 [] (.alt 15 [] (.alt 16 [] (.done) (.stop)) (.stop)) (.stop)) (.alt 14 [] (.alt 11 [7,6,5,4,3,2,1,0] (.alt 15 [] (.alt 16 [] (.done) (.stop)) (.stop)) (.stop)) (.stop))) (.alt 11 [7,6,5,4,3,2,1,0] (.alt 10 [7,6,5,4,3,2,1,0] (.alt 14 [] (.alt 15 [] (.alt 16 [] (.done) (.stop)) (.stop)) (.stop)) (.stop)) (.stop))) (.stop)))) (.stop)))))) (.alt 13 [7,6,5,4,3,2,1,0] (.alt 8 [6,5,4,2,1,0] (.take 9 (.alt 10 [7,6,5,4,3,2,1,0] (.alt 11 [7,6,5,4,3,2,1,0] (.alt 12 [7,6,5,4,3,2,1,0] (.alt 14 [] (.alt 15 [] (.alt 16 [] (.done) (.stop)) (.stop)) (.stop)) (.alt 14 [] (.alt 12 [7,6,5,4,3,2,1,0] (.alt 15 [] (.alt 16 [] (.done) (.stop)) (.stop)) (.alt 15 [] (.alt 12 [7,6,5,4,3,2,1,0] (.alt 16 [] (.done) (.stop)) (.stop)) (.stop))) (.stop))) (.alt 12 [7,6,5,4,3,2,1,0] (.alt 11 [7,6,5,4,3,2,1,0] (.alt 14 [] (.alt 15 [] (.alt 16 [] (.done) (.stop)) (.stop)) (.stop)) (.alt 14 [] (.alt 11 [7,6,5,4,3,2,1,0] (.alt 15 [] (.alt 16 [] (.done) (.stop)) (.stop)) (.stop)) (.stop))) (.alt 14 [] (.alt 11 [7,6,5,4,3,2,1,0] (.alt 12 [7,6,5,4,3,2,1,0] (.alt 15 [] (.alt 16 [] (.done) (.stop)) (.stop)) (.alt 15 [] (.alt 12 [7,6,5,4,3,2,1,0] (.alt 16 [] (.done) (.stop)) (.stop)) (.stop))) (.alt 12 [7,6,5,4,3,2,1,0] (.alt 11 [7,6,5,4,3,2,1,0] (.alt 15 [] (.alt 16 [] (.done) (.stop)) (.stop)) (.stop)) (.stop))) (.stop)))) (.alt 11 [7,6,5,4,3,2,1,0] (.alt 10 [7,6,5,4,3,2,1,0] (.alt 12 [7,6,5,4,3,2,1,0] (.alt 14 [] (.alt 15 [] (.alt 16 [] (.done) (.stop)) (.stop)) (.stop)) (.alt 14 [] (.alt 12 [7,6,5,4,3,2,1,0] (.alt 15 [] (.alt 16 [] (.done) (.stop)) (.stop)) (.alt 15 [] (.alt 12 [7,6,5,4,3,2,1,0] (.alt 16 [] (.done) (.stop)) (.stop)) (.stop))) (.stop))) (.alt 12 [7,6,5,4,3,2,1,0] (.alt 10 [7,6,5,4,3,2,1,0] (.alt 14 [] (.alt 15 [] (.alt 16 [] (.done) (.stop)) (.stop)) (.stop)) (.stop)) (.stop))) (.alt 12 [7,6,5,4,3,2,1,0] (.alt 10 [7,6,5,4,3,2,1,0] (.alt 11 [7,6,5,4,3,2,1,0] (.alt 14 [] (.alt 15 [] (.alt 16 [] (.done) (.stop)) (.stop)) (.stop)) (.alt 14 [] (.alt 11 [7,6,5,4,3,2,1,0] (.alt 15 [] (.alt 16 [] (.done) (.stop)) (.stop)) (.stop)) (.stop))) (.alt 11 [7,6,5,4,3,2,1,0] (.alt 10 [7,6,5,4,3,2,1,0] (.alt 14 [] (.alt 15 [] (.alt 16 [] (.done) (.stop)) (.stop)) (.stop)) (.stop)) (.stop))) (.stop))))) (.stop)) (.stop))))))))))) Gh (by kernel_rfl) ?_⟩
     all_goals
      simp(disch:=omega) only[vm,seval,h.1]
      repeat' refine Pg ?_ ?_
      all_goals
       refine⟨ACD cy6 tD fun n7 hn7=>?_⟩
       simp(disch:=omega) only[vm,seval,h.1]
       exact⟨hk3 (y6.2.1,y6.2.2,y6.1) _ _ _ _ _ h.2 slr (by first|(simp(disch:=omega) only[vm,seval,h.1];done)|(simp(disch:=omega) only[vm,seval,h.1];rfl)|rfl) tD tD (by omega)⟩
instance AHF {a0}:CB vE (BA N a0) 45 (fun i0=>[.ptr i0 0]) (fun i0=>[.str a0.s,.int .i64 a0.at_,.int .i64 a0.nodes,.int .i64 a0.fail,.int .i64 a0.where_]) (fun r=>GQ r.1) (fun i0 r=>[.str r.2.s,.int .i64 r.2.at_,.int .i64 r.2.nodes,.int .i64 r.2.fail,.int .i64 r.2.where_]):=⟨fun h hi hQ=>O0 h rfl hi hQ⟩
instance AXo {a0}:CF vE (K8 N a0) 203 [.str a0] (fun r=>.tuple [CR r.1,.int .i64 r.2]):=mkF (K8.eq_1 ..) Tryz.func203 rfl Tryz.ntmps203 Tryz.results203 [(9,[],.take 0 (.take 1 (.take 2 (.take 3 (.take 4 (.take 5 (.alt 6 [5,4] (.take 7 (.alt 8 [] (.done) (.stop))) (.stop))))))))] false fun r n m R hR h hD=>tW
instance AWY {a0}:CF vE (LV N a0) 108 [.str a0] (fun r=>.tuple [Fb r.1,.int .i64 r.2]):=mkF (LV.eq_1 ..) Tryz.func108 rfl Tryz.ntmps108 Tryz.results108 [] false fun r n m R hR h hD=>tW
instance Nh {a0 a1}:CB vE (Ea N a0 a1) 118 (fun i0=>[.ptr i0 0,AC a1]) (fun i0=>[.str a0.d.method,.str a0.d.iD,.int .i64 a0.fail]) (fun r=>AU r.1) (fun i0 r=>[.str r.2.d.method,.str r.2.d.iD,.int .i64 r.2.fail]):=mkB (Ea.eq_1 ..) Tryz.func118 rfl Tryz.ntmps118 Tryz.results118 [] false fun r n i m R hin hR h hD=>tW
theorem Nn {a0 a1 r}{i0:Nat} (h:Ea N a0 a1=some r) (ha:args=[.ptr i0 0,AC a1]) (hi0:Bd m i0=some ([.str a0.d.method,.str a0.d.iD,.int .i64 a0.fail])) (hQ: ∀n',n≤n'→Gl (Q (AU r.1) ⟨Bl m i0 ([.str r.2.d.method,.str r.2.d.iD,.int .i64 r.2.fail]),n'⟩)):ACall vE 118 args ⟨m,n⟩ Q:=
 ha▸Nh.go h hi0 hQ
theorem J4 {a0 a1 r}{i0:Nat} (h:EH N a0 a1=some r) (ha:args=[.ptr i0 0,AC a1]) (hi0:Bd m i0=some ([.str a0.d.method,.str a0.d.iD,.int .i64 a0.fail])) (hQ: ∀n',n≤n'→Gl (Q (AP r.1) ⟨Bl m i0 ([.str r.2.d.method,.str r.2.d.iD,.int .i64 r.2.fail]),n'⟩)):ACall vE 119 args ⟨m,n⟩ Q:=by
 rw[EH]at h
 subst ha
 refine ACall.front hi0 fun hin=>ARL (fun n' k=>⟨_,rfl,(hQ n' k).go⟩) Tryz.func119 rfl Tryz.ntmps119 Tryz.results119 (.q (.r []) (.q (.q (.r []) (.c (.q (.r []) (.q (.r []) .z)) .z)) (.q (.r []) .z))) fun R hR=>?_
 replace h:=And.intro trivial h
 rcases D9 h with h|h
 obtain⟨y1,h⟩:=Ad h
 simp(disch:=omega) only[vm,seval,h.1]
 refine⟨IX h.1.1 tD (i0:=i0) (by simp(disch:=omega) only[vm,seval,h.1]) fun n2 hn2=>?_⟩
 exact tR
 obtain⟨y3,h⟩:=Ad h
 simp(disch:=omega) only[vm,seval,h.1]
 refine⟨QL h.1.1 tD (i0:=i0) (by simp(disch:=omega) only[vm,seval,h.1]) fun n4 hn4=>?_⟩
 simp(disch:=omega) only[vm,seval,h.1]
 refine⟨Gn (γ:=Unit) h [6,7,20,21,22,23,24,25,26,27,28] [] (fun j5 g=>[]) (fun j5 g=>(n4,[.str y3.1,.slice 1 (List.map AVal.str []) true,.slice 1 (List.map AVal.str []) true])::((n+1),[.str [],.slice 1 (List.map AVal.str []) true,.slice 1 (List.map AVal.str []) true])::(n,[.int .i64 a1.kind,.str a1.text,.slice 1 (List.map AVal.str a1.keys) false,.slice 4 (List.map AC a1.items) false])::(i0,[.str j5.d.method,.str j5.d.iD,.int .i64 j5.fail])::Eh m i0) (.q (.r []) (.q (.r []) (.c (.r []) .z))) ?_ ?_⟩<;>clear h
 rintro j5 _ n8 hnn8 _ _ h
 refine BI (.q (.r []) (.q (.r []) .z)) ?_
 obtain⟨y13,h⟩:=Ad h
 simp(disch:=omega) only[vm,seval,h.1]
 refine⟨FM h.1.1 tD (i0:=i0) (by simp(disch:=omega) only[vm,seval,h.1]) fun n14 hn14=>?_⟩
 obtain⟨y15,h⟩:=Ad h
 simp(disch:=omega) only[vm,seval,h.1]
 refine⟨SQ h.1.1 tD fun n16 hn16=>?_⟩
 simp(disch:=omega) only[vm,seval,h.1]
 refine⟨Gn (γ:=Unit) h [38,39,40,41] [] (fun j17 g=>[]) (fun j17 g=>(n16,[.int .i64 y15.1.kind,.str y15.1.text,.slice 1 (List.map AVal.str y15.1.keys) false,.slice 4 (List.map AC y15.1.items) false])::(n4,[.str y3.1,.slice 1 (List.map AVal.str y13.1) false,.slice 1 (List.map AVal.str []) true])::((n+1),[.str [],.slice 1 (List.map AVal.str []) true,.slice 1 (List.map AVal.str []) true])::(n,[.int .i64 a1.kind,.str a1.text,.slice 1 (List.map AVal.str a1.keys) false,.slice 4 (List.map AC a1.items) false])::(i0,[.str j17.d.method,.str j17.d.iD,.int .i64 j17.fail])::Eh m i0) (.q (.r []) (.c (.r []) .z)) ?_ ?_⟩<;>clear h
 rintro j17 _ n20 hnn20 _ _ h
 refine BI .z ?_
 simp(disch:=omega) only[vm,seval,h.1]
 refine⟨Gn (γ:=Bool) h [42,43,44,45,46,47,48] [] (fun j23 g=>[]) (fun j23 g=>(n16,[.int .i64 y15.1.kind,.str y15.1.text,.slice 1 (List.map AVal.str y15.1.keys) false,.slice 4 (List.map AC y15.1.items) false])::(n4,[.str y3.1,.slice 1 (List.map AVal.str y13.1) false,.slice 1 (List.map AVal.str j23.1) g])::((n+1),[.str [],.slice 1 (List.map AVal.str []) true,.slice 1 (List.map AVal.str []) true])::(n,[.int .i64 a1.kind,.str a1.text,.slice 1 (List.map AVal.str a1.keys) false,.slice 4 (List.map AC a1.items) false])::(i0,[.str j23.2.d.method,.str j23.2.d.iD,.int .i64 j23.2.fail])::Eh m i0) (.q (.r []) (.c (.r []) .z)) ?_ ?_⟩<;>clear h
 rintro j23 p1_2 n26 hnn26 _ _ h
 refine Lb [false,false,true] (i:=n4) (by simp(disch:=omega) only[vm,seval,h.1];rfl) ?_
 refine BI (.q (.r []) .z) ?_
 exact tR
 intro k24 Jk24 hk24 h
 rcases D9 h with h|h
 obtain⟨y27,h⟩:=Ad h
 simp(disch:=omega) only[vm,seval,h.1]
 refine⟨FM h.1.1 tD (i0:=i0) (by simp(disch:=omega) only[vm,seval,h.1]) fun n28 hn28=>?_⟩
 simp(disch:=omega) only[vm,seval,h.1]
 refine⟨hk24 (y27.1,y27.2) false _ _ _ _ h.2 slr ?_ ?_ ?_ (by omega)⟩<;>first|(simp(disch:=omega) only[vm,seval,h.1];done)|rfl
 simp(disch:=omega) only[vm,seval,h.1]
 refine⟨hk24 ([],j17) true _ _ _ _ h.2 slr ?_ ?_ ?_ (by omega)⟩<;>first|(simp(disch:=omega) only[vm,seval,h.1];done)|rfl
 intro k18 Jk18 hk18 h
 rcases D9 h with h|h
 exact tJ (hk18 y13.2 ())
 obtain⟨y21,h⟩:=Ad h
 simp(disch:=omega) only[vm,seval,h.1]
 refine⟨IX h.1.1 tD (i0:=i0) (by simp(disch:=omega) only[vm,seval,h.1]) fun n22 hn22=>?_⟩
 exact tJ (hk18 y21 ())
 intro k6 Jk6 hk6 h
 obtain⟨y9,h⟩:=Ad h
 simp(disch:=omega) only[vm,seval,h.1]
 refine⟨SQ h.1.1 tD fun n10 hn10=>?_⟩
 rcases D9 h with h|h
 exact tJ (hk6 y3.2 ())
 obtain⟨y11,h⟩:=Ad h
 simp(disch:=omega) only[vm,seval,h.1]
 refine⟨IX h.1.1 tD (i0:=i0) (by simp(disch:=omega) only[vm,seval,h.1]) fun n12 hn12=>?_⟩
 exact tJ (hk6 y11 ())
instance X7 {a0 a1}:CB vE (EH N a0 a1) 119 (fun i0=>[.ptr i0 0,AC a1]) (fun i0=>[.str a0.d.method,.str a0.d.iD,.int .i64 a0.fail]) (fun r=>AP r.1) (fun i0 r=>[.str r.2.d.method,.str r.2.d.iD,.int .i64 r.2.fail]):=⟨fun h hi hQ=>J4 h rfl hi hQ⟩
instance ATx {a0}:CF vE (KV N a0) 180 [Em a0] (fun r=>.bool r):=mkF (KV.eq_1 ..) Tryz.func180 rfl Tryz.ntmps180 Tryz.results180 [(2,[],.stop)] false fun r n m R hR h hD=>tW
end Go.Proofs.YtjgdhjpafjpjgaaGreatDoor
