import Derived.Test.YtjgdhjpafjpjgaaGreatDoorVmFacts
import Derived.Test.YtjgdhjpafjpjgaaGreatDoorDefs
import Derived.Test.YtjgdhjpafjpjgaaGreatDoorVM7
import Derived.Test.YtjgdhjpafjpjgaaGreatDoorW0
import Derived.Test.YtjgdhjpafjpjgaaGreatDoorW1
import Derived.Test.YtjgdhjpafjpjgaaGreatDoorW2
import Derived.Test.YtjgdhjpafjpjgaaGreatDoorW3
import Derived.Test.YtjgdhjpafjpjgaaGreatDoorW4
import Derived.Test.YtjgdhjpafjpjgaaGreatDoorW5
import Derived.Test.YtjgdhjpafjpjgaaGreatDoorW6
import Derived.Test.YtjgdhjpafjpjgaaGreatDoorW7
import Derived.Test.YtjgdhjpafjpjgaaGreatDoorW8
set_option linter.unusedVariables false
set_option linter.unusedSimpArgs false
set_option maxHeartbeats 4000000
set_option maxRecDepth 100000
set_option linter.defProp false
namespace Go.Proofs.YtjgdhjpafjpjgaaGreatDoor
open Go.VM
attribute [local irreducible] AA grd letL
variable{N n:Nat}{m:MS}{Q:PQ}{args:List AVal}
instance VE {a0 a1}:CF vE (strings_Cut N a0 a1) 38 [.str a0,.str a1] (fun r=>.tuple [.str r.1,.str r.2.1,.bool r.2.2]):=mkF (strings_Cut.eq_1 ..) Tryz.func38 rfl Tryz.ntmps38 Tryz.results38 [] false fun r n m R hR h hD=>tW
theorem Ve {a0 a1 r} (h:strings_Cut N a0 a1=some r) (ha:args=[.str a0,.str a1]) (hQ: ∀n',n≤n'→Gl (Q (.tuple [.str r.1,.str r.2.1,.bool r.2.2]) ⟨m,n'⟩)):ACall vE 38 args ⟨m,n⟩ Q:=
 ha▸VE.go h hQ
@[instance_reducible, instance] def AHB {a0 k2 k s4 s5} := LF.mk (X := DL N a0 k2 k s4 s5) (G := fun k (s : (List Int) × Int) => DL N a0 k2 k s.1 s.2) (s := (s4, s5)) (js := [(2, 2), (6, 3), (12, 26)]) (cs := [4, 5]) (V := fun s => [.slice 1 (List.map (AVal.int .u8) s.1) true, .int .i64 s.2]) (Ms := fun s => []) rfl (fun s => DL.eq_1 ..) (fun k s => DL.eq_2 ..)
instance Rq {a0}:CF vE (E9 N a0) 39 [.str a0] (fun r=>.tuple [.str r.1,.int .i64 r.2]):=mkF (E9.eq_1 ..) Tryz.func39 rfl Tryz.ntmps39 Tryz.results39 [(14,[34],.done)] false fun r n m R hR h hD=>tW
theorem RQ {a0 r} (h:E9 N a0=some r) (ha:args=[.str a0]) (hQ: ∀n',n≤n'→Gl (Q (.tuple [.str r.1,.int .i64 r.2]) ⟨m,n'⟩)):ACall vE 39 args ⟨m,n⟩ Q:=
 ha▸Rq.go h hQ
@[instance_reducible, instance] def AJ7 {k29 k s7} := LF.mk (X := Ec N k29 k s7) (G := fun k (s : (List UInt8)) => Ec N k29 k s) (s := s7) (js := [(54, 10)]) (cs := [7]) (V := fun s => [.str s]) (Ms := fun s => []) rfl (fun s => Ec.eq_1 ..) (fun k s => Ec.eq_2 ..)
@[instance_reducible, instance] def AKG {k40 k s6 s7} := LF.mk (X := Ee N k40 k s6 s7) (G := fun k (s : Int × (List UInt8)) => Ee N k40 k s.1 s.2) (s := (s6, s7)) (js := [(66, 13)]) (cs := [6, 7]) (V := fun s => [.int .i64 s.1, .str s.2]) (Ms := fun s => []) rfl (fun s => Ee.eq_1 ..) (fun k s => Ee.eq_2 ..)
instance APL {a0}:CF vE (Je N a0) 92 [.str a0] (fun r=>.tuple [.str r.1,.int .i64 r.2]):=mkF (Je.eq_1 ..) Tryz.func92 rfl Tryz.ntmps92 Tryz.results92 [(1,[],.stop),(5,[],.take 0 (.take 1 (.alt 2 [1,0] (.alt 3 [] (.done) (.stop)) (.stop)))),(7,[],.take 0 (.take 1 (.take 2 (.take 5 (.take 6 (.take 7 (.alt 3 [7,6,5,1] (.alt 4 [7,6,5,2,1,0] (.alt 8 [7,6,5] (.alt 9 [] (.done) (.stop)) (.stop)) (.stop)) (.stop)))))))),(10,[],.take 0 (.take 1 (.take 2 (.take 3 (.take 4 (.take 5 (.take 6 (.take 7 (.take 8 (.take 9 (.take 10 (.take 11 (.take 12 (.take 13 (.take 14 (.alt 15 [14,13,12,11,10,9,8,7] (.alt 16 [] (.done) (.stop)) (.stop))))))))))))))))),(11,[],.stop),(17,[],.stop)] false fun r n m R hR h hD=>tW
instance AXt {a0 a1}:CF vE (Ml N a0 a1) 246 [.str a0,.int .u64 a1] (fun r=>.tuple [.int .u64 r.1,.int .i64 r.2]):=mkF (Ml.eq_1 ..) Tryz.func246 rfl Tryz.ntmps246 Tryz.results246 [] false fun r n m R hR h hD=>tW
instance AJB {a0 a1}:CF vE (strings_Contains N a0 a1) 107 [.str a0,.str a1] (fun r=>.bool r):=mkF (strings_Contains.eq_1 ..) Tryz.func107 rfl Tryz.ntmps107 Tryz.results107 [] false fun r n m R hR h hD=>tW
instance AEh {a0}:CF vE (El N a0) 77 [.int .u8 a0] (fun r=>.bool r):=mkF (El.eq_1 ..) Tryz.func77 rfl Tryz.ntmps77 Tryz.results77 [(1,[],.stop)] false fun r n m R hR h hD=>tW
theorem Kn {a0 a1 r} (h:strings_Count N a0 a1=some r) (ha:args=[.str a0,.str a1]) (hQ: ∀n',n≤n'→Gl (Q (.int .i64 r) ⟨m,n'⟩)):ACall vE 248 args ⟨m,n⟩ Q:=by
 rw[strings_Count]at h
 subst ha
 refine ent hQ Tryz.func248 rfl Tryz.ntmps248 Tryz.results248 (.q (.r []) (.q (.q (.r []) (.c (.q (.r []) .z) .z)) (.q (.q (.r []) (.c (.q (.r []) .z) .z)) (.q (.r []) .z)))) fun R hR=>?_
 replace h:=And.intro trivial h
 rcases D9 h with h|h
 obtain⟨y1,h⟩:=Ad h
 simp(disch:=omega) only[vm,seval,h.1]
 refine⟨Ju h.1.1 tD fun n2 hn2=>?_⟩
 exact tR
 rcases D9 h with h|h
 obtain⟨x3,h⟩:=Ad h
 simp(disch:=omega) only[vm,seval,h.1]
 refine⟨AWL ?_⟩
 exact tR
 simp(disch:=omega) only[vm,seval,h.1]
 refine⟨ARd (σ:=(List UInt8)×Int) (γ:=Unit) (fun k s=>GD N a1 k s.1 s.2) (fun s g=>[.str s.1,.int .i64 s.2]) (fun s g=>m) [4,6,20,21,22,23,24,25,26,27,28,29,30,31,32,33] [0,5] (a0,0) () h (fun _=>rfl) tD tD ?_⟩
 clear h
 rintro k4 ⟨s0,s5⟩ _ nL0_1 hnL0_1 _ h Jk4 hk4
 change _∧GD N a1 (k4+1) s0 s5=_ at h
 rw[GD]at h
 refine BI (.q (.r []) (.q (.q (.r []) (.c (.q (.r []) .z) .z)) (.q (.r []) (.r [])))) ?_
 obtain⟨y5,h⟩:=Ad h
 simp(disch:=omega) only[vm,seval,h.1]
 refine⟨Ki h.1.1 tD fun n6 hn6=>?_⟩
 rcases D9 h with h|h
 exact tR
 obtain⟨x7,h⟩:=Ad h
 exact tJ (hk4 (x7,(wr .i64 (s5+1))) ())
instance AOf {a0 a1}:CF vE (strings_Count N a0 a1) 248 [.str a0,.str a1] (fun r=>.int .i64 r):=⟨fun h hQ=>Kn h rfl hQ⟩
@[instance_reducible, instance] def ACf {k17 xs s8 AJU} := LR.mk (X := CQ N k17 xs s8 AJU) (G := fun xs i (s : (List Bool)) => CQ N k17 xs i s) (i := s8) (s := AJU) (js := [(4, 1), (33, 11)]) (cs := [8]) (V := fun i s => [.int .i64 i]) (Ms := fun i s => [.s (List.map AVal.bool s)]) rfl (fun i s => CQ.eq_1 ..) (fun x xs i s => CQ.eq_2 ..)
@[instance_reducible, instance] def ACc {a0 a1 k24 k s45} := LF.mk (X := BU N a0 a1 k24 k s45) (G := fun k (s : Nat) => BU N a0 a1 k24 k s) (s := s45) (js := [(4, 1), (9, 2), (46, 9)]) (cs := [45]) (V := fun s => [.iter a0 s]) (Ms := fun s => []) rfl (fun s => BU.eq_1 ..) (fun k s => BU.eq_2 ..)
instance AHv {a0 a1}:CF vE (strings_IndexAny N a0 a1) 158 [.str a0,.str a1] (fun r=>.int .i64 r):=mkF (strings_IndexAny.eq_1 ..) Tryz.func158 rfl Tryz.ntmps158 Tryz.results158 [] false fun r n m R hR h hD=>tW
instance AQb {a0 a1}:CF vE (Jv N a0 a1) 237 [.str a0,.int .u64 a1] (fun r=>.tuple [.int .u64 r.1,.int .i64 r.2]):=mkF (Jv.eq_1 ..) Tryz.func237 rfl Tryz.ntmps237 Tryz.results237 [] false fun r n m R hR h hD=>tW
theorem Rt {a0 r} (h:Dq N a0=some r) (ha:args=[.str a0]) (hQ: ∀n',n≤n'→Gl (Q (.str r) ⟨m,n'⟩)):ACall vE 110 args ⟨m,n⟩ Q:=by
 rw[Dq]at h
 subst ha
 refine ent hQ Tryz.func110 rfl Tryz.ntmps110 Tryz.results110 (.q (.r []) (.q (.r [7]) (.q .z (.q (.r []) .z)))) fun R hR=>?_
 replace h:=And.intro trivial h
 obtain⟨c,h⟩:=GJ h
 try simp only[liE,seval]at c
 replace h:=G6 c h
 simp(disch:=omega) only[vm,seval,h.1,BR,BS,FJ,Ag,Ay,Ah]
 refine⟨ARd (σ:=(List UInt8)×Nat×(List Int)) (γ:=Nat) (fun k s=>Af N k s.1 s.2.1 s.2.2) (fun s g=>[.str s.1,.gsl 1 g s.2.1]) (fun s g=>(g,List.map (AVal.int .u8) s.2.2)::m) [4,8,9,10,11,12,13,14,15,16,17,18,19,20,21,22,23,24,25,26,27,28,29,30,31,32,33,34,35,36,37,38,39,40,41,42,43,44,45,46,47,48,49,50,51,52,53,54,55,56,57,58,59,60,61,62,63,64,65,66,67] [0,3] (a0,(0:Int).toNat,(List.replicate (0:Int).toNat 0)) n h (fun _=>rfl) (by first|(simp(disch:=omega) only[vm,seval,h.1,BR,BS,FJ,Ag,Ay,Ah];done)|rfl) (by first|(simp(disch:=omega) only[vm,seval,h.1,BR,BS,FJ,Ag,Ay,Ah];done)|rfl) ?_⟩
 clear h
 rintro k1 ⟨s0,s3_len,bq3⟩ q3 nL0_1 hnL0_1 _ h Jk1 hk1
 change _∧Af N (k1+1) s0 s3_len bq3=_ at h
 rw[Af]at h
 refine BI (.q (.q (.r []) (.c .z .z)) (.q (.r []) (.c (.r []) (.q (.r []) (.c (.r []) (.q (.r []) (.c (.r []) (.q (.r []) (.c (.r []) .z))))))))) ?_
 rcases D9 h with h|h
 obtain⟨c,h⟩:=GJ h
 try simp only[liE,seval]at c
 replace h:=G6 c h
 obtain⟨H,h⟩:=h
 cases h
 simp(disch:=omega) only[vm,seval,H,BR,BS,FJ,Ag,Ay,Ah]
 refine⟨(hR _ _ _ _ _ _ (by simp(disch:=omega) only[vm,seval,H,BR,BS,FJ,Ag,Ay,Ah];rfl) (.cons _ slr) ?_ (by omega) ?_).1⟩<;>first|(simp(disch:=omega) only[vm,seval,H,BR,BS,FJ,Ag,Ay,Ah];done)|rfl
 obtain⟨y2,h⟩:=Ad h
 simp(disch:=omega) only[vm,seval,h.1,BR,BS,FJ,Ag,Ay,Ah]
 refine⟨GA h.1.1 (by first|(simp(disch:=omega) only[vm,seval,h.1,BR,BS,FJ,Ag,Ay,Ah];done)|rfl) fun n3 hn3=>?_⟩
 rcases D9 h with h|h
 obtain⟨x4,h⟩:=Ad h
 simp(disch:=omega) only[vm,seval,h.1,BR,BS,FJ,Ag,Ay,Ah]
 refine⟨hk1 (x4,s3_len,bq3) q3 _ _ _ _ h.2 slr ?_ ?_ ?_ (by omega)⟩<;>first|(simp(disch:=omega) only[vm,seval,h.1,BR,BS,FJ,Ag,Ay,Ah];done)|rfl
 obtain⟨y5,h⟩:=Ad h
 simp(disch:=omega) only[vm,seval,h.1,BR,BS,FJ,Ag,Ay,Ah]
 refine⟨GA h.1.1 (by first|(simp(disch:=omega) only[vm,seval,h.1,BR,BS,FJ,Ag,Ay,Ah];done)|rfl) fun n6 hn6=>?_⟩
 rcases D9 h with h|h
 obtain⟨x7,h⟩:=Ad h
 simp(disch:=omega) only[vm,seval,h.1,BR,BS,FJ,Ag,Ay,Ah]
 refine⟨hk1 (x7,s3_len,bq3) q3 _ _ _ _ h.2 slr ?_ ?_ ?_ (by omega)⟩<;>first|(simp(disch:=omega) only[vm,seval,h.1,BR,BS,FJ,Ag,Ay,Ah];done)|rfl
 obtain⟨y8,h⟩:=Ad h
 simp(disch:=omega) only[vm,seval,h.1,BR,BS,FJ,Ag,Ay,Ah]
 refine⟨GA h.1.1 (by first|(simp(disch:=omega) only[vm,seval,h.1,BR,BS,FJ,Ag,Ay,Ah];done)|rfl) fun n9 hn9=>?_⟩
 rcases D9 h with h|h
 obtain⟨x10,h⟩:=Ad h
 simp(disch:=omega) only[vm,seval,h.1,BR,BS,FJ,Ag,Ay,Ah]
 refine⟨hk1 (x10,s3_len,bq3) q3 _ _ _ _ h.2 slr ?_ ?_ ?_ (by omega)⟩<;>first|(simp(disch:=omega) only[vm,seval,h.1,BR,BS,FJ,Ag,Ay,Ah];done)|rfl
 rcases D9 h with h|h
 simp(disch:=omega) only[vm,seval,h.1,BR,BS,FJ,Ag,Ay,Ah]
 refine⟨hk1 (([47]:List UInt8),s3_len,bq3) q3 _ _ _ _ h.2 slr ?_ ?_ ?_ (by omega)⟩<;>first|(simp(disch:=omega) only[vm,seval,h.1,BR,BS,FJ,Ag,Ay,Ah];done)|rfl
 simp(disch:=omega) only[vm,seval,h.1,BR,BS,FJ,Ag,Ay,Ah]
 refine⟨Gn (γ:=Unit) h [45,46,47,48,49,50] [44] (fun j11 g=>[.bool j11]) (fun j11 g=>(q3,List.map (AVal.int .u8) bq3)::m) (.r []) ?_ ?_⟩<;>clear h
 rintro j11 _ n14 hnn14 _ _ h
 refine BI (.c (.q (.r []) (.r [])) .z) ?_
 rcases D9 h with h|h
 obtain⟨x17,h⟩:=Ad h
 obtain⟨y18,h⟩:=Ad h
 simp(disch:=omega) only[vm,seval,h.1,BR,BS,FJ,Ag,Ay,Ah]
 refine⟨OM h.1.1 (by first|(simp(disch:=omega) only[vm,seval,h.1,BR,BS,FJ,Ag,Ay,Ah];done)|rfl) fun n19 hn19=>?_⟩
 obtain⟨c,h⟩:=GJ h
 try simp only[liE,seval]at c
 replace h:=G6 c h
 obtain⟨c,h⟩:=GJ h
 try simp only[liE,seval]at c
 replace h:=G6 c h
 obtain⟨y20,h⟩:=Ad h
 simp(disch:=omega) only[vm,seval,h.1,BR,BS,FJ,Ag,Ay,Ah]
 refine⟨Md h.1.1 (by first|(simp(disch:=omega) only[vm,seval,h.1,BR,BS,FJ,Ag,Ay,Ah];done)|rfl) fun n21 hn21=>?_⟩
 obtain⟨c,h⟩:=GJ h
 try simp only[liE,seval]at c
 replace h:=G6 c h
 simp(disch:=omega) only[vm,seval,h.1,BR,BS,FJ,Ag,Ay,Ah]
 refine⟨hk1 ((([47]:List UInt8)++y18),(if y20>0 then y20 else 0).toNat,bq3) q3 _ _ _ _ h.2 slr ?_ ?_ ?_ (by omega)⟩<;>first|(simp(disch:=omega) only[vm,seval,h.1,BR,BS,FJ,Ag,Ay,Ah];done)|rfl
 simp(disch:=omega) only[vm,seval,h.1,BR,BS,FJ,Ag,Ay,Ah]
 refine⟨Gn (γ:=Unit) h [62,63,64,65,66,67] [61] (fun j22 g=>[.bool j22]) (fun j22 g=>(q3,List.map (AVal.int .u8) bq3)::m) (.r []) ?_ ?_⟩<;>clear h
 rintro j22 _ n25 hnn25 _ _ h
 refine BI (.c (.r []) (.q (.r []) .z)) ?_
 rcases D9 h with h|h
 simp(disch:=omega) only[vm,seval,h.1,BR,BS,FJ,Ag,Ay,Ah]
 refine⟨hk1 ([],s3_len,bq3) q3 _ _ _ _ h.2 slr ?_ ?_ ?_ (by omega)⟩<;>first|(simp(disch:=omega) only[vm,seval,h.1,BR,BS,FJ,Ag,Ay,Ah];done)|rfl
 obtain⟨x26,h⟩:=Ad h
 obtain⟨y27,h⟩:=Ad h
 simp(disch:=omega) only[vm,seval,h.1,BR,BS,FJ,Ag,Ay,Ah]
 refine⟨Oz h.1.1 (by first|(simp(disch:=omega) only[vm,seval,h.1,BR,BS,FJ,Ag,Ay,Ah];done)|rfl) fun n28 hn28=>?_⟩
 simp(disch:=omega) only[vm,seval,h.1,BR,BS,FJ,Ag,Ay,Ah]
 refine⟨Gn (γ:=Unit) h [14,15,16,17] [4] (fun j29 g=>[.int .i64 j29]) (fun j29 g=>(q3,List.map (AVal.int .u8) bq3)::m) (.q (.r []) (.c (.r []) .z)) ?_ ?_⟩<;>clear h
 rintro j29 _ n32 hnn32 _ _ h
 refine BI (.q (.r [18]) (.r [])) ?_
 obtain⟨x33,h⟩:=Ad h
 obtain⟨c,h⟩:=GJ h
 try simp only[liE,seval]at c
 replace h:=G6 c h
 simp(disch:=omega) only[vm,seval,h.1,BR,BS,FJ,Ag,Ay,Ah]
 refine⟨AUk fun i34 hi34=>Gl.go ?_⟩
 obtain⟨x35,h⟩:=Ad h
 simp(disch:=omega) only[vm,seval,h.1,BR,BS,FJ,Ag,Ay,Ah]
 refine⟨hk1 (x35,(s3_len+x33.length),(List.take s3_len bq3++List.map AJ x33)) i34 _ _ _ _ h.2 slr ?_ ?_ ?_ (by omega)⟩<;>first|(simp(disch:=omega) only[vm,seval,h.1,BR,BS,FJ,Ag,Ay,Ah];done)|rfl
 intro k30 Jk30 hk30 h
 rcases D9 h with h|h
 simp(disch:=omega) only[vm,seval,h.1,BR,BS,FJ,Ag,Ay,Ah]
 refine⟨hk30 (s0.length:Int) () _ _ _ _ h.2 slr ?_ ?_ ?_ (by omega)⟩<;>first|(simp(disch:=omega) only[vm,seval,h.1,BR,BS,FJ,Ag,Ay,Ah];done)|rfl
 simp(disch:=omega) only[vm,seval,h.1,BR,BS,FJ,Ag,Ay,Ah]
 refine⟨hk30 (wr .i64 (1+y27)) () _ _ _ _ h.2 slr ?_ ?_ ?_ (by omega)⟩<;>first|(simp(disch:=omega) only[vm,seval,h.1,BR,BS,FJ,Ag,Ay,Ah];done)|rfl
 intro k23 Jk23 hk23 h
 rcases D9 h with h|h
 simp(disch:=omega) only[vm,seval,h.1,BR,BS,FJ,Ag,Ay,Ah]
 refine⟨hk23 true () _ _ _ _ h.2 slr ?_ ?_ ?_ (by omega)⟩<;>first|(simp(disch:=omega) only[vm,seval,h.1,BR,BS,FJ,Ag,Ay,Ah];done)|rfl
 simp(disch:=omega) only[vm,seval,h.1,BR,BS,FJ,Ag,Ay,Ah]
 refine⟨hk23 (s0==([46,46]:List UInt8)) () _ _ _ _ h.2 slr ?_ ?_ ?_ (by omega)⟩<;>first|(simp(disch:=omega) only[vm,seval,h.1,BR,BS,FJ,Ag,Ay,Ah];done)|rfl
 intro k12 Jk12 hk12 h
 obtain⟨y15,h⟩:=Ad h
 simp(disch:=omega) only[vm,seval,h.1,BR,BS,FJ,Ag,Ay,Ah]
 refine⟨GA h.1.1 (by first|(simp(disch:=omega) only[vm,seval,h.1,BR,BS,FJ,Ag,Ay,Ah];done)|rfl) fun n16 hn16=>?_⟩
 rcases D9 h with h|h
 simp(disch:=omega) only[vm,seval,h.1,BR,BS,FJ,Ag,Ay,Ah]
 refine⟨hk12 true () _ _ _ _ h.2 slr ?_ ?_ ?_ (by omega)⟩<;>first|(simp(disch:=omega) only[vm,seval,h.1,BR,BS,FJ,Ag,Ay,Ah];done)|rfl
 simp(disch:=omega) only[vm,seval,h.1,BR,BS,FJ,Ag,Ay,Ah]
 refine⟨hk12 (s0==([47,46,46]:List UInt8)) () _ _ _ _ h.2 slr ?_ ?_ ?_ (by omega)⟩<;>first|(simp(disch:=omega) only[vm,seval,h.1,BR,BS,FJ,Ag,Ay,Ah];done)|rfl
instance AOW {a0}:CF vE (Dq N a0) 110 [.str a0] (fun r=>.str r):=⟨fun h hQ=>Rt h rfl hQ⟩
instance AZs {a0}:CF vE (N8 N a0) 113 [Eo a0] (fun r=>.str r):=mkF (N8.eq_1 ..) Tryz.func113 rfl Tryz.ntmps113 Tryz.results113 [] false fun r n m R hR h hD=>tW
@[instance_reducible, instance] def AKI {a0 k2 k s4 s5} := LF.mk (X := Dv N a0 k2 k s4 s5) (G := fun k (s : (List Int) × Int) => Dv N a0 k2 k s.1 s.2) (s := (s4, s5)) (js := [(2, 2), (6, 3), (12, 26)]) (cs := [4, 5]) (V := fun s => [.slice 1 (List.map (AVal.int .u8) s.1) true, .int .i64 s.2]) (Ms := fun s => []) rfl (fun s => Dv.eq_1 ..) (fun k s => Dv.eq_2 ..)
instance ATr {a0}:CF vE (Gd N a0) 42 [.str a0] (fun r=>.tuple [.str r.1,.int .i64 r.2]):=mkF (Gd.eq_1 ..) Tryz.func42 rfl Tryz.ntmps42 Tryz.results42 [(13,[34],.done)] false fun r n m R hR h hD=>tW
@[instance_reducible, instance] def AGd {a0 a1 k2 k s6 s7} := LF.mk (X := CG N a0 a1 k2 k s6 s7) (G := fun k (s : (List Int) × Int) => CG N a0 a1 k2 k s.1 s.2) (s := (s6, s7)) (js := [(4, 2), (8, 2), (13, 49)]) (cs := [6, 7]) (V := fun s => [.slice 1 (List.map (AVal.int .u8) s.1) true, .int .i64 s.2]) (Ms := fun s => []) rfl (fun s => CG.eq_1 ..) (fun k s => CG.eq_2 ..)
instance AKS {a0 a1}:CF vE (DX N a0 a1) 126 [.str a0,.str a1] (fun r=>.tuple [.str r.1,.int .i64 r.2]):=mkF (DX.eq_1 ..) Tryz.func126 rfl Tryz.ntmps126 Tryz.results126 [(8,[],.stop),(10,[36],.done),(15,[52],.done),(16,[56],.done)] false fun r n m R hR h hD=>tW
instance AQl {a0}:CF vE (Ev N a0) 28 [Em a0] (fun r=>.str r):=mkF (Ev.eq_1 ..) Tryz.func28 rfl Tryz.ntmps28 Tryz.results28 [(1,[],.take 0 (.take 4 (.alt 1 [4] (.alt 2 [4,0] (.take 3 (.alt 5 [3,0] (.take 6 (.alt 7 [] (.done) (.stop))) (.stop))) (.stop)) (.stop))))] false fun r n m R hR h hD=>tW
end Go.Proofs.YtjgdhjpafjpjgaaGreatDoor
