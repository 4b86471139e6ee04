import Derived.Test.YtjgdhjpafjpjgaaGreatDoorVmFacts
import Derived.Test.YtjgdhjpafjpjgaaGreatDoorDefs
import Derived.Test.YtjgdhjpafjpjgaaGreatDoorVM7
import Derived.Test.YtjgdhjpafjpjgaaGreatDoorW0
import Derived.Test.YtjgdhjpafjpjgaaGreatDoorW1
import Derived.Test.YtjgdhjpafjpjgaaGreatDoorW2
import Derived.Test.YtjgdhjpafjpjgaaGreatDoorW3
import Derived.Test.YtjgdhjpafjpjgaaGreatDoorW4
import Derived.Test.YtjgdhjpafjpjgaaGreatDoorW5
import Derived.Test.YtjgdhjpafjpjgaaGreatDoorW6
set_option linter.unusedVariables false
set_option linter.unusedSimpArgs false
set_option maxHeartbeats 4000000
set_option maxRecDepth 100000
set_option linter.defProp false
namespace Go.Proofs.YtjgdhjpafjpjgaaGreatDoor
open Go.VM
attribute [local irreducible] AA grd letL
variable{N n:Nat}{m:MS}{Q:PQ}{args:List AVal}
instance ARn {a0}:CF vE (H7 N a0) 236 [.str a0] (fun r=>.bool r):=mkF (H7.eq_1 ..) Tryz.func236 rfl Tryz.ntmps236 Tryz.results236 [(1,[],.stop)] false fun r n m R hR h hD=>tW
@[instance_reducible, instance] def Qk {k2 xs} := LQ.mk (X := Al N k2 xs) (G := fun xs i (s : Unit) => Al N k2 xs) (s := ()) (js := [(8, 3), (19, 9)]) (cs := [18]) (V := fun i s => [.int .i64 i]) (Ms := fun i s => []) (fun _ => rfl) (fun i s => Al.eq_1 ..) (fun x xs i s => Al.eq_2 ..)
@[instance_reducible, instance] def Q5 {a1 a2 k9 xs s11} := LQ.mk (X := Ak N a1 a2 k9 xs s11) (G := fun xs i (s : Int) => Ak N a1 a2 k9 xs s) (s := s11) (js := [(8, 2), (12, 2), (31, 27)]) (cs := [11, 30]) (V := fun i s => [.int .u64 s, .int .i64 i]) (Ms := fun i s => []) (fun _ => rfl) (fun i s => Ak.eq_1 ..) (fun x xs i s => Ak.eq_2 ..)
instance Sj {a0 a1 a2}:CF vE (EL N a0 a1 a2) 253 [.str a0,.int .u64 a1,.int .u64 a2,.fn (.func 192) [] []] (fun r=>.tuple [.int .u64 r.1,.int .i64 r.2]):=mkF (EL.eq_1 ..) Tryz.func253 rfl Tryz.ntmps253 Tryz.results253 [(14,[],.stop)] false fun r n m R hR h hD=>tW
@[instance_reducible, instance] def AGj {j3 k12 k s7 s0 bn6} := LC.mk (X := Ej N j3 k12 k s7 s0 bn6) (G := fun k i (s : (List UInt8) × (List (List UInt8))) => Ej N j3 k12 k i s.1 s.2) (i := s7) (k := k) (s := (s0, bn6)) (js := [(8, 2), (22, 20)]) (cs := [0, 7]) (V := fun i s => [.str s.1, .int .i64 i]) (Ms := fun i s => [.s (List.map AVal.str s.2)]) rfl (fun i s => Ej.eq_1 ..) (fun k i s => Ej.eq_2 ..)
instance RB {a0 a1}:CF vE (Ir N a0 a1) 263 [.str a0,.int .i64 a1] (fun r=>.slice 1 (List.map AVal.str r) false):=mkF (Ir.eq_1 ..) Tryz.func263 rfl Tryz.ntmps263 Tryz.results263 [(2,[],.stop)] false fun r n m R hR h hD=>tW
theorem QT {a0 a1 r} (h:Ir N a0 a1=some r) (ha:args=[.str a0,.int .i64 a1]) (hQ: ∀n',n≤n'→Gl (Q (.slice 1 (List.map AVal.str r) false) ⟨m,n'⟩)):ACall vE 263 args ⟨m,n⟩ Q:=
 ha▸RB.go h hQ
instance OA {a0 a1}:CF vE (strings_TrimPrefix N a0 a1) 165 [.str a0,.str a1] (fun r=>.str r):=mkF (strings_TrimPrefix.eq_1 ..) Tryz.func165 rfl Tryz.ntmps165 Tryz.results165 [] false fun r n m R hR h hD=>tW
theorem OM {a0 a1 r} (h:strings_TrimPrefix N a0 a1=some r) (ha:args=[.str a0,.str a1]) (hQ: ∀n',n≤n'→Gl (Q (.str r) ⟨m,n'⟩)):ACall vE 165 args ⟨m,n⟩ Q:=
 ha▸OA.go h hQ
instance AXp {a0 a1}:CF vE (Mc N a0 a1) 167 [Eo a0,Eo a1] (fun r=>.str r):=mkF (Mc.eq_1 ..) Tryz.func167 rfl Tryz.ntmps167 Tryz.results167 [(3,[],.stop),(5,[],.take 0 (.take 1 (.take 2 (.take 3 (.take 7 (.take 8 (.alt 4 [8,7,2,1,0] (.take 5 (.take 6 (.take 9 (.alt 10 [] (.done) (.stop))))) (.stop))))))))] false fun r n m R hR h hD=>tW
theorem XD {a0 a1 a2 r}{i2:Nat} (h:FD N a0 a1 a2=some r) (ha:args=[.bool a0,.slice 1 (List.map AVal.str a1) false,.ptr i2 0]) (hi2:Bd m i2=some ([Fj i2 196 2 a2.addr,.buf 5 a2.buf true])) (hQ: ∀n',n≤n'→Gl (Q (.tuple []) ⟨Bl m i2 ([Fj i2 196 2 r.addr,.buf 5 r.buf true]),n'⟩)):ACall vE 168 args ⟨m,n⟩ Q:=by
 rw[FD]at h
 subst ha
 refine ACall.front hi2 fun hin=>ent (fun n' k=>⟨_,rfl,(hQ n' k).go⟩) Tryz.func168 rfl Tryz.ntmps168 Tryz.results168 (.q (.r []) .z) fun R hR=>?_
 replace h:=And.intro trivial h
 obtain⟨hfk1,h⟩:=GJ h
 simp(disch:=omega) only[vm,seval,h.1]
 refine⟨Ro (σ:=StringsBuilder) (γ:=Unit) a1 hfk1 (fun xs i s=>EN N a0 xs s) (fun i s g=>[.int .i64 i]) (fun i s g=>(i2,[Fj i2 196 2 s.addr,.buf 5 s.buf true])::Eh m i2) [6,10,11,12,13,14,15,16] [9] a2 () h tD tD ?_ ?_⟩<;>clear h
 rintro s9 bi2 _ nL0_1 hnL0_1 _ h
 change _∧EN N a0 [] bi2=_ at h
 rw[EN]at h
 refine BI (.q (.r []) (.q (.c .z .z) .z)) ?_
 obtain⟨H,h⟩:=h
 cases h
 simp(disch:=omega) only[vm,seval,H]
 refine⟨(hR _ _ _ _ _ _ (by simp(disch:=omega) only[vm,seval,H];rfl) slr ?_ (by omega) ?_).2⟩<;>first|(simp(disch:=omega) only[vm,seval,H];done)|rfl
 rintro xk1 xsk1 s9 bi2 _ nL0_1 hnL0_1 _ h Jk1 hk1
 change _∧EN N a0 (xk1::xsk1) bi2=_ at h
 rw[EN]at h
 refine BI (.q (.r []) (.q (.c .z .z) .z)) ?_
 simp(disch:=omega) only[vm,seval,h.1]
 refine⟨Gn (γ:=Unit) h [6,11,12,13,14,15] [] (fun j2 g=>[]) (fun j2 g=>(i2,[Fj i2 196 2 j2.addr,.buf 5 j2.buf true])::Eh m i2) (.q (.r []) (.q (.r []) (.c (.r []) .z))) ?_ ?_⟩<;>clear h
 rintro j2 _ n5 hnn5 _ _ h
 refine BI (.r []) ?_
 exact tJ (hk1 j2 ())
 intro k3 Jk3 hk3 h
 rcases D9 h with h|h
 obtain⟨y6,h⟩:=Ad h
 simp(disch:=omega) only[vm,seval,h.1]
 refine⟨BM h.1.1 tD (i0:=i2) (by simp(disch:=omega) only[vm,seval,h.1]) fun n7 hn7=>?_⟩
 exact tJ (hk3 y6.2.2 ())
 exact tJ (hk3 bi2 ())
instance AWg {a0 a1 a2}:CB vE (FD N a0 a1 a2) 168 (fun i2=>[.bool a0,.slice 1 (List.map AVal.str a1) false,.ptr i2 0]) (fun i2=>[Fj i2 196 2 a2.addr,.buf 5 a2.buf true]) (fun r=>.tuple []) (fun i2 r=>[Fj i2 196 2 r.addr,.buf 5 r.buf true]):=⟨fun h hi hQ=>XD h rfl hi hQ⟩
instance ASr {a0 a1}:CF vE (IM N a0 a1) 90 [.str a0,.int .i64 a1] (fun r=>.tuple [.int .u8 r.1,.bool r.2]):=mkF (IM.eq_1 ..) Tryz.func90 rfl Tryz.ntmps90 Tryz.results90 [(1,[],.stop),(3,[],.take 0 (.take 1 (.take 2 (.take 3 (.take 6 (.take 7 (.take 8 (.take 9 (.alt 4 [9,8,7,6,2,1,0] (.take 5 (.alt 10 [5,8,7,6,3,2,1,0] (.take 11 (.alt 12 [] (.alt 13 [] (.done) (.stop)) (.stop))) (.stop))) (.stop))))))))))] false fun r n m R hR h hD=>tW
@[instance_reducible, instance] def AH1 {a0 k2 xs s4 s3} := LR.mk (X := Cv N a0 k2 xs s4 s3) (G := fun xs i (s : (List UInt8)) => Cv N a0 k2 xs i s) (i := s4) (s := s3) (js := [(5, 23)]) (cs := [3, 4]) (V := fun i s => [.str s, .int .i64 i]) (Ms := fun i s => []) rfl (fun i s => Cv.eq_1 ..) (fun x xs i s => Cv.eq_2 ..)
instance AOq {a0}:CF vE (Ik N a0) 174 [.str a0] (fun r=>.str r):=mkF (Ik.eq_1 ..) Tryz.func174 rfl Tryz.ntmps174 Tryz.results174 [] false fun r n m R hR h hD=>tW
instance APk {a0}:CF vE (Jk N a0) 63 [Fb a0] (fun r=>.str r):=mkF (Jk.eq_1 ..) Tryz.func63 rfl Tryz.ntmps63 Tryz.results63 [(3,[],.take 0 (.take 1 (.take 2 (.take 3 (.take 4 (.alt 5 [3,2,1,0] (.take 6 (.alt 7 [] (.done) (.stop))) (.stop)))))))] false fun r n m R hR h hD=>tW
instance AUM {a0}:CF vE (Hr N a0) 177 [.str a0] (fun r=>.tuple [Eo r.1,.int .i64 r.2]):=mkF (Hr.eq_1 ..) Tryz.func177 rfl Tryz.ntmps177 Tryz.results177 [(6,[],.take 0 (.take 1 (.take 2 (.take 3 (.take 4 (.take 5 (.take 6 (.take 7 (.alt 8 [6,5,4] (.take 9 (.alt 10 [6,5,4] (.alt 11 [] (.done) (.stop)) (.stop))) (.stop)))))))))),(9,[],.take 0 (.take 1 (.take 2 (.take 3 (.take 4 (.take 5 (.take 6 (.take 7 (.alt 8 [6,5,4] (.take 9 (.alt 10 [6,5,4] (.alt 11 [] (.done) (.stop)) (.stop))) (.stop)))))))))),(11,[],.stop),(14,[],.take 0 (.take 1 (.take 2 (.take 3 (.take 4 (.take 5 (.take 6 (.take 7 (.alt 8 [6,5,4,3] (.take 9 (.alt 10 [6,5,4,3] (.alt 11 [] (.done) (.stop)) (.stop))) (.stop)))))))))),(17,[],.take 0 (.take 1 (.take 2 (.take 3 (.take 4 (.take 5 (.take 6 (.alt 7 [5,4,3] (.take 8 (.alt 9 [5,4,3] (.alt 10 [] (.done) (.stop)) (.stop))) (.stop)))))))))] false fun r n m R hR h hD=>tW
@[instance_reducible, instance] def AOe {k4 xs} := LQ.mk (X := Eu N k4 xs) (G := fun xs i (s : Unit) => Eu N k4 xs) (s := ()) (js := [(2, 1), (5, 1), (11, 7)]) (cs := [10]) (V := fun i s => [.int .i64 i]) (Ms := fun i s => []) (fun _ => rfl) (fun i s => Eu.eq_1 ..) (fun x xs i s => Eu.eq_2 ..)
instance AXT {a0}:CF vE (LG N a0) 185 [.str a0] (fun r=>.bool r):=mkF (LG.eq_1 ..) Tryz.func185 rfl Tryz.ntmps185 Tryz.results185 [] false fun r n m R hR h hD=>tW
@[instance_reducible, instance] def ACb {k2 k s3 s4} := LF.mk (X := Ae N k2 k s3 s4) (G := fun k (s : (List UInt8) × (List UInt8)) => Ae N k2 k s.1 s.2) (s := (s3, s4)) (js := [(5, 1), (7, 51)]) (cs := [3, 4]) (V := fun s => [.str s.1, .str s.2]) (Ms := fun s => []) rfl (fun s => Ae.eq_1 ..) (fun k s => Ae.eq_2 ..)
instance AIE {a0}:CF vE (Cs N a0) 179 [.str a0] (fun r=>.str r):=mkF (Cs.eq_1 ..) Tryz.func179 rfl Tryz.ntmps179 Tryz.results179 [(14,[],.take 0 (.take 1 (.take 2 (.alt 3 [1,0] (.alt 4 [2] (.alt 5 [] (.done) (.stop)) (.stop)) (.stop))))),(17,[],.stop),(4,[],.take 0 (.take 1 (.take 2 (.take 3 (.take 4 (.take 5 (.take 6 (.take 7 (.alt 8 [7,6,5,3] (.alt 9 [] (.done) (.stop)) (.stop))))))))))] false fun r n m R hR h hD=>tW
end Go.Proofs.YtjgdhjpafjpjgaaGreatDoor
