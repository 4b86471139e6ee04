import Derived.Test.YtjgdhjpafjpjgaaGreatDoorVmFacts
import Derived.Test.YtjgdhjpafjpjgaaGreatDoorDefs
import Derived.Test.YtjgdhjpafjpjgaaGreatDoorVM7
import Derived.Test.YtjgdhjpafjpjgaaGreatDoorW2
import Derived.Test.YtjgdhjpafjpjgaaGreatDoorW3
import Derived.Test.YtjgdhjpafjpjgaaGreatDoorW5
import Derived.Test.YtjgdhjpafjpjgaaGreatDoorW7
import Derived.Test.YtjgdhjpafjpjgaaGreatDoorW9
import Derived.Test.YtjgdhjpafjpjgaaGreatDoorW11
import Derived.Test.YtjgdhjpafjpjgaaGreatDoorW12
import Derived.Test.YtjgdhjpafjpjgaaGreatDoorW16
import Derived.Test.YtjgdhjpafjpjgaaGreatDoorW17
set_option linter.unusedVariables false
set_option linter.unusedSimpArgs false
set_option maxHeartbeats 4000000
set_option maxRecDepth 100000
set_option linter.defProp false
namespace Go.Proofs.YtjgdhjpafjpjgaaGreatDoor
open Go.VM
attribute [local irreducible] AA grd letL
variable{N n:Nat}{m:MS}{Q:PQ}{args:List AVal}
theorem IZ {a0 a1 r}{i0:Nat} (h:De N a0 a1=some r) (ha:args=[.ptr i0 0,AC a1]) (hi0:Bd m i0=some ([.str a0.did.method,.str a0.did.iD,.int .i64 a0.e])) (hQ: ∀n',n≤n'→Gl (Q (AP r.1) ⟨Bl m i0 ([.str r.2.did.method,.str r.2.did.iD,.int .i64 r.2.e]),n'⟩)):ACall vE 104 args ⟨m,n⟩ Q:=by
 rw[De]at h
 subst ha
 refine ACall.front hi0 fun hin=>ent (fun n' k=>⟨_,rfl,(hQ n' k).go⟩) Tryz.func104 rfl Tryz.ntmps104 Tryz.results104 (.q (.r []) (.q (.r []) (.q (.r []) (.q (.r []) .z)))) fun R hR=>?_
 replace h:=And.intro trivial h
 obtain⟨y1,h⟩:=Ad h
 simp(disch:=omega) only[vm,seval,h.1]
 refine⟨Kq h.1.1 tD (i0:=i0) (by simp(disch:=omega) only[vm,seval,h.1]) fun n2 hn2=>?_⟩
 obtain⟨y3,h⟩:=Ad h
 simp(disch:=omega) only[vm,seval,h.1]
 refine⟨MW h.1.1 tD fun n4 hn4=>?_⟩
 obtain⟨y5,h⟩:=Ad h
 simp(disch:=omega) only[vm,seval,h.1]
 refine⟨Fh h.1.1 tD (i0:=i0) (by simp(disch:=omega) only[vm,seval,h.1]) fun n6 hn6=>?_⟩
 simp(disch:=omega) only[vm,seval,h.1]
 refine⟨Gn (γ:=Bool) h [8,9,23,24,25,26,27,28,29,30,31,32,33,34] [] (fun j7 g=>[]) (fun j7 g=>(n4,[.int .i64 y3.1.kind,.str y3.1.text,.slice 1 (List.map AVal.str y3.1.keys) false,.slice 4 (List.map AC y3.1.items) false])::(n2,[.str y1.1,.slice 1 (List.map AVal.str y5.1) false,.slice 1 (List.map AVal.str j7.1) g])::((n+1),[.str [],.slice 1 (List.map AVal.str []) true,.slice 1 (List.map AVal.str []) true])::(n,[.int .i64 a1.kind,.str a1.text,.slice 1 (List.map AVal.str a1.keys) false,.slice 4 (List.map AC a1.items) false])::(i0,[.str j7.2.did.method,.str j7.2.did.iD,.int .i64 j7.2.e])::Eh m i0) (.q (.r []) (.q (.r []) (.c (.r []) .z))) ?_ ?_⟩<;>clear h
 rintro j7 p1_2 n10 hnn10 _ _ h
 refine Lb [false,false,true] (i:=n2) (by simp(disch:=omega) only[vm,seval,h.1];rfl) ?_
 refine BI (.q (.r []) .z) ?_
 exact tR
 intro k8 Jk8 hk8 h
 obtain⟨y11,h⟩:=Ad h
 simp(disch:=omega) only[vm,seval,h.1]
 refine⟨MW h.1.1 tD fun n12 hn12=>?_⟩
 rcases D9 h with h|h
 obtain⟨y13,h⟩:=Ad h
 simp(disch:=omega) only[vm,seval,h.1]
 refine⟨Fh h.1.1 tD (i0:=i0) (by simp(disch:=omega) only[vm,seval,h.1]) fun n14 hn14=>?_⟩
 simp(disch:=omega) only[vm,seval,h.1]
 refine⟨hk8 (y13.1,y13.2) false _ _ _ _ h.2 (.cons _ slr) ?_ ?_ ?_ (by omega)⟩<;>first|(simp(disch:=omega) only[vm,seval,h.1];done)|rfl
 simp(disch:=omega) only[vm,seval,h.1]
 refine⟨hk8 ([],y5.2) true _ _ _ _ h.2 (.cons _ slr) ?_ ?_ ?_ (by omega)⟩<;>first|(simp(disch:=omega) only[vm,seval,h.1];done)|rfl
instance Vf {a0 a1}:CB vE (De N a0 a1) 104 (fun i0=>[.ptr i0 0,AC a1]) (fun i0=>[.str a0.did.method,.str a0.did.iD,.int .i64 a0.e]) (fun r=>AP r.1) (fun i0 r=>[.str r.2.did.method,.str r.2.did.iD,.int .i64 r.2.e]):=⟨fun h hi hQ=>IZ h rfl hi hQ⟩
instance AKL {a0 a1}:CF vE (Gi N a0 a1) 53 [Em a0,.str a1] (fun r=>.tuple [Em r.1,.int .i64 r.2]):=mkF (Gi.eq_1 ..) Tryz.func53 rfl Tryz.ntmps53 Tryz.results53 [] false fun r n m R hR h hD=>tW
@[instance_reducible, instance] def AHz {a1 y5 k8 xs} := LQ.mk (X := Dc N a1 y5 k8 xs) (G := fun xs i (s : Unit) => Dc N a1 y5 k8 xs) (s := ()) (js := [(4, 2), (11, 1), (32, 18)]) (cs := [31]) (V := fun i s => [.int .i64 i]) (Ms := fun i s => []) (fun _ => rfl) (fun i s => Dc.eq_1 ..) (fun x xs i s => Dc.eq_2 ..)
instance AOn {a0 a1}:CF vE (Gq N a0 a1) 22 [AC a0,CR a1] (fun r=>.tuple [.str r.1,.int .i64 r.2]):=mkF (Gq.eq_1 ..) Tryz.func22 rfl Tryz.ntmps22 Tryz.results22 [(10,[],.take 0 (.take 1 (.take 2 (.take 3 (.take 6 (.alt 4 [6,2,1,0] (.take 5 (.take 7 (.take 8 (.done)))) (.stop)))))))] false fun r n m R hR h hD=>tW
end Go.Proofs.YtjgdhjpafjpjgaaGreatDoor
