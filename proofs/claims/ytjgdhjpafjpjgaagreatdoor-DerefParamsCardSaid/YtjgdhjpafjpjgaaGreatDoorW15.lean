import Derived.Test.YtjgdhjpafjpjgaaGreatDoorVmFacts
import Derived.Test.YtjgdhjpafjpjgaaGreatDoorDefs
import Derived.Test.YtjgdhjpafjpjgaaGreatDoorVM2
import Derived.Test.YtjgdhjpafjpjgaaGreatDoorW0
import Derived.Test.YtjgdhjpafjpjgaaGreatDoorW2
import Derived.Test.YtjgdhjpafjpjgaaGreatDoorW4
import Derived.Test.YtjgdhjpafjpjgaaGreatDoorW6
import Derived.Test.YtjgdhjpafjpjgaaGreatDoorW7
import Derived.Test.YtjgdhjpafjpjgaaGreatDoorW8
import Derived.Test.YtjgdhjpafjpjgaaGreatDoorW13
import Derived.Test.YtjgdhjpafjpjgaaGreatDoorW14
set_option linter.unusedVariables false
set_option linter.unusedSimpArgs false
set_option maxHeartbeats 4000000
set_option maxRecDepth 100000
set_option linter.defProp false
namespace Go.Proofs.YtjgdhjpafjpjgaaGreatDoor
open Go.VM
variable{N n:Nat}{m:MS}{Q:PQ}{args:List AVal}
theorem Ig {a0 a1 r}{i0:Nat} (h:EO N a0 a1=some r) (ha:args=[.ptr i0 0,AJ a1]) (hi0:BD m i0=some ([.str a0.did.method,.str a0.did.iD,.int .i64 a0.e])) (hQ: ∀n',n≤n'→Gl (Q (Ac r.1) ⟨BQ m i0 ([.str r.2.did.method,.str r.2.did.iD,.int .i64 r.2.e]),n'⟩)):ACall vE 104 args ⟨m,n⟩ Q:=by
 rw[EO]at h
 subst ha
 refine ACall.front hi0 fun hin=>ent (fun n' k=>⟨_,rfl,(hQ n' k).go⟩) Tryz.func104 rfl Tryz.ntmps104 Tryz.results104 (.q (.r []) (.q (.r []) (.q (.r []) (.q (.r []) .z)))) fun R hR=>?_
 replace h:=And.intro trivial h
 obtain⟨y1,h⟩:=AA h
 simp(disch:=omega) only[vm,seval,h.1]
 refine⟨G8 h.1.1 tD (i0:=i0) (by simp(disch:=omega) only[vm,seval,h.1]) fun n2 hn2=>?_⟩
 obtain⟨y3,h⟩:=AA h
 simp(disch:=omega) only[vm,seval,h.1]
 refine⟨FT h.1.1 tD fun n4 hn4=>?_⟩
 obtain⟨y5,h⟩:=AA h
 simp(disch:=omega) only[vm,seval,h.1]
 refine⟨DY h.1.1 tD (i0:=i0) (by simp(disch:=omega) only[vm,seval,h.1]) fun n6 hn6=>?_⟩
 simp(disch:=omega) only[vm,seval,h.1]
 refine⟨AP (γ:=Bool) h [8,9,23,24,25,26,27,28,29,30,31,32,33,34] [] (fun j7 g=>[]) (fun j7 g=>(n4,[.int .i64 y3.1.kind,.str y3.1.text,.slice 1 (List.map AVal.str y3.1.keys) false,.slice 4 (List.map AJ y3.1.items) false])::(n2,[.str y1.1,.slice 1 (List.map AVal.str y5.1) false,.slice 1 (List.map AVal.str j7.1) g])::((n+1),[.str [],.slice 1 (List.map AVal.str []) true,.slice 1 (List.map AVal.str []) true])::(n,[.int .i64 a1.kind,.str a1.text,.slice 1 (List.map AVal.str a1.keys) false,.slice 4 (List.map AJ a1.items) false])::(i0,[.str j7.2.did.method,.str j7.2.did.iD,.int .i64 j7.2.e])::Bd m i0) (.q (.r []) (.q (.r []) (.c (.r []) .z))) ?_ ?_⟩<;>clear h
 rintro j7 p1_2 n10 hnn10 _ _ h
 refine KJ [false,false,true] (i:=n2) (by simp(disch:=omega) only[vm,seval,h.1];rfl) ?_
 refine AB (.q (.r []) .z) ?_
 exact tR
 intro k8 Jk8 hk8 h
 obtain⟨y11,h⟩:=AA h
 simp(disch:=omega) only[vm,seval,h.1]
 refine⟨FT h.1.1 tD fun n12 hn12=>?_⟩
 rcases AC h with h|h
 obtain⟨y13,h⟩:=AA h
 simp(disch:=omega) only[vm,seval,h.1]
 refine⟨DY h.1.1 tD (i0:=i0) (by simp(disch:=omega) only[vm,seval,h.1]) fun n14 hn14=>?_⟩
 simp(disch:=omega) only[vm,seval,h.1]
 refine⟨hk8 (y13.1,y13.2) false _ _ _ _ h.2 (.cons _ slr) ?_ ?_ ?_ (by omega)⟩<;>first|(simp(disch:=omega) only[vm,seval,h.1];done)|rfl
 simp(disch:=omega) only[vm,seval,h.1]
 refine⟨hk8 ([],y5.2) true _ _ _ _ h.2 (.cons _ slr) ?_ ?_ ?_ (by omega)⟩<;>first|(simp(disch:=omega) only[vm,seval,h.1];done)|rfl
theorem LX {a0 a1 r} (h:Gz N a0 a1=some r) (ha:args=[Fj a0,.str a1]) (hQ: ∀n',n≤n'→Gl (Q (.tuple [Fj r.1,.int .i64 r.2]) ⟨m,n'⟩)):ACall vE 53 args ⟨m,n⟩ Q:=by
 rw[Gz]at h
 subst ha
 refine ent hQ Tryz.func53 rfl Tryz.ntmps53 Tryz.results53 (.q (.r []) (.q (.q (.r []) (.c (.q (.r []) .z) .z)) (.q (.r []) (.q (.r []) (.q (.q (.r []) (.c (.q (.r []) .z) .z)) (.q (.r []) (.q (.q (.r []) (.c (.q (.r []) .z) .z)) (.q (.r []) .z)))))))) fun R hR=>?_
 replace h:=And.intro trivial h
 obtain⟨y1,h⟩:=AA h
 simp(disch:=omega) only[vm,seval,h.1]
 refine⟨OE h.1.1 tD fun n2 hn2=>?_⟩
 rcases AC h with h|h
 obtain⟨y3,h⟩:=AA h
 simp(disch:=omega) only[vm,seval,h.1]
 refine⟨FY h.1.1 tD fun n4 hn4=>?_⟩
 obtain⟨y5,h⟩:=AA h
 simp(disch:=omega) only[vm,seval,h.1]
 refine⟨KN h.1.1 tD fun n6 hn6=>?_⟩
 obtain⟨y7,h⟩:=AA h
 simp(disch:=omega) only[vm,seval,h.1]
 refine⟨KN h.1.1 tD fun n8 hn8=>?_⟩
 rcases AC h with h|h
 exact tR
 obtain⟨y9,h⟩:=AA h
 simp(disch:=omega) only[vm,seval,h.1]
 refine⟨OZ h.1.1 tD fun n10 hn10=>?_⟩
 obtain⟨y11,h⟩:=AA h
 simp(disch:=omega) only[vm,seval,h.1]
 refine⟨Kn h.1.1 tD fun n12 hn12=>?_⟩
 rcases AC h with h|h
 obtain⟨y13,h⟩:=AA h
 simp(disch:=omega) only[vm,seval,h.1]
 refine⟨AAX h.1.1 tD fun n14 hn14=>?_⟩
 obtain⟨y15,h⟩:=AA h
 simp(disch:=omega) only[vm,seval,h.1]
 refine⟨Hr h.1.1 tD fun n16 hn16=>?_⟩
 exact tR
 exact tR
 exact tR
end Go.Proofs.YtjgdhjpafjpjgaaGreatDoor
