import Derived.Test.YtjgdhjpafjpjgaaGreatDoorVmFacts
import Derived.Test.YtjgdhjpafjpjgaaGreatDoorDefs
import Derived.Test.YtjgdhjpafjpjgaaGreatDoorVM2
import Derived.Test.YtjgdhjpafjpjgaaGreatDoorW0
import Derived.Test.YtjgdhjpafjpjgaaGreatDoorW2
import Derived.Test.YtjgdhjpafjpjgaaGreatDoorW4
import Derived.Test.YtjgdhjpafjpjgaaGreatDoorW12
import Derived.Test.YtjgdhjpafjpjgaaGreatDoorW13
set_option linter.unusedVariables false
set_option linter.unusedSimpArgs false
set_option maxHeartbeats 4000000
set_option maxRecDepth 100000
set_option linter.defProp false
namespace Go.Proofs.YtjgdhjpafjpjgaaGreatDoor
open Go.VM
variable{N n:Nat}{m:MS}{Q:PQ}{args:List AVal}
theorem PD {a0 r} (h:KH N a0=some r) (ha:args=[.str a0]) (hQ: ∀n',n≤n'→Gl (Q (.tuple [AJ r.1,.int .i64 r.2.1,.int .i64 r.2.2]) ⟨m,n'⟩)):ACall vE 20 args ⟨m,n⟩ Q:=by
 rw[KH]at h
 subst ha
 refine J9 hQ Tryz.func20 rfl Tryz.ntmps20 Tryz.results20 (.q (.r []) (.q (.q (.r []) (.c (.q (.r []) .z) .z)) (.q (.r []) (.q (.r []) .z)))) fun R hR=>?_
 replace h:=And.intro trivial h
 rcases AC h with h|h
 exact tR
 obtain⟨y1,h⟩:=AA h
 simp(disch:=omega) only[vm,seval,h.1]
 refine⟨BI h.1.1 tD (i0:=(n+1)) (by simp(disch:=omega) only[vm,seval,h.1]) fun n2 hn2=>?_⟩
 obtain⟨y3,h⟩:=AA h
 simp(disch:=omega) only[vm,seval,h.1]
 refine⟨KQ h.1.1 tD (i0:=(n+1)) (by simp(disch:=omega) only[vm,seval,h.1]) fun n4 hn4=>?_⟩
 simp(disch:=omega) only[vm,seval,h.1]
 refine⟨AP (γ:=Unit) h [7,19,20,21,22,23,24,25,26,27,28,29,30,31,32,33,34] [] (fun j5 g=>[]) (fun j5 g=>(n4,[.int .i64 y3.1.kind,.str y3.1.text,.slice 1 (List.map AVal.str y3.1.keys) false,.slice 4 (List.map AJ y3.1.items) false])::((n+1),[.str j5.s,.int .i64 j5.at_,.int .i64 j5.nodes,.int .i64 j5.fail,.int .i64 j5.where_])::(n,[.int .i64 0,.str [],.slice 1 (List.map AVal.str []) true,.slice 4 (List.map AJ []) true])::m) (.q (.r []) .z) ?_ ?_⟩<;>clear h
 rintro j5 _ n8 hnn8 _ _ h
 refine AB (.q (.q (.r []) (.c (.q .z .z) .z)) (.q (.r []) .z)) ?_
 rcases AC h with h|h
 simp(disch:=omega) only[vm,seval,h.1]
 refine⟨BL [] (.take 1 (.take 2 (.take 3 (.take 4 (.take 5 (.take 6 (.take 7 (.take 8 (.alt 0 [8,7,6,5,4,3,2,1] (.alt 9 [8,7,6,5,4,3,2,1] (.alt 10 [8,7,6,5] (.alt 11 [] (.done) (.stop)) (.stop)) (.stop)) (.stop)))))))))) Ar (by kernel_rfl) ?_⟩
 exact tR
 exact tR
 intro k6 Jk6 hk6 h
 obtain⟨y9,h⟩:=AA h
 simp(disch:=omega) only[vm,seval,h.1]
 refine⟨BI h.1.1 tD (i0:=(n+1)) (by simp(disch:=omega) only[vm,seval,h.1]) fun n10 hn10=>?_⟩
 simp(disch:=omega) only[vm,seval,h.1]
 refine⟨AP (γ:=Unit) h [21,22,23,24,25,26,27,28,29] [30] (fun j11 g=>[.bool j11]) (fun j11 g=>(n10,[.int .i64 y9.1.kind,.str y9.1.text,.int .i64 y9.1.at_])::(n4,[.int .i64 y3.1.kind,.str y3.1.text,.slice 1 (List.map AVal.str y3.1.keys) false,.slice 4 (List.map AJ y3.1.items) false])::((n+1),[.str y9.2.s,.int .i64 y9.2.at_,.int .i64 y9.2.nodes,.int .i64 y9.2.fail,.int .i64 y9.2.where_])::(n,[.int .i64 0,.str [],.slice 1 (List.map AVal.str []) true,.slice 4 (List.map AJ []) true])::m) (.r []) ?_ ?_⟩<;>clear h
 rintro j11 _ n14 hnn14 _ _ h
 refine AB (.c (.r []) .z) ?_
 rcases AC h with h|h
 obtain⟨y15,h⟩:=AA h
 simp(disch:=omega) only[vm,seval,h.1]
 refine⟨A8 h.1.1 tD (i0:=(n+1)) (by simp(disch:=omega) only[vm,seval,h.1]) fun n16 hn16=>?_⟩
 exact tJ (hk6 y15 ())
 exact tJ (hk6 y9.2 ())
 intro k12 Jk12 hk12 h
 rcases AC h with h|h
 exact tJ (hk12 (y9.1.kind !=1) ())
 exact tJ (hk12 false ())
theorem G8 {a0 a1 r}{i0:Nat} (h:Ep N a0 a1=some r) (ha:args=[.ptr i0 0,AJ a1]) (hi0:BD m i0=some ([.str a0.did.method,.str a0.did.iD,.int .i64 a0.e])) (hQ: ∀n',n≤n'→Gl (Q (.str r.1) ⟨BQ m i0 ([.str r.2.did.method,.str r.2.did.iD,.int .i64 r.2.e]),n'⟩)):ACall vE 103 args ⟨m,n⟩ Q:=by
 rw[Ep]at h
 subst ha
 refine ACall.front hi0 fun hin=>ent (fun n' k=>⟨_,rfl,(hQ n' k).go⟩) Tryz.func103 rfl Tryz.ntmps103 Tryz.results103 (.q (.r []) (.q (.r []) (.q (.r []) (.q (.q (.r []) (.c (.q (.r []) (.q (.r []) .z)) .z)) (.q (.r []) .z))))) fun R hR=>?_
 replace h:=And.intro trivial h
 obtain⟨y1,h⟩:=AA h
 simp(disch:=omega) only[vm,seval,h.1]
 refine⟨DC h.1.1 tD (i0:=i0) (by simp(disch:=omega) only[vm,seval,h.1]) fun n2 hn2=>?_⟩
 obtain⟨y3,h⟩:=AA h
 simp(disch:=omega) only[vm,seval,h.1]
 refine⟨Oz h.1.1 tD fun n4 hn4=>?_⟩
 rcases AC h with h|h
 obtain⟨y5,h⟩:=AA h
 simp(disch:=omega) only[vm,seval,h.1]
 refine⟨Dm h.1.1 tD (i0:=i0) (by simp(disch:=omega) only[vm,seval,h.1]) fun n6 hn6=>?_⟩
 exact tR
 obtain⟨y7,h⟩:=AA h
 simp(disch:=omega) only[vm,seval,h.1]
 refine⟨UQ h.1.1 tD fun n8 hn8=>?_⟩
 exact tR
theorem OE {a0 r} (h:JW N a0=some r) (ha:args=[Fj a0]) (hQ: ∀n',n≤n'→Gl (Q (.bool r) ⟨m,n'⟩)):ACall vE 111 args ⟨m,n⟩ Q:=by
 rw[JW]at h
 subst ha
 refine ent hQ Tryz.func111 rfl Tryz.ntmps111 Tryz.results111 (.q (.r []) (.q (.r []) (.q (.r []) .z))) fun R hR=>?_
 replace h:=And.intro trivial h
 obtain⟨y1,h⟩:=AA h
 simp(disch:=omega) only[vm,seval,h.1]
 refine⟨FY h.1.1 tD fun n2 hn2=>?_⟩
 obtain⟨y3,h⟩:=AA h
 simp(disch:=omega) only[vm,seval,h.1]
 refine⟨Hr h.1.1 tD fun n4 hn4=>?_⟩
 rcases AC h with h|h
 exact tR
 exact tR
end Go.Proofs.YtjgdhjpafjpjgaaGreatDoor
