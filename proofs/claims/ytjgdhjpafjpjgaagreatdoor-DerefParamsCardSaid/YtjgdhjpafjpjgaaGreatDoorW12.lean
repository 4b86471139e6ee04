import Derived.Test.YtjgdhjpafjpjgaaGreatDoorVmFacts
import Derived.Test.YtjgdhjpafjpjgaaGreatDoorDefs
import Derived.Test.YtjgdhjpafjpjgaaGreatDoorVM2
import Derived.Test.YtjgdhjpafjpjgaaGreatDoorW0
import Derived.Test.YtjgdhjpafjpjgaaGreatDoorW2
import Derived.Test.YtjgdhjpafjpjgaaGreatDoorW6
import Derived.Test.YtjgdhjpafjpjgaaGreatDoorW7
import Derived.Test.YtjgdhjpafjpjgaaGreatDoorW9
import Derived.Test.YtjgdhjpafjpjgaaGreatDoorW11
set_option linter.unusedVariables false
set_option linter.unusedSimpArgs false
set_option maxHeartbeats 4000000
set_option maxRecDepth 100000
set_option linter.defProp false
namespace Go.Proofs.YtjgdhjpafjpjgaaGreatDoor
open Go.VM
variable{N n:Nat}{m:MS}{Q:PQ}{args:List AVal}
theorem BI {a0 r}{i0:Nat} (h:BB N a0=some r) (ha:args=[.ptr i0 0]) (hi0:BD m i0=some ([.str a0.s,.int .i64 a0.at_,.int .i64 a0.nodes,.int .i64 a0.fail,.int .i64 a0.where_])) (hQ: ∀n',n≤n'→Gl (Q (Fx r.1) ⟨BQ m i0 ([.str r.2.s,.int .i64 r.2.at_,.int .i64 r.2.nodes,.int .i64 r.2.fail,.int .i64 r.2.where_]),n'⟩)):ACall vE 45 args ⟨m,n⟩ Q:=by
 rw[BB]at h
 subst ha
 refine ACall.front hi0 fun hin=>ent (fun n' k=>⟨_,rfl,(hQ n' k).go⟩) Tryz.func45 rfl Tryz.ntmps45 Tryz.results45 (.q (.r []) (.q (.q (.r []) (.c (.q (.r []) .z) .z)) .z)) fun R hR=>?_
 replace h:=And.intro trivial h
 rcases AC h with h|h
 exact tR
 · simp(disch:=omega) only[vm,seval,h.1]
   refine⟨AP (γ:=Nat) h [12,13,14,15,16,17,18,19,20,21,22,23,24] [3,4,5] (fun j2 g=>[.ptr g 0,.int .i64 j2.1,.int .i64 j2.2.1]) (fun j2 g=>(g,[.int .i64 j2.2.2.kind,.str j2.2.2.text,.int .i64 j2.2.2.at_])::(n,[.int .i64 0,.str [],.int .i64 0])::(i0,[.str a0.s,.int .i64 a0.at_,.int .i64 a0.nodes,.int .i64 a0.fail,.int .i64 a0.where_])::Bd m i0) .z ?_ ?_⟩<;>clear h
   rintro j2 q1 n5 hnn5 hk hd h
   simp only[List.map_cons,List.nodup_cons,List.mem_cons,not_or]at hd
   try dsimp only at hk
   obtain⟨hu10,hk⟩:=J2 hk
   obtain⟨hu11,hk⟩:=J2 hk
   obtain⟨hu12,hk⟩:=J2 hk
   clear hk
   refine AB (.q (.q (.r []) (.c (.q (.r []) (.q (.r []) .z)) .z)) (.q (.r []) (.q (.r []) .z))) ?_
   rcases AC h with h|h
   obtain⟨y8,h⟩:=AA h
   simp(disch:=omega) only[vm,seval,h.1]
   refine⟨A8 h.1.1 tD (i0:=i0) (by simp(disch:=omega) only[vm,seval,h.1]) fun n9 hn9=>?_⟩
   exact tR
   exact tR
   · intro k3 Jk3 hk3 h
     obtain⟨y6,h⟩:=AA h
     have cy6:=h.1.1
     simp(disch:=omega) only[vm,seval,h.1]
     refine⟨BL [] (.take 0 (.take 1 (.take 2 (.take 3 (.take 4 (.take 5 (.take 6 (.take 7 (.alt 8 [6,5,4,2,1,0] (.take 9 (.alt 10 [7,6,5,4,3,2,1,0] (.alt 11 [7,6,5,4,3,2,1,0] (.alt 12 [7,6,5,4,3,2,1,0] (.alt 13 [9,7,6,5,4,3,2,1,0] (.alt 14 [] (.alt 15 [] (.alt 16 [] (.done) (.stop)) (.stop)) (.stop)) (.stop)) (.alt 13 [9,7,6,5,4,3,2,1,0] (.alt 12 [7,6,5,4,3,2,1,0] (.alt 14 [] (.alt 15 [] (.alt 16 [] (.done) (.stop)) (.stop)) (.stop)) (.alt 14 [] (.alt 12 [7,6,5,4,3,2,1,0] (.alt 15 [] (.alt 16 [] (.done) (.stop)) (.stop)) (.alt 15 [] (.alt 12 [7,6,5,4,3,2,1,0] (.alt 16 [] (.done) (.stop)) (.stop)) (.stop))) (.stop))) (.stop))) (.alt 12 [7,6,5,4,3,2,1,0] (.alt 11 [7,6,5,4,3,2,1,0] (.alt 13 [9,7,6,5,4,3,2,1,0] (.alt 14 [] (.alt 15 [] (.alt 16 [] (.done) (.stop)) (.stop)) (.stop)) (.stop)) (.alt 13 [9,7,6,5,4,3,2,1,0] (.alt 11 [7,6,5,4,3,2,1,0] (.alt 14 [] (.alt 15 [] (.alt 16 [] (.done) (.stop)) (.stop)) (.stop)) (.alt 14 [] (.alt 11 [7,6,5,4,3,2,1,0] (.alt 15 [] (.alt 16 [] (.done) (.stop)) (.stop)) (.stop)) (.stop))) (.stop))) (.alt 13 [9,7,6,5,4,3,2,1,0] (.alt 11 [7,6,5,4,3,2,1,0] (.alt 12 [7,6,5,4,3,2,1,0] (.alt 14 [] (.alt 15 [] (.alt 16 [] (.done) (.stop)) (.stop)) (.stop)) (.alt 14 [] (.alt 12 [7,6,5,4,3,2,1,0] (.alt 15 [] (.alt 16 [] (.done) (.stop)) (.stop)) (.alt 15 [] (.alt 12 [7,6,5,4,3,2,1,0] (.alt 16 [] (.done) (.stop)) (.stop)) (.stop))) (.stop))) (.alt 12 [7,6,5,4,3,2,1,0] (.alt 11 [7,6,5,4,3,2,1,0] (.alt 14 [] (.alt 15 [] (.alt 16 [] (.done) (.stop)) (.stop)) (.stop)) (.alt 14 [] (.alt 11 [7,6,5,4,3,2,1,0] (.alt 15 [] (.alt 16 [] (.done) (.stop)) (.stop)) (.stop)) (.stop))) (.alt 14 [] (.alt 11 [7,6,5,4,3,2,1,0] (.alt 12 [7,6,5,4,3,2,1,0] (.alt 15 [] (.alt 16 [] (.done) (.stop)) (.stop)) (.alt 15 [] (.alt 12 [7,6,5,4,3,2,1,0] (.alt 16 [] (.done) (.stop)) (.stop)) (.stop))) (.alt 12 [7,6,5,4,3,2,1,0] (.alt 11 [7,6,5,4,3,2,1,0] (.alt 15 [] (.alt 16 [] (.done) (.stop)) (.stop)) (.stop)) (.stop))) (.stop)))) (.stop)))) (.alt 11 [7,6,5,4,3,2,1,0] (.alt 10 [7,6,5,4,3,2,1,0] (.alt 12 [7,6,5,4,3,2,1,0] (.alt 13 [9,7,6,5,4,3,2,1,0] (.alt 14 [] (.alt 15 [] (.alt 16 [] (.done) (.stop)) (.stop)) (.stop)) (.stop)) (.alt 13 [9,7,6,5,4,3,2,1,0] (.alt 12 [7,6,5,4,3,2,1,0] (.alt 14 [] (.alt 15 [] (.alt 16 [] (.done) (.stop)) (.stop)) (.stop)) (.alt 14 [] (.alt 12 [7,6,5,4,3,2,1,0] (.alt 15 [] (.alt 16 [] (.done) (.stop)) (.stop)) (.alt 15 [] (.alt 12 [7,6,5,4,3,2,1,0] (.alt 16 [] (.done) (.stop)) (.stop)) (.stop))) (.stop))) (.stop))) (.alt 12 [7,6,5,4,3,2,1,0] (.alt 10 [7,6,5,4,3,2,1,0] (.alt 13 [9,7,6,5,4,3,2,1,0] (.alt 14 [] (.alt 15 [] (.alt 16 [] (.done) (.stop)) (.stop)) (.stop)) (.stop)) (.alt 13 [9,7,6,5,4,3,2,1,0] (.alt 10 [7,6,5,4,3,2,1,0] (.alt 14 [] (.alt 15 [] (.alt 16 [] (.done) (.stop)) (.stop)) (.stop)) (.stop)) (.stop))) (.alt 13 [9,7,6,5,4,3,2,1,0] (.alt 10 [7,6,5,4,3,2,1,0] (.alt 12 [7,6,5,4,3,2,1,0] (.alt 14 [] (.alt 15 [] (.alt 16 [] (.done) (.stop)) (.stop)) (.stop)) (.alt 14 [] (.alt 12 [7,6,5,4,3,2,1,0] (.alt 15 [] (.alt 16 [] (.done) (.stop)) (.stop)) (.alt 15 [] (.alt 12 [7,6,5,4,3,2,1,0] (.alt 16 [] (.done) (.stop)) (.stop)) (.stop))) (.stop))) (.alt 12 [7,6,5,4,3,2,1,0] (.alt 10 [7,6,5,4,3,2,1,0] (.alt 14 [] (.alt 15 [] (.alt 16 [] (.done) (.stop)) (.stop)) (.stop)) (.stop)) (.stop))) (.stop)))) (.alt 12 [7,6,5,4,3,2,1,0] (.alt 10 [7,6,5,4,3,2,1,0] (.alt 11 [7,6,5,4,3,2,1,0] (.alt 13 [9,7,6,5,4,3,2,1,0] (.alt 14 [] (.alt 15 [] (.alt 16 [] (.done) (.stop)) (.stop)) (.stop)) (.stop)) (.alt 13 [9,7,6,5,4,3,2,1,0] (.alt 11 [7,6,5,4,3,2,1,0] (.alt 14 [] (.alt 15 [] (.alt 16 [] (.done) (.stop)) (.stop)) (.stop)) (.alt 14 [] (.alt 11 [7,6,5,4,3,2,1,0] (.alt 15 [] (.alt 16 [] (.done) (.stop)) (.stop)) (.stop)) (.stop))) (.stop))) (.alt 11 [7,6,5,4,3,2,1,0] (.alt 10 [7,6,5,4,3,2,1,0] (.alt 13 [9,7,6,5,4,3,2,1,0] (.alt 14 [] (.alt 15 [] (.alt 16 [] (.done) (.stop)) (.stop)) (.stop)) (.stop)) (.alt 13 [9,7,6,5,4,3,2,1,0] (.alt 10 [7,6,5,4,3,2,1,0] (.alt 14 [] (.alt 15 [] (.alt 16 [] (.done) (.stop)) (.stop)) (.stop)) (.stop)) (.stop))) (.alt 13 [9,7,6,5,4,3,2,1,0] (.alt 10 [7,6,5,4,3,2,1,0] (.alt 11 [7,6,5,4,3,2,1,0] (.alt 14 [] (.alt 15 [] (.alt 16 [] (.done) (.stop)) (.stop)) (.stop)) (.alt 14 [] (.alt 11 [7,6,5,4,3,2,1,0] (.alt 15 [] (.alt 16 [] (.done) (.stop)) (.stop)) (.stop)) (.stop))) (.alt 11 [7,6,5,4,3,2,1,0] (.alt 10 [7,6,5,4,3,2,1,0] (.alt 14 [] (.alt 15 [] (.alt 16 [] (.done) (.stop)) (.stop)) (.stop)) (.stop)) (.stop))) (.stop)))) (.alt 13 [9,7,6,5,4,3,2,1,0] (.alt 10 [7,6,5,4,3,2,1,0] (.alt 11 [7,6,5,4,3,2,1,0] (.alt 12 [7,6,5,4,3,2,1,0] (.alt 14 [] (.alt 15 [] (.alt 16 [] (.done) (.stop)) (.stop)) (.stop)) (.alt 14 [] (.alt 12 [7,6,5,4,3,2,1,0] (.alt 15 [] (.alt 16 [] (.done) (.stop)) (.stop)) (.alt 15 [] (.alt 12 [7,6,5,4,3,2,1,0] (.alt 16 [] (.done) (.stop)) (.stop)) (.stop))) (.stop))) (.alt 12 [7,6,5,4,3,2,1,0] (.alt 11 [7,6,5,4,3,2,1,0] (.alt 14 [] (.alt 15 [] (.alt 16 [] (.done) (.stop)) (.stop)) (.stop)) (.alt 14 [] (.alt 11 [7,6,5,4,3,2,1,0] (.alt 15 [] (.alt 16 [] (.done) (.stop)) (.stop)) (.stop)) (.stop))) (.alt 14 [] (.alt 11 [7,6,5,4,3,2,1,0] (.alt 12 [7,6,5,4,3,2,1,0] (.alt 15 [] (.alt 16 [] (.done) (.stop)) (.stop)) (.alt 15 [] (.alt 12 [7,6,5,4,3,2,1,0] (.alt 16 [] (.done) (.stop)) (.stop)) (.stop))) (.alt 12 [7,6,5,4,3,2,1,0] (.alt 11 [7,6,5,4,3,2,1,0] (.alt 15 [] (.alt 16 [] (.done) (.stop)) (.stop)) (.stop)) (.stop))) (.stop)))) (.alt 11 [7,6,5,4,3,2,1,0] (.alt 10 [7,6,5,4,3,2,1,0] (.alt 12 [7,6,5,4,3,2,1,0] (.alt 14 [] (.alt 15 [] (.alt 16 [] (.done) (.stop)) (.stop)) (.stop)) (.alt 14 [] (.alt 12 [7,6,5,4,3,2,1,0] (.alt 15 [] (.alt 16 [] (.done) (.stop)) (.stop)) (.alt 15 [] (.alt 12 [7,6,5,4,3,2,1,0] (.alt 16 [] (.done) (.stop)) (.stop)) (.stop))) (.stop))) (.alt 12 [7,6,5,4,3,2,1,0] (.alt 10 [7,6,5,4,3,2,1,0] (.alt 14 [] (.alt 15 [] (.alt 16 [] (.done) (.stop)) (.stop)) (.stop)) (.stop)) (.stop))) (.alt 12 [7,6,5,4,3,2,1,0] (.alt 10 [7,6,5,4,3,2,1,0] (.alt 11 [7,6,5,4,3,2,1,0] (.alt 14 [] (.alt 15 [] (.alt 16 [] (.done) (.stop)) (.stop)) (.stop)) (.alt 14 [] (.alt 11 [7,6,5,4,3,2,1,0] (.alt 15 [] (.alt 16 [] (.done) (.stop)) (.stop)) (.stop)) (.stop))) (.alt 11 [7,6,5,4,3,2,1,0] (.alt 10 [7,6,5,4,3,2,1,0] (.alt 14 [] (.alt 15 [] (.alt 16 [] (.done) (.stop)) (.stop)) (.stop)) (.stop)) (.stop))) (.stop)))) (.stop)))))) (.alt 13 [7,6,5,4,3,2,1,0] (.alt 8 [6,5,4,2,1,0] (.take 9 (.alt 10 [7,6,5,4,3,2,1,0] (.alt 11 [7,6,5,4,3,2,1,0] (.alt 12 [7,6,5,4,3,2,1,0] (.alt 14 [] (.alt 15 [] (.alt 16 [] (.done) (.stop)) (.stop)) (.stop)) (.alt 14 [] (.alt 12 [7,6,5,4,3,2,1,0] (.alt 15 [] (.alt 16 [] (.done) (.stop)) (.stop)) (.alt 15 [] (.alt 12 [7,6,5,4,3,2,1,0] (.alt 16 [] (.done) (.stop)) (.stop)) (.stop))) (.stop))) (.alt 12 [7,6,5,4,3,2,1,0] (.alt 11 [7,6,5,4,3,2,1,0] (.alt 14 [] (.alt 15 [] (.alt 16 [] (.done) (.stop)) (.stop)) (.stop)) (.alt 14 [] (.alt 11 [7,6,5,4,3,2,1,0] (.alt 15 [] (.alt 16 [] (.done) (.stop)) (.stop)) (.stop)) (.stop))) (.alt 14 [] (.alt 11 [7,6,5,4,3,2,1,0] (.alt 12 [7,6,5,4,3,2,1,0] (.alt 15 [] (.alt 16 [] (.done) (.stop)) (.stop)) (.alt 15 [] (.alt 12 [7,6,5,4,3,2,1,0] (.alt 16 [] (.done) (.stop)) (.stop)) (.stop))) (.alt 12 [7,6,5,4,3,2,1,0] (.alt 11 [7,6,5,4,3,2,1,0] (.alt 15 [] (.alt 16 [] (.done) (.stop)) (.stop)) (.stop)) (.stop))) (.stop)))) (.alt 11 [7,6,5,4,3,2,1,0] (.alt 10 [7,6,5,4,3,2,1,0] (.alt 12 [7,6,5,4,3,2,1,0] (.alt 14 [] (.alt 15 [] (.alt 16 [] (.done) (.stop)) (.stop)) (.stop)) (.alt 14 [] (.alt 12 [7,6,5,4,3,2,1,0] (.alt 15 [] (.alt 16 [] (.done) (.stop)) (.stop)) (.alt 15 [] (.alt 12 [7,6,5,4,3,2,1,0] (.alt 16 [] (.done) (.stop)) (.stop)) (.stop))) (.stop))) (.alt 12 [7,6,5,4,3,2,1,0] (.alt 10 [7,6,5,4,3,2,1,0] (.alt 14 [] (.alt 15 [] (.alt 16 [] (.done) (.stop)) (.stop)) (.stop)) (.stop)) (.stop))) (.alt 12 [7,6,5,4,3,2,1,0] (.alt 10 [7,6,5,4,3,2,1,0] (.alt 11 [7,6,5,4,3,2,1,0] (.alt 14 [] (.alt 15 [] (.alt 16 [] (.done) (.stop)) (.stop)) (.stop)) (.alt 14 [] (.alt 11 [7,6,5,4,3,2,1,0] (.alt 15 [] (.alt 16 [] (.done) (.stop)) (.stop)) (.stop)) (.stop))) (.alt 11 [7,6,5,4,3,2,1,0] (.alt 10 [7,6,5,4,3,2,1,0] (.alt 14 [] (.alt 15 [] (.alt 16 [] (.done) (.stop)) (.stop)) (.stop)) (.stop)) (.stop))) (.stop))))) (.stop)) (.stop))))))))))) Ar (by kernel_rfl) ?_⟩
     all_goals
      simp(disch:=omega) only[vm,seval,h.1]
      repeat' refine Nn ?_ ?_
      all_goals
       refine⟨Ta cy6 tD fun n7 hn7=>?_⟩
       simp(disch:=omega) only[vm,seval,h.1]
       exact⟨hk3 (y6.2.1,y6.2.2,y6.1) _ _ _ _ _ h.2 slr (by first|(simp(disch:=omega) only[vm,seval,h.1];done)|(simp(disch:=omega) only[vm,seval,h.1];rfl)|rfl) tD tD (by omega)⟩
theorem M4 {a0 r} (h:KY N a0=some r) (ha:args=[.str a0]) (hQ: ∀n',n≤n'→Gl (Q (.tuple [FE r.1,.int .i64 r.2]) ⟨m,n'⟩)):ACall vE 203 args ⟨m,n⟩ Q:=by
 rw[KY]at h
 subst ha
 refine ent hQ Tryz.func203 rfl Tryz.ntmps203 Tryz.results203 (.q (.r []) (.q (.q (.r []) (.c (.q (.r []) .z) .z)) (.q (.r []) (.q (.r []) (.q (.r []) (.q (.r []) .z)))))) fun R hR=>?_
 replace h:=And.intro trivial h
 rcases AC h with h|h
 exact tR
 obtain⟨y1,h⟩:=AA h
 simp(disch:=omega) only[vm,seval,h.1]
 refine⟨DV h.1.1 tD fun n2 hn2=>?_⟩
 obtain⟨y3,h⟩:=AA h
 simp(disch:=omega) only[vm,seval,h.1]
 refine⟨DV h.1.1 tD fun n4 hn4=>?_⟩
 simp(disch:=omega) only[vm,seval,h.1]
 refine⟨AP (γ:=Unit) h [6,27,28,29,30,31,32,33,34,35,36,37] [0] (fun j5 g=>[.str j5.1]) (fun j5 g=>((n+1),[.str [],.str [],.str j5.2,.str y3.2.1,.str y1.2.1,.bool y3.2.2,.bool y1.2.2])::(n,[.str [],.str [],.str [],.str [],.str [],.bool false,.bool false])::m) (.q (.r []) (.q (.r []) (.c .z .z))) ?_ ?_⟩<;>clear h
 rintro j5 _ n8 hnn8 _ _ h
 refine AB (.q (.q (.r []) (.q (.r []) (.c (.q (.r []) .z) .z))) (.q (.q (.r []) (.q (.r []) (.c (.q (.r []) .z) .z))) (.q (.q (.r []) (.q (.r []) (.c (.q (.r []) .z) .z))) (.q (.q (.r []) (.q (.r []) (.c (.q (.r []) .z) .z))) (.q (.r []) .z))))) ?_
 obtain⟨y13,h⟩:=AA h
 simp(disch:=omega) only[vm,seval,h.1]
 refine⟨KF h.1.1 tD fun n14 hn14=>?_⟩
 rcases AC h with h|h
 exact tR
 obtain⟨y15,h⟩:=AA h
 simp(disch:=omega) only[vm,seval,h.1]
 refine⟨Bt h.1.1 tD fun n16 hn16=>?_⟩
 rcases AC h with h|h
 exact tR
 obtain⟨y17,h⟩:=AA h
 simp(disch:=omega) only[vm,seval,h.1]
 refine⟨Bt h.1.1 tD fun n18 hn18=>?_⟩
 rcases AC h with h|h
 exact tR
 obtain⟨y19,h⟩:=AA h
 simp(disch:=omega) only[vm,seval,h.1]
 refine⟨Bt h.1.1 tD fun n20 hn20=>?_⟩
 rcases AC h with h|h
 exact tR
 exact tR
 intro k6 Jk6 hk6 h
 obtain⟨y9,h⟩:=AA h
 simp(disch:=omega) only[vm,seval,h.1]
 refine⟨BR h.1.1 tD fun n10 hn10=>?_⟩
 rcases AC h with h|h
 obtain⟨x11,h⟩:=AA h
 obtain⟨x12,h⟩:=AA h
 simp(disch:=omega) only[vm,seval,h.1]
 refine⟨BL [] (.take 0 (.take 1 (.take 2 (.take 3 (.take 4 (.take 5 (.alt 6 [5,4] (.take 7 (.alt 8 [] (.done) (.stop))) (.stop)))))))) Ar (by kernel_rfl) ?_⟩
 exact tJ (hk6 (x11,x12) ())
 exact tJ (hk6 (y3.1,[]) ())
theorem VY {a0 r} (h:Kz N a0=some r) (ha:args=[.str a0]) (hQ: ∀n',n≤n'→Gl (Q (.tuple [GH r.1,.int .i64 r.2]) ⟨m,n'⟩)):ACall vE 108 args ⟨m,n⟩ Q:=by
 rw[Kz]at h
 subst ha
 refine ent hQ Tryz.func108 rfl Tryz.ntmps108 Tryz.results108 (.q (.r []) (.q (.r []) (.q (.r []) (.q (.q (.r []) (.c (.q (.r []) .z) .z)) (.q (.r []) .z))))) fun R hR=>?_
 replace h:=And.intro trivial h
 obtain⟨y1,h⟩:=AA h
 simp(disch:=omega) only[vm,seval,h.1]
 refine⟨DV h.1.1 tD fun n2 hn2=>?_⟩
 obtain⟨y3,h⟩:=AA h
 simp(disch:=omega) only[vm,seval,h.1]
 refine⟨Y8 h.1.1 tD fun n4 hn4=>?_⟩
 rcases AC h with h|h
 exact tR
 simp(disch:=omega) only[vm,seval,h.1]
 refine⟨AP (γ:=Unit) h [3,8,27,28,29,30,31,32,33,34,35,36,37] [] (fun j5 g=>[]) (fun j5 g=>(n4,[.str y3.1,.int .i64 j5])::(n,[.str [],.int .i64 0])::m) (.q (.r []) (.c (.q (.r []) (.q (.r []) (.c (.q (.r []) .z) .z))) .z)) ?_ ?_⟩<;>clear h
 rintro j5 _ n8 hnn8 _ _ h
 refine AB .z ?_
 simp(disch:=omega) only[vm,seval,h.1]
 refine⟨AP (γ:=Unit) h [38,39,40,41] [] (fun j11 g=>[]) (fun j11 g=>(n4,[.str y3.1,.int .i64 j11])::(n,[.str [],.int .i64 0])::m) (.q (.r []) (.c (.r []) .z)) ?_ ?_⟩<;>clear h
 rintro j11 _ n14 hnn14 _ _ h
 refine AB (.q (.r []) .z) ?_
 exact tR
 intro k12 Jk12 hk12 h
 rcases AC h with h|h
 exact tJ (hk12 0 ())
 exact tJ (hk12 j5 ())
 intro k6 Jk6 hk6 h
 rcases AC h with h|h
 obtain⟨y9,h⟩:=AA h
 simp(disch:=omega) only[vm,seval,h.1]
 refine⟨YA h.1.1 tD fun n10 hn10=>?_⟩
 rcases AC h with h|h
 exact tR
 exact tJ (hk6 y9.1 ())
 exact tJ (hk6 0 ())
end Go.Proofs.YtjgdhjpafjpjgaaGreatDoor
