import Derived.Test.YtooeobhihpkicaaGreatDoorVmFacts
import Derived.Test.YtooeobhihpkicaaGreatDoorDefs
import Derived.Test.YtooeobhihpkicaaGreatDoorVM2
import Derived.Test.YtooeobhihpkicaaGreatDoorW0
import Derived.Test.YtooeobhihpkicaaGreatDoorW2
import Derived.Test.YtooeobhihpkicaaGreatDoorW5
import Derived.Test.YtooeobhihpkicaaGreatDoorW10
set_option linter.unusedVariables false
set_option linter.unusedSimpArgs false
set_option maxHeartbeats 4000000
set_option maxRecDepth 100000
set_option linter.defProp false
namespace Go.Proofs.YtooeobhihpkicaaGreatDoor
open Go.VM
variable{N n:Nat}{m:MS}{Q:PQ}{args:List AVal}
theorem Cb {a0 r}{i0:Nat} (h:A9 N a0=some r) (ha:args=[.ptr i0 0]) (hi0:Bi m i0=some ([.str a0.s,.int .i64 a0.at_,.int .i64 a0.nodes,.int .i64 a0.fail,.int .i64 a0.where_])) (hQ: ∀n',n≤n'→Gl (Q (IC r.1) ⟨Br m i0 ([.str r.2.s,.int .i64 r.2.at_,.int .i64 r.2.nodes,.int .i64 r.2.fail,.int .i64 r.2.where_]),n'⟩)):ACall vE 20 args ⟨m,n⟩ Q:=by
 rw[A9]at h
 subst ha
 refine ACall.front hi0 fun hin=>ent (fun n' k=>⟨_,rfl,(hQ n' k).go⟩) Tryz.func20 rfl Tryz.ntmps20 Tryz.results20 (.q (.r []) (.q (.q (.r []) (.c (.q (.r []) .z) .z)) .z)) fun R hR=>?_
 replace h:=And.intro trivial h
 replace h:=AC h
 rcases h with h|h
 obtain⟨H,h⟩:=h
 cases h
 simp(disch:=omega) only[vm,seval,H]
 refine⟨(hR _ _ _ _ _ _ (by simp(disch:=omega) only[vm,seval,H];rfl) (.cons _ slr) ?_ (by omega) ?_).1⟩<;>first|(simp(disch:=omega) only[vm,seval,H];done)|rfl
 · simp(disch:=omega) only[vm,seval,h.1]
   refine⟨Ad (γ:=Nat) h [12,13,14,15,16,17,18,19,20,21,22,23,24] [3,4,5] (fun j2 g=>[.ptr g 0,.int .i64 j2.1,.int .i64 j2.2.1]) (fun j2 g=>(g,[.int .i64 j2.2.2.kind,.str j2.2.2.text,.int .i64 j2.2.2.at_])::(n,[.int .i64 0,.str [],.int .i64 0])::(i0,[.str a0.s,.int .i64 a0.at_,.int .i64 a0.nodes,.int .i64 a0.fail,.int .i64 a0.where_])::BP m i0) .z ?_ ?_⟩<;>clear h
   rintro j2 q1 n5 hnn5 hk hd h
   simp only[List.map_cons,List.nodup_cons,List.mem_cons,not_or]at hd
   try dsimp only at hk
   obtain⟨hu10,hk⟩:=Lv hk
   obtain⟨hu11,hk⟩:=Lv hk
   obtain⟨hu12,hk⟩:=Lv hk
   clear hk
   refine AB (.q (.q (.r []) (.c (.q (.r []) (.q (.r []) .z)) .z)) (.q (.r []) (.q (.r []) .z))) ?_
   replace h:=AC h
   rcases h with h|h
   replace h:=AA h
   obtain⟨y8,h⟩:=h
   simp(disch:=omega) only[vm,seval,h.1]
   refine⟨CF h.1.1 (by first|(simp(disch:=omega) only[vm,seval,h.1];done)|rfl) (i0:=i0) (by simp(disch:=omega) only[vm,seval,h.1]) fun n9 hn9=>?_⟩
   obtain⟨H,h⟩:=h
   cases h
   simp(disch:=omega) only[vm,seval,H]
   refine⟨(hR _ _ _ _ _ _ (by simp(disch:=omega) only[vm,seval,H];rfl) (.cons _ (.cons _ slr)) ?_ (by omega) ?_).1⟩<;>first|(simp(disch:=omega) only[vm,seval,H];done)|rfl
   obtain⟨H,h⟩:=h
   cases h
   simp(disch:=omega) only[vm,seval,H]
   refine⟨(hR _ _ _ _ _ _ (by simp(disch:=omega) only[vm,seval,H];rfl) (.cons _ (.cons _ slr)) ?_ (by omega) ?_).1⟩<;>first|(simp(disch:=omega) only[vm,seval,H];done)|rfl
   · intro k3 Jk3 hk3 h
     replace h:=AA h
     obtain⟨y6,h⟩:=h
     have cy6:=h.1.1
     simp(disch:=omega) only[vm,seval,h.1]
     refine⟨BB [] (.take 0 (.take 1 (.take 2 (.take 3 (.take 4 (.take 5 (.take 6 (.take 7 (.alt 8 [6,5,4,2,1,0] (.take 9 (.alt 10 [7,6,5,4,3,2,1,0] (.alt 11 [7,6,5,4,3,2,1,0] (.alt 12 [7,6,5,4,3,2,1,0] (.alt 13 [9,7,6,5,4,3,2,1,0] (.alt 14 [] (.alt 15 [] (.alt 16 [] (.done) (.stop)) (.stop)) (.stop)) (.stop)) (.alt 13 [9,7,6,5,4,3,2,1,0] (.alt 12 [7,6,5,4,3,2,1,0] (.alt 14 [] (.alt 15 [] (.alt 16 [] (.done) (.stop)) (.stop)) (.stop)) (.alt 14 [] (.alt 12 [7,6,5,4,3,2,1,0] (.alt 15 [] (.alt 16 [] (.done) (.stop)) (.stop)) (.alt 15 [] (.alt 12 [7,6,5,4,3,2,1,0] (.alt 16 [] (.done) (.stop)) (.stop)) (.stop))) (.stop))) (.stop))) (.alt 12 [7,6,5,4,3,2,1,0] (.alt 11 [7,6,5,4,3,2,1,0] (.alt 13 [9,7,6,5,4,3,2,1,0] (.alt 14 [] (.alt 15 [] (.alt 16 [] (.done) (.stop)) (.stop)) (.stop)) (.stop)) (.alt 13 [9,7,6,5,4,3,2,1,0] (.alt 11 [7,6,5,4,3,2,1,0] (.alt 14 [] (.alt 15 [] (.alt 16 [] (.done) (.stop)) (.stop)) (.stop)) (.alt 14 [] (.alt 11 [7,6,5,4,3,2,1,0] (.alt 15 [] (.alt 16 [] (.done) (.stop)) (.stop)) (.stop)) (.stop))) (.stop))) (.alt 13 [9,7,6,5,4,3,2,1,0] (.alt 11 [7,6,5,4,3,2,1,0] (.alt 12 [7,6,5,4,3,2,1,0] (.alt 14 [] (.alt 15 [] (.alt 16 [] (.done) (.stop)) (.stop)) (.stop)) (.alt 14 [] (.alt 12 [7,6,5,4,3,2,1,0] (.alt 15 [] (.alt 16 [] (.done) (.stop)) (.stop)) (.alt 15 [] (.alt 12 [7,6,5,4,3,2,1,0] (.alt 16 [] (.done) (.stop)) (.stop)) (.stop))) (.stop))) (.alt 12 [7,6,5,4,3,2,1,0] (.alt 11 [7,6,5,4,3,2,1,0] (.alt 14 [] (.alt 15 [] (.alt 16 [] (.done) (.stop)) (.stop)) (.stop)) (.alt 14 [] (.alt 11 [7,6,5,4,3,2,1,0] (.alt 15 [] (.alt 16 [] (.done) (.stop)) (.stop)) (.stop)) (.stop))) (.alt 14 [] (.alt 11 [7,6,5,4,3,2,1,0] (.alt 12 [7,6,5,4,3,2,1,0] (.alt 15 [] (.alt 16 [] (.done) (.stop)) (.stop)) (.alt 15 [] (.alt 12 [7,6,5,4,3,2,1,0] (.alt 16 [] (.done) (.stop)) (.stop)) (.stop))) (.alt 12 [7,6,5,4,3,2,1,0] (.alt 11 [7,6,5,4,3,2,1,0] (.alt 15 [] (.alt 16 [] (.done) (.stop)) (.stop)) (.stop)) (.stop))) (.stop)))) (.stop)))) (.alt 11 [7,6,5,4,3,2,1,0] (.alt 10 [7,6,5,4,3,2,1,0] (.alt 12 [7,6,5,4,3,2,1,0] (.alt 13 [9,7,6,5,4,3,2,1,0] (.alt 14 [] (.alt 15 [] (.alt 16 [] (.done) (.stop)) (.stop)) (.stop)) (.stop)) (.alt 13 [9,7,6,5,4,3,2,1,0] (.alt 12 [7,6,5,4,3,2,1,0] (.alt 14 [] (.alt 15 [] (.alt 16 [] (.done) (.stop)) (.stop)) (.stop)) (.alt 14 [] (.alt 12 [7,6,5,4,3,2,1,0] (.alt 15 [] (.alt 16 [] (.done) (.stop)) (.stop)) (.alt 15 [] (.alt 12 [7,6,5,4,3,2,1,0] (.alt 16 [] (.done) (.stop)) (.stop)) (.stop))) (.stop))) (.stop))) (.alt 12 [7,6,5,4,3,2,1,0] (.alt 10 [7,6,5,4,3,2,1,0] (.alt 13 [9,7,6,5,4,3,2,1,0] (.alt 14 [] (.alt 15 [] (.alt 16 [] (.done) (.stop)) (.stop)) (.stop)) (.stop)) (.alt 13 [9,7,6,5,4,3,2,1,0] (.alt 10 [7,6,5,4,3,2,1,0] (.alt 14 [] (.alt 15 [] (.alt 16 [] (.done) (.stop)) (.stop)) (.stop)) (.stop)) (.stop))) (.alt 13 [9,7,6,5,4,3,2,1,0] (.alt 10 [7,6,5,4,3,2,1,0] (.alt 12 [7,6,5,4,3,2,1,0] (.alt 14 [] (.alt 15 [] (.alt 16 [] (.done) (.stop)) (.stop)) (.stop)) (.alt 14 [] (.alt 12 [7,6,5,4,3,2,1,0] (.alt 15 [] (.alt 16 [] (.done) (.stop)) (.stop)) (.alt 15 [] (.alt 12 [7,6,5,4,3,2,1,0] (.alt 16 [] (.done) (.stop)) (.stop)) (.stop))) (.stop))) (.alt 12 [7,6,5,4,3,2,1,0] (.alt 10 [7,6,5,4,3,2,1,0] (.alt 14 [] (.alt 15 [] (.alt 16 [] (.done) (.stop)) (.stop)) (.stop)) (.stop)) (.stop))) (.stop)))) (.alt 12 [7,6,5,4,3,2,1,0] (.alt 10 [7,6,5,4,3,2,1,0] (.alt 11 [7,6,5,4,3,2,1,0] (.alt 13 [9,7,6,5,4,3,2,1,0] (.alt 14 [] (.alt 15 [] (.alt 16 [] (.done) (.stop)) (.stop)) (.stop)) (.stop)) (.alt 13 [9,7,6,5,4,3,2,1,0] (.alt 11 [7,6,5,4,3,2,1,0] (.alt 14 [] (.alt 15 [] (.alt 16 [] (.done) (.stop)) (.stop)) (.stop)) (.alt 14 [] (.alt 11 [7,6,5,4,3,2,1,0] (.alt 15 [] (.alt 16 [] (.done) (.stop)) (.stop)) (.stop)) (.stop))) (.stop))) (.alt 11 [7,6,5,4,3,2,1,0] (.alt 10 [7,6,5,4,3,2,1,0] (.alt 13 [9,7,6,5,4,3,2,1,0] (.alt 14 [] (.alt 15 [] (.alt 16 [] (.done) (.stop)) (.stop)) (.stop)) (.stop)) (.alt 13 [9,7,6,5,4,3,2,1,0] (.alt 10 [7,6,5,4,3,2,1,0] (.alt 14 [] (.alt 15 [] (.alt 16 [] (.done) (.stop)) (.stop)) (.stop)) (.stop)) (.stop))) (.alt 13 [9,7,6,5,4,3,2,1,0] (.alt 10 [7,6,5,4,3,2,1,0] (.alt 11 [7,6,5,4,3,2,1,0] (.alt 14 [] (.alt 15 [] (.alt 16 [] (.done) (.stop)) (.stop)) (.stop)) (.alt 14 [] (.alt 11 [7,6,5,4,3,2,1,0] (.alt 15 [] (.alt 16 [] (.done) (.stop)) (.stop)) (.stop)) (.stop))) (.alt 11 [7,6,5,4,3,2,1,0] (.alt 10 [7,6,5,4,3,2,1,0] (.alt 14 [] (.alt 15 [] (.alt 16 [] (.done) (.stop)) (.stop)) (.stop)) (.stop)) (.stop))) (.stop)))) (.alt 13 [9,7,6,5,4,3,2,1,0] (.alt 10 [7,6,5,4,3,2,1,0] (.alt 11 [7,6,5,4,3,2,1,0] (.alt 12 [7,6,5,4,3,2,1,0] (.alt 14 [] (.alt 15 [] (.alt 16 [] (.done) (.stop)) (.stop)) (.stop)) (.alt 14 [] (.alt 12 [7,6,5,4,3,2,1,0] (.alt 15 [] (.alt 16 [] (.done) (.stop)) (.stop)) (.alt 15 [] (.alt 12 [7,6,5,4,3,2,1,0] (.alt 16 [] (.done) (.stop)) (.stop)) (.stop))) (.stop))) (.alt 12 [7,6,5,4,3,2,1,0] (.alt 11 [7,6,5,4,3,2,1,0] (.alt 14 [] (.alt 15 [] (.alt 16 [] (.done) (.stop)) (.stop)) (.stop)) (.alt 14 [] (.alt 11 [7,6,5,4,3,2,1,0] (.alt 15 [] (.alt 16 [] (.done) (.stop)) (.stop)) (.stop)) (.stop))) (.alt 14 [] (.alt 11 [7,6,5,4,3,2,1,0] (.alt 12 [7,6,5,4,3,2,1,0] (.alt 15 [] (.alt 16 [] (.done) (.stop)) (.stop)) (.alt 15 [] (.alt 12 [7,6,5,4,3,2,1,0] (.alt 16 [] (.done) (.stop)) (.stop)) (.stop))) (.alt 12 [7,6,5,4,3,2,1,0] (.alt 11 [7,6,5,4,3,2,1,0] (.alt 15 [] (.alt 16 [] (.done) (.stop)) (.stop)) (.stop)) (.stop))) (.stop)))) (.alt 11 [7,6,5,4,3,2,1,0] (.alt 10 [7,6,5,4,3,2,1,0] (.alt 12 [7,6,5,4,3,2,1,0] (.alt 14 [] (.alt 15 [] (.alt 16 [] (.done) (.stop)) (.stop)) (.stop)) (.alt 14 [] (.alt 12 [7,6,5,4,3,2,1,0] (.alt 15 [] (.alt 16 [] (.done) (.stop)) (.stop)) (.alt 15 [] (.alt 12 [7,6,5,4,3,2,1,0] (.alt 16 [] (.done) (.stop)) (.stop)) (.stop))) (.stop))) (.alt 12 [7,6,5,4,3,2,1,0] (.alt 10 [7,6,5,4,3,2,1,0] (.alt 14 [] (.alt 15 [] (.alt 16 [] (.done) (.stop)) (.stop)) (.stop)) (.stop)) (.stop))) (.alt 12 [7,6,5,4,3,2,1,0] (.alt 10 [7,6,5,4,3,2,1,0] (.alt 11 [7,6,5,4,3,2,1,0] (.alt 14 [] (.alt 15 [] (.alt 16 [] (.done) (.stop)) (.stop)) (.stop)) (.alt 14 [] (.alt 11 [7,6,5,4,3,2,1,0] (.alt 15 [] (.alt 16 [] (.done) (.stop)) (.stop)) (.stop)) (.stop))) (.alt 11 [7,6,5,4,3,2,1,0] (.alt 10 [7,6,5,4,3,2,1,0] (.alt 14 [] (.alt 15 [] (.alt 16 [] (.done) (.stop)) (.stop)) (.stop)) (.stop)) (.stop))) (.stop)))) (.stop)))))) (.alt 13 [7,6,5,4,3,2,1,0] (.alt 8 [6,5,4,2,1,0] (.take 9 (.alt 10 [7,6,5,4,3,2,1,0] (.alt 11 [7,6,5,4,3,2,1,0] (.alt 12 [7,6,5,4,3,2,1,0] (.alt 14 [] (.alt 15 [] (.alt 16 [] (.done) (.stop)) (.stop)) (.stop)) (.alt 14 [] (.alt 12 [7,6,5,4,3,2,1,0] (.alt 15 [] (.alt 16 [] (.done) (.stop)) (.stop)) (.alt 15 [] (.alt 12 [7,6,5,4,3,2,1,0] (.alt 16 [] (.done) (.stop)) (.stop)) (.stop))) (.stop))) (.alt 12 [7,6,5,4,3,2,1,0] (.alt 11 [7,6,5,4,3,2,1,0] (.alt 14 [] (.alt 15 [] (.alt 16 [] (.done) (.stop)) (.stop)) (.stop)) (.alt 14 [] (.alt 11 [7,6,5,4,3,2,1,0] (.alt 15 [] (.alt 16 [] (.done) (.stop)) (.stop)) (.stop)) (.stop))) (.alt 14 [] (.alt 11 [7,6,5,4,3,2,1,0] (.alt 12 [7,6,5,4,3,2,1,0] (.alt 15 [] (.alt 16 [] (.done) (.stop)) (.stop)) (.alt 15 [] (.alt 12 [7,6,5,4,3,2,1,0] (.alt 16 [] (.done) (.stop)) (.stop)) (.stop))) (.alt 12 [7,6,5,4,3,2,1,0] (.alt 11 [7,6,5,4,3,2,1,0] (.alt 15 [] (.alt 16 [] (.done) (.stop)) (.stop)) (.stop)) (.stop))) (.stop)))) (.alt 11 [7,6,5,4,3,2,1,0] (.alt 10 [7,6,5,4,3,2,1,0] (.alt 12 [7,6,5,4,3,2,1,0] (.alt 14 [] (.alt 15 [] (.alt 16 [] (.done) (.stop)) (.stop)) (.stop)) (.alt 14 [] (.alt 12 [7,6,5,4,3,2,1,0] (.alt 15 [] (.alt 16 [] (.done) (.stop)) (.stop)) (.alt 15 [] (.alt 12 [7,6,5,4,3,2,1,0] (.alt 16 [] (.done) (.stop)) (.stop)) (.stop))) (.stop))) (.alt 12 [7,6,5,4,3,2,1,0] (.alt 10 [7,6,5,4,3,2,1,0] (.alt 14 [] (.alt 15 [] (.alt 16 [] (.done) (.stop)) (.stop)) (.stop)) (.stop)) (.stop))) (.alt 12 [7,6,5,4,3,2,1,0] (.alt 10 [7,6,5,4,3,2,1,0] (.alt 11 [7,6,5,4,3,2,1,0] (.alt 14 [] (.alt 15 [] (.alt 16 [] (.done) (.stop)) (.stop)) (.stop)) (.alt 14 [] (.alt 11 [7,6,5,4,3,2,1,0] (.alt 15 [] (.alt 16 [] (.done) (.stop)) (.stop)) (.stop)) (.stop))) (.alt 11 [7,6,5,4,3,2,1,0] (.alt 10 [7,6,5,4,3,2,1,0] (.alt 14 [] (.alt 15 [] (.alt 16 [] (.done) (.stop)) (.stop)) (.stop)) (.stop)) (.stop))) (.stop))))) (.stop)) (.stop))))))))))) Av (by kernel_rfl) ?_⟩
     all_goals
      simp(disch:=omega) only[vm,seval,h.1]
      repeat' refine AFK ?_ ?_
      all_goals
       refine⟨VF cy6 (by first|(simp(disch:=omega) only[vm,seval,h.1];done)|rfl) fun n7 hn7=>?_⟩
       simp(disch:=omega) only[vm,seval,h.1]
       exact⟨hk3 (y6.2.1,y6.2.2,y6.1) _ _ _ _ _ h.2 slr (by first|(simp(disch:=omega) only[vm,seval,h.1];done)|(simp(disch:=omega) only[vm,seval,h.1];rfl)|rfl) (by first|(simp(disch:=omega) only[vm,seval,h.1];done)|rfl) (by first|(simp(disch:=omega) only[vm,seval,h.1];done)|rfl) (by omega)⟩
theorem Oe {a0 r} (h:Fy N a0=some r) (ha:args=[AJ a0]) (hQ: ∀n',n≤n'→Gl (Q (.bool r) ⟨m,n'⟩)):ACall vE 45 args ⟨m,n⟩ Q:=by
 rw[Fy]at h
 subst ha
 refine ent hQ Tryz.func45 rfl Tryz.ntmps45 Tryz.results45 (.q (.r []) (.q (.q (.r []) (.q (.r []) (.c (.q (.r []) (.q (.r []) .z)) (.q (.r []) (.c (.q (.r []) .z) .z))))) (.q (.r []) .z))) fun R hR=>?_
 replace h:=And.intro trivial h
 replace h:=AC h
 rcases h with h|h
 replace h:=AA h
 obtain⟨y1,h⟩:=h
 simp(disch:=omega) only[vm,seval,h.1]
 refine⟨QS h.1.1 (by first|(simp(disch:=omega) only[vm,seval,h.1];done)|rfl) fun n2 hn2=>?_⟩
 replace h:=AC h
 rcases h with h|h
 obtain⟨H,h⟩:=h
 cases h
 simp(disch:=omega) only[vm,seval,H]
 refine⟨(hR _ _ _ _ _ _ (by simp(disch:=omega) only[vm,seval,H];rfl) (.cons _ slr) ?_ (by omega) ?_).1⟩<;>first|(simp(disch:=omega) only[vm,seval,H];done)|rfl
 obtain⟨H,h⟩:=h
 cases h
 simp(disch:=omega) only[vm,seval,H]
 refine⟨(hR _ _ _ _ _ _ (by simp(disch:=omega) only[vm,seval,H];rfl) (.cons _ slr) ?_ (by omega) ?_).1⟩<;>first|(simp(disch:=omega) only[vm,seval,H];done)|rfl
 replace h:=AC h
 rcases h with h|h
 replace h:=AA h
 obtain⟨y3,h⟩:=h
 simp(disch:=omega) only[vm,seval,h.1]
 refine⟨I4 h.1.1 (by first|(simp(disch:=omega) only[vm,seval,h.1];done)|rfl) fun n4 hn4=>?_⟩
 obtain⟨H,h⟩:=h
 cases h
 simp(disch:=omega) only[vm,seval,H]
 refine⟨(hR _ _ _ _ _ _ (by simp(disch:=omega) only[vm,seval,H];rfl) (.cons _ slr) ?_ (by omega) ?_).1⟩<;>first|(simp(disch:=omega) only[vm,seval,H];done)|rfl
 obtain⟨H,h⟩:=h
 cases h
 simp(disch:=omega) only[vm,seval,H]
 refine⟨(hR _ _ _ _ _ _ (by simp(disch:=omega) only[vm,seval,H];rfl) (.cons _ slr) ?_ (by omega) ?_).1⟩<;>first|(simp(disch:=omega) only[vm,seval,H];done)|rfl
theorem F4 {l0 a0 c1_0 r}{i0:Nat} (h:Bo N l0 a0 c1_0=some r) (ha:args=[.bsl 1 i0 0 l0,.fn (.func 66) [] [.cptr [.int .i64 c1_0.kind,.str c1_0.text,.slice 1 (List.map AVal.str c1_0.keys) false,.slice 4 (List.map AJ c1_0.items) false]]]) (hi0:Bi m i0=some (List.map (AVal.int .i64) a0)) (hQ: ∀n',n≤n'→Gl (Q (.tuple []) ⟨Br m i0 (List.map (AVal.int .i64) r),n'⟩)):ACall vE 65 args ⟨m,n⟩ Q:=by
 rw[Bo]at h
 subst ha
 refine ACall.front hi0 fun hin=>ent (fun n' k=>⟨_,rfl,(hQ n' k).go⟩) Tryz.func65 rfl Tryz.ntmps65 Tryz.results65 (.q (.r []) (.r [])) fun R hR=>?_
 replace h:=And.intro trivial h
 replace h:=AA h
 obtain⟨y1,h⟩:=h
 simp(disch:=omega) only[vm,seval,h.1]
 refine⟨LW h.1.1 (by first|(simp(disch:=omega) only[vm,seval,h.1];done)|rfl) fun n2 hn2=>?_⟩
 replace h:=AA h
 obtain⟨y3,h⟩:=h
 simp(disch:=omega) only[vm,seval,h.1]
 refine⟨Fp h.1.1 (by first|(simp(disch:=omega) only[vm,seval,h.1];done)|rfl) (i0:=i0) (by simp(disch:=omega) only[vm,seval,h.1]) fun n4 hn4=>?_⟩
 obtain⟨H,h⟩:=h
 cases h
 simp(disch:=omega) only[vm,seval,H]
 refine⟨(hR _ _ _ _ _ _ (by simp(disch:=omega) only[vm,seval,H];rfl) slr ?_ (by omega) ?_).2⟩<;>first|(simp(disch:=omega) only[vm,seval,H];done)|rfl
end Go.Proofs.YtooeobhihpkicaaGreatDoor
