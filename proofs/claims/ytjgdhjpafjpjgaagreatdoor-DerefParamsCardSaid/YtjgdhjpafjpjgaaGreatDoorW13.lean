import Derived.Test.YtjgdhjpafjpjgaaGreatDoorVmFacts
import Derived.Test.YtjgdhjpafjpjgaaGreatDoorDefs
import Derived.Test.YtjgdhjpafjpjgaaGreatDoorVM2
import Derived.Test.YtjgdhjpafjpjgaaGreatDoorW0
import Derived.Test.YtjgdhjpafjpjgaaGreatDoorW2
import Derived.Test.YtjgdhjpafjpjgaaGreatDoorW4
import Derived.Test.YtjgdhjpafjpjgaaGreatDoorW6
import Derived.Test.YtjgdhjpafjpjgaaGreatDoorW7
import Derived.Test.YtjgdhjpafjpjgaaGreatDoorW12
set_option linter.unusedVariables false
set_option linter.unusedSimpArgs false
set_option maxHeartbeats 4000000
set_option maxRecDepth 100000
set_option linter.defProp false
namespace Go.Proofs.YtjgdhjpafjpjgaaGreatDoor
open Go.VM
variable{N n:Nat}{m:MS}{Q:PQ}{args:List AVal}
theorem JH (N:Nat): ∀D:Nat,(∀ {a0:Ref14Parser}{a1:Int}{r:ApiValue×Ref14Parser} (h:EP N D a0 a1=some r){args:List AVal}{n:Nat}{m:MS}{i0:Nat} (ha:args=[.ptr i0 0,.int .i64 a1]) (hi0:BD m i0=some ([.str a0.s,.int .i64 a0.at_,.int .i64 a0.nodes,.int .i64 a0.fail,.int .i64 a0.where_])){Q:PQ} (hQ: ∀n',n≤n'→Gl (Q (AJ r.1) ⟨BQ m i0 ([.str r.2.s,.int .i64 r.2.at_,.int .i64 r.2.nodes,.int .i64 r.2.fail,.int .i64 r.2.where_]),n'⟩)),ACall vE 94 args ⟨m,n⟩ Q)∧(∀ {a0:Ref14Parser}{a1:Int}{r:ApiValue×Ref14Parser} (h:EB N D a0 a1=some r){args:List AVal}{n:Nat}{m:MS}{i0:Nat} (ha:args=[.ptr i0 0,.int .i64 a1]) (hi0:BD m i0=some ([.str a0.s,.int .i64 a0.at_,.int .i64 a0.nodes,.int .i64 a0.fail,.int .i64 a0.where_])){Q:PQ} (hQ: ∀n',n≤n'→Gl (Q (AJ r.1) ⟨BQ m i0 ([.str r.2.s,.int .i64 r.2.at_,.int .i64 r.2.nodes,.int .i64 r.2.fail,.int .i64 r.2.where_]),n'⟩)),ACall vE 95 args ⟨m,n⟩ Q)∧(∀ {a0:Ref14Parser}{a1:ApiToken}{a2:Int}{r:ApiValue×Ref14Parser} (h:BG N D a0 a1 a2=some r){args:List AVal}{n:Nat}{m:MS}{i0:Nat} (ha:args=[.ptr i0 0,Fx a1,.int .i64 a2]) (hi0:BD m i0=some ([.str a0.s,.int .i64 a0.at_,.int .i64 a0.nodes,.int .i64 a0.fail,.int .i64 a0.where_])){Q:PQ} (hQ: ∀n',n≤n'→Gl (Q (AJ r.1) ⟨BQ m i0 ([.str r.2.s,.int .i64 r.2.at_,.int .i64 r.2.nodes,.int .i64 r.2.fail,.int .i64 r.2.where_]),n'⟩)),ACall vE 44 args ⟨m,n⟩ Q):=by
 intro D
 induction D with
 |zero=>
  refine⟨?_,?_,?_⟩
  · intro a0 a1 r h
    simp only[EP,reduceCtorEq]at h
  · intro a0 a1 r h
    simp only[EB,reduceCtorEq]at h
  · intro a0 a1 a2 r h
    simp only[BG,reduceCtorEq]at h
 |succ D ih=>
  obtain⟨ih_ref14_parser_array,ih_ref14_parser_object,ih_ref14_parser_value⟩:=ih
  refine⟨?_,?_,?_⟩
  · intro a0 a1 r h args n m i0 ha hi0 Q hQ
    rw[EP]at h
    subst ha
    refine ACall.front hi0 fun hin=>J9 (fun n' k=>⟨_,rfl,(hQ n' k).go⟩) Tryz.func94 rfl Tryz.ntmps94 Tryz.results94 (.q (.r []) (.q (.r []) (.q (.r []) (.q (.q (.r []) (.c (.q (.r []) .z) .z)) .z)))) fun R hR=>?_
    replace h:=And.intro trivial h
    obtain⟨y1,h⟩:=AA h
    simp(disch:=omega) only[vm,seval,h.1]
    refine⟨BI h.1.1 tD (i0:=i0) (by simp(disch:=omega) only[vm,seval,h.1]) fun n2 hn2=>?_⟩
    obtain⟨y3,h⟩:=AA h
    simp(disch:=omega) only[vm,seval,h.1]
    refine⟨Dj h.1.1 tD fun n4 hn4=>?_⟩
    rcases AC h with h|h
    exact tR
    · simp (disch:=omega) only[vm,seval,h.1]
      refine⟨AP (γ:=Unit) h [13,14,15,16,17,18,19,20,21,22,23,24,25,26,27,28,29,30,31,32,33,34,35,36,37,38,39,40,41,42,43,44,45,46,47] [] (fun j5 g=>[]) (fun j5 g=>(n2,[.int .i64 j5.1.kind,.str j5.1.text,.int .i64 j5.1.at_])::((n+1),[.int .i64 6,.str [],.slice 1 (List.map AVal.str []) true,.slice 4 (List.map AJ j5.2.1) true])::(n,[.int .i64 0,.str [],.slice 1 (List.map AVal.str []) true,.slice 4 (List.map AJ []) true])::(i0,[.str j5.2.2.s,.int .i64 j5.2.2.at_,.int .i64 j5.2.2.nodes,.int .i64 j5.2.2.fail,.int .i64 j5.2.2.where_])::Bd m i0) .z ?_ ?_⟩<;>clear h
      rintro j5 _ n8 hnn8 _ _ h
      refine AB (.q (.r []) .z) ?_
      exact tR
      · intro k6 Jk6 hk6 h
        simp(disch:=omega) only[vm,seval,h.1]
        refine⟨E8 (σ:=ApiToken×(List ApiValue)×Ref14Parser) (γ:=Unit) (fun k s=>Co N a1 (BG N D) k6 k s.1 s.2.1 s.2.2) (fun s g=>[]) (fun s g=>(n2,[.int .i64 s.1.kind,.str s.1.text,.int .i64 s.1.at_])::((n+1),[.int .i64 6,.str [],.slice 1 (List.map AVal.str []) true,.slice 4 (List.map AJ s.2.1) true])::(n,[.int .i64 0,.str [],.slice 1 (List.map AVal.str []) true,.slice 4 (List.map AJ []) true])::(i0,[.str s.2.2.s,.int .i64 s.2.2.at_,.int .i64 s.2.2.nodes,.int .i64 s.2.2.fail,.int .i64 s.2.2.where_])::Bd m i0) [13,14,15,16,17,18,19,20,21,22,23,24,25,26,27,28,29,30,31,32,33,34,35,36,37,38,39,40,41,42,43,44,45,46,47] [] (y1.1,[],y1.2) () h (fun _=>rfl) tD tD ?_⟩
        clear h
        rintro k9 ⟨bn2,bn1_items,bi0⟩ _ nL0_1 hnL0_1 _ h Jk9 hk9
        change _∧Co N a1 (BG N D) k6 (k9+1) bn2 bn1_items bi0=_ at h
        rw[Co]at h
        refine AB (.q (.q (.r []) (.c .z .z)) .z) ?_
        rcases AC h with h|h
        · simp(disch:=omega) only[vm,seval,h.1]
          refine⟨AP (γ:=Unit) h [18,19,20,21,22,23,24,25,26] [] (fun j10 g=>[]) (fun j10 g=>(n2,[.int .i64 bn2.kind,.str bn2.text,.int .i64 bn2.at_])::((n+1),[.int .i64 6,.str [],.slice 1 (List.map AVal.str []) true,.slice 4 (List.map AJ j10.1) true])::(n,[.int .i64 0,.str [],.slice 1 (List.map AVal.str []) true,.slice 4 (List.map AJ []) true])::(i0,[.str j10.2.s,.int .i64 j10.2.at_,.int .i64 j10.2.nodes,.int .i64 j10.2.fail,.int .i64 j10.2.where_])::Bd m i0) .z ?_ ?_⟩<;>clear h
          rintro j10 _ n13 hnn13 _ _ h
          refine AB (.q (.r []) (.q (.q (.r []) (.c (.q (.r []) .z) .z)) .z)) ?_
          obtain⟨y16,h⟩:=AA h
          simp(disch:=omega) only[vm,seval,h.1]
          refine⟨BI h.1.1 tD (i0:=i0) (by simp(disch:=omega) only[vm,seval,h.1]) fun n17 hn17=>?_⟩
          obtain⟨y18,h⟩:=AA h
          simp(disch:=omega) only[vm,seval,h.1]
          refine⟨Dj h.1.1 tD fun n19 hn19=>?_⟩
          rcases AC h with h|h
          exact tR
          simp(disch:=omega) only[vm,seval,h.1]
          refine⟨AP (γ:=Unit) h [32,33,34,35,36,37,38,39,40,41,42,43,44,45] [] (fun j20 g=>[]) (fun j20 g=>(n2,[.int .i64 y16.1.kind,.str y16.1.text,.int .i64 y16.1.at_])::((n+1),[.int .i64 6,.str [],.slice 1 (List.map AVal.str []) true,.slice 4 (List.map AJ j10.1) true])::(n,[.int .i64 0,.str [],.slice 1 (List.map AVal.str []) true,.slice 4 (List.map AJ []) true])::(i0,[.str j20.s,.int .i64 j20.at_,.int .i64 j20.nodes,.int .i64 j20.fail,.int .i64 j20.where_])::Bd m i0) .z ?_ ?_⟩<;>clear h
          rintro j20 _ n23 hnn23 _ _ h
          refine AB (.r []) ?_
          obtain⟨y32,h⟩:=AA h
          simp(disch:=omega) only[vm,seval,h.1]
          refine⟨BI h.1.1 tD (i0:=i0) (by simp(disch:=omega) only[vm,seval,h.1]) fun n33 hn33=>?_⟩
          exact tJ (hk9 (y32.1,j10.1,y32.2) ())
          intro k21 Jk21 hk21 h
          simp(disch:=omega) only[vm,seval,h.1]
          refine⟨AP (γ:=Unit) h [32,33,34,35,36,37,38,39,40] [41] (fun j24 g=>[.bool j24]) (fun j24 g=>(n2,[.int .i64 y16.1.kind,.str y16.1.text,.int .i64 y16.1.at_])::((n+1),[.int .i64 6,.str [],.slice 1 (List.map AVal.str []) true,.slice 4 (List.map AJ j10.1) true])::(n,[.int .i64 0,.str [],.slice 1 (List.map AVal.str []) true,.slice 4 (List.map AJ []) true])::(i0,[.str y16.2.s,.int .i64 y16.2.at_,.int .i64 y16.2.nodes,.int .i64 y16.2.fail,.int .i64 y16.2.where_])::Bd m i0) (.r []) ?_ ?_⟩<;>clear h
          rintro j24 _ n27 hnn27 _ _ h
          refine AB (.c (.r []) .z) ?_
          rcases AC h with h|h
          obtain⟨y30,h⟩:=AA h
          simp(disch:=omega) only[vm,seval,h.1]
          refine⟨A8 h.1.1 tD (i0:=i0) (by simp(disch:=omega) only[vm,seval,h.1]) fun n31 hn31=>?_⟩
          exact tJ (hk21 y30 ())
          exact tJ (hk21 y16.2 ())
          intro k25 Jk25 hk25 h
          rcases AC h with h|h
          obtain⟨y28,h⟩:=AA h
          simp(disch:=omega) only[vm,seval,h.1]
          refine⟨Dj h.1.1 tD fun n29 hn29=>?_⟩
          exact tJ (hk25 (!y28) ())
          exact tJ (hk25 false ())
          · intro k11 Jk11 hk11 h
            obtain⟨y14,h⟩:=AA h
            have cy14:=h.1.1
            obtain⟨c,h⟩:=AU h
            try simp only[liE,seval]at c
            replace h:=AQ c h
            simp(disch:=omega) only[vm,seval,h.1]
            refine⟨BL [19] (.take 0 (.take 2 (.take 3 (.take 4 (.alt 1 [4,3,2] (.alt 5 [0] (.take 6 (.alt 7 [4,3,2,0] (.take 8 (.alt 9 [] (.done) (.stop))) (.stop))) (.stop)) (.alt 5 [0] (.take 6 (.alt 1 [6,4,3,2] (.alt 7 [4,3,2,0] (.take 8 (.alt 9 [] (.done) (.stop))) (.stop)) (.stop))) (.stop))))))) Ar (by kernel_rfl) ?_⟩
            all_goals
             simp(disch:=omega) only[vm,seval,h.1]
             repeat' refine Nn ?_ ?_
             all_goals
              refine⟨ih_ref14_parser_value cy14 tD (i0:=i0) (by simp(disch:=omega) only[vm,seval,h.1]) fun n15 hn15=>?_⟩
              exact tJ (hk11 ((bn1_items++[y14.1]),y14.2) ())
        exact tJ (hk6 (bn2,bn1_items,bi0) ())
  · intro a0 a1 r h args n m i0 ha hi0 Q hQ
    rw[EB]at h
    subst ha
    refine ACall.front hi0 fun hin=>J9 (fun n' k=>⟨_,rfl,(hQ n' k).go⟩) Tryz.func95 rfl Tryz.ntmps95 Tryz.results95 (.q (.r []) (.q (.r []) (.q (.r []) (.q (.q (.r []) (.c (.q (.r []) .z) .z)) .z)))) fun R hR=>?_
    replace h:=And.intro trivial h
    obtain⟨y1,h⟩:=AA h
    simp(disch:=omega) only[vm,seval,h.1]
    refine⟨BI h.1.1 tD (i0:=i0) (by simp(disch:=omega) only[vm,seval,h.1]) fun n2 hn2=>?_⟩
    obtain⟨y3,h⟩:=AA h
    simp(disch:=omega) only[vm,seval,h.1]
    refine⟨Dj h.1.1 tD fun n4 hn4=>?_⟩
    rcases AC h with h|h
    exact tR
    simp(disch:=omega) only[vm,seval,h.1]
    refine⟨AP (γ:=Unit) h [7,8,9,10,17,18,19,20,21,22,23,24,25,26,27,28,29,30,31,32,33,34,35,36,37,38,39,40,41,42,43,44,45,46,47,48,49,50,51,52,53,54,55,56,57,58,59,60,61,62,63,64,65,66,67,68,69,70,71,72,73,74,75,76,77,78,79,80,81,82,83,84,85,86,87,88,89,90,91,92,93,94,95,96] [] (fun j5 g=>[]) (fun j5 g=>(n2,[.int .i64 j5.1.kind,.str j5.1.text,.int .i64 j5.1.at_])::((n+1),[.int .i64 7,.str [],.slice 1 (List.map AVal.str j5.2.1) true,.slice 4 (List.map AJ j5.2.2.1) true])::(n,[.int .i64 0,.str [],.slice 1 (List.map AVal.str []) true,.slice 4 (List.map AJ []) true])::(i0,[.str j5.2.2.2.s,.int .i64 j5.2.2.2.at_,.int .i64 j5.2.2.2.nodes,.int .i64 j5.2.2.2.fail,.int .i64 j5.2.2.2.where_])::Bd m i0) .z ?_ ?_⟩<;>clear h
    rintro j5 _ n8 hnn8 _ _ h
    refine AB (.q (.r []) .z) ?_
    exact tR
    intro k6 Jk6 hk6 h
    simp(disch:=omega) only[vm,seval,h.1]
    refine⟨E8 (σ:=ApiToken×(List (List UInt8))×(List ApiValue)×Ref14Parser) (γ:=Unit) (fun k s=>Cf N a1 (BG N D) k6 k s.1 s.2.1 s.2.2.1 s.2.2.2) (fun s g=>[]) (fun s g=>(n2,[.int .i64 s.1.kind,.str s.1.text,.int .i64 s.1.at_])::((n+1),[.int .i64 7,.str [],.slice 1 (List.map AVal.str s.2.1) true,.slice 4 (List.map AJ s.2.2.1) true])::(n,[.int .i64 0,.str [],.slice 1 (List.map AVal.str []) true,.slice 4 (List.map AJ []) true])::(i0,[.str s.2.2.2.s,.int .i64 s.2.2.2.at_,.int .i64 s.2.2.2.nodes,.int .i64 s.2.2.2.fail,.int .i64 s.2.2.2.where_])::Bd m i0) [7,8,9,10,17,18,19,20,21,22,23,24,25,26,27,28,29,30,31,32,33,34,35,36,37,38,39,40,41,42,43,44,45,46,47,48,49,50,51,52,53,54,55,56,57,58,59,60,61,62,63,64,65,66,67,68,69,70,71,72,73,74,75,76,77,78,79,80,81,82,83,84,85,86,87,88,89,90,91,92,93,94,95,96] [] (y1.1,[],[],y1.2) () h (fun _=>rfl) tD tD ?_⟩
    clear h
    rintro k9 ⟨bn2,bn1_keys,bn1_items,bi0⟩ _ nL0_1 hnL0_1 _ h Jk9 hk9
    change _∧Cf N a1 (BG N D) k6 (k9+1) bn2 bn1_keys bn1_items bi0=_ at h
    rw[Cf]at h
    refine AB (.q (.q (.r []) (.c .z .z)) .z) ?_
    rcases AC h with h|h
    simp(disch:=omega) only[vm,seval,h.1]
    refine⟨AP (γ:=Unit) h [22,23,24,25,26,27,28] [] (fun j10 g=>[]) (fun j10 g=>(n2,[.int .i64 bn2.kind,.str bn2.text,.int .i64 bn2.at_])::((n+1),[.int .i64 7,.str [],.slice 1 (List.map AVal.str bn1_keys) true,.slice 4 (List.map AJ bn1_items) true])::(n,[.int .i64 0,.str [],.slice 1 (List.map AVal.str []) true,.slice 4 (List.map AJ []) true])::(i0,[.str j10.s,.int .i64 j10.at_,.int .i64 j10.nodes,.int .i64 j10.fail,.int .i64 j10.where_])::Bd m i0) (.q (.r []) (.c (.r []) .z)) ?_ ?_⟩<;>clear h
    rintro j10 _ n13 hnn13 _ _ h
    refine AB .z ?_
    simp(disch:=omega) only[vm,seval,h.1]
    refine⟨AP (γ:=Unit) h [7,8,29,30,31,32,33,34,35,36,37,38,39,40] [] (fun j16 g=>[]) (fun j16 g=>(n2,[.int .i64 bn2.kind,.str bn2.text,.int .i64 bn2.at_])::((n+1),[.int .i64 7,.str [],.slice 1 (List.map AVal.str bn1_keys) true,.slice 4 (List.map AJ bn1_items) true])::(n,[.int .i64 0,.str [],.slice 1 (List.map AVal.str []) true,.slice 4 (List.map AJ []) true])::(i0,[.str j16.s,.int .i64 j16.at_,.int .i64 j16.nodes,.int .i64 j16.fail,.int .i64 j16.where_])::Bd m i0) (.q (.r []) (.q (.r []) (.c (.r []) .z))) ?_ ?_⟩<;>clear h
    rintro j16 _ n19 hnn19 _ _ h
    refine AB (.q (.r []) .z) ?_
    simp(disch:=omega) only[vm,seval,h.1]
    refine⟨AP (γ:=Unit) h [43,44,45,46,47,48,49,50,51,52,53,54,55,56,57,58] [] (fun j24 g=>[]) (fun j24 g=>(n2,[.int .i64 j24.1.kind,.str j24.1.text,.int .i64 j24.1.at_])::((n+1),[.int .i64 7,.str [],.slice 1 (List.map AVal.str bn1_keys) true,.slice 4 (List.map AJ bn1_items) true])::(n,[.int .i64 0,.str [],.slice 1 (List.map AVal.str []) true,.slice 4 (List.map AJ []) true])::(i0,[.str j24.2.s,.int .i64 j24.2.at_,.int .i64 j24.2.nodes,.int .i64 j24.2.fail,.int .i64 j24.2.where_])::Bd m i0) (.q (.r []) .z) ?_ ?_⟩<;>clear h
    rintro j24 _ n27 hnn27 _ _ h
    refine AB (.q (.r []) (.q .z (.q (.r []) (.q (.q (.r []) (.c (.q (.r []) .z) .z)) .z)))) ?_
    obtain⟨y38,h⟩:=AA h
    simp(disch:=omega) only[vm,seval,h.1]
    refine⟨BI h.1.1 tD (i0:=i0) (by simp(disch:=omega) only[vm,seval,h.1]) fun n39 hn39=>?_⟩
    obtain⟨y40,h⟩:=AA h
    simp(disch:=omega) only[vm,seval,h.1]
    refine⟨ih_ref14_parser_value h.1.1 tD (i0:=i0) (by simp(disch:=omega) only[vm,seval,h.1]) fun n41 hn41=>?_⟩
    obtain⟨c,h⟩:=AU h
    try simp only[liE,seval]at c
    replace h:=AQ c h
    obtain⟨c,h⟩:=AU h
    try simp only[liE,seval]at c
    replace h:=AQ c h
    simp(disch:=omega) only[vm,seval,h.1]
    refine⟨BL [65,70] (.take 0 (.take 2 (.take 3 (.take 5 (.take 7 (.take 8 (.alt 1 [8,7,5,3,2] (.alt 4 [8,7,5,2,0] (.alt 6 [8,7,3,2,0] (.take 10 (.alt 9 [10,7,5,3,2,0] (.alt 11 [8,7] (.take 12 (.alt 13 [] (.done) (.stop))) (.stop)) (.stop))) (.stop)) (.alt 6 [8,7,3,2,0] (.alt 4 [8,7,5,2,0] (.take 10 (.alt 9 [10,7,5,3,2,0] (.alt 11 [8,7] (.take 12 (.alt 13 [] (.done) (.stop))) (.stop)) (.stop))) (.stop)) (.stop))) (.alt 6 [8,7,3,2,0] (.alt 1 [8,7,5,3,2] (.alt 4 [8,7,5,2,0] (.take 10 (.alt 9 [10,7,5,3,2,0] (.alt 11 [8,7] (.take 12 (.alt 13 [] (.done) (.stop))) (.stop)) (.stop))) (.stop)) (.stop)) (.stop))))))))) Ar (by kernel_rfl) ?_⟩
    obtain⟨y42,h⟩:=AA h
    simp(disch:=omega) only[vm,seval,h.1]
    refine⟨BI h.1.1 tD (i0:=i0) (by simp(disch:=omega) only[vm,seval,h.1]) fun n43 hn43=>?_⟩
    obtain⟨y44,h⟩:=AA h
    simp(disch:=omega) only[vm,seval,h.1]
    refine⟨Dj h.1.1 tD fun n45 hn45=>?_⟩
    rcases AC h with h|h
    exact tR
    simp(disch:=omega) only[vm,seval,h.1]
    refine⟨AP (γ:=Unit) h [81,82,83,84,85,86,87,88,89,90,91,92,93,94] [] (fun j46 g=>[]) (fun j46 g=>(n41,[.int .i64 y40.1.kind,.str y40.1.text,.slice 1 (List.map AVal.str y40.1.keys) false,.slice 4 (List.map AJ y40.1.items) false])::(n2,[.int .i64 y42.1.kind,.str y42.1.text,.int .i64 y42.1.at_])::((n+1),[.int .i64 7,.str [],.slice 1 (List.map AVal.str (bn1_keys++[bn2.text])) true,.slice 4 (List.map AJ (bn1_items++[y40.1])) true])::(n,[.int .i64 0,.str [],.slice 1 (List.map AVal.str []) true,.slice 4 (List.map AJ []) true])::(i0,[.str j46.s,.int .i64 j46.at_,.int .i64 j46.nodes,.int .i64 j46.fail,.int .i64 j46.where_])::Bd m i0) .z ?_ ?_⟩<;>clear h
    rintro j46 _ n49 hnn49 _ _ h
    refine AB (.r []) ?_
    obtain⟨y58,h⟩:=AA h
    simp(disch:=omega) only[vm,seval,h.1]
    refine⟨BI h.1.1 tD (i0:=i0) (by simp(disch:=omega) only[vm,seval,h.1]) fun n59 hn59=>?_⟩
    exact tJ (hk9 (y58.1,(bn1_keys++[bn2.text]),(bn1_items++[y40.1]),y58.2) ())
    intro k47 Jk47 hk47 h
    simp(disch:=omega) only[vm,seval,h.1]
    refine⟨AP (γ:=Unit) h [81,82,83,84,85,86,87,88,89] [90] (fun j50 g=>[.bool j50]) (fun j50 g=>(n41,[.int .i64 y40.1.kind,.str y40.1.text,.slice 1 (List.map AVal.str y40.1.keys) false,.slice 4 (List.map AJ y40.1.items) false])::(n2,[.int .i64 y42.1.kind,.str y42.1.text,.int .i64 y42.1.at_])::((n+1),[.int .i64 7,.str [],.slice 1 (List.map AVal.str (bn1_keys++[bn2.text])) true,.slice 4 (List.map AJ (bn1_items++[y40.1])) true])::(n,[.int .i64 0,.str [],.slice 1 (List.map AVal.str []) true,.slice 4 (List.map AJ []) true])::(i0,[.str y42.2.s,.int .i64 y42.2.at_,.int .i64 y42.2.nodes,.int .i64 y42.2.fail,.int .i64 y42.2.where_])::Bd m i0) (.r []) ?_ ?_⟩<;>clear h
    rintro j50 _ n53 hnn53 _ _ h
    refine AB (.c (.r []) .z) ?_
    rcases AC h with h|h
    obtain⟨y56,h⟩:=AA h
    simp(disch:=omega) only[vm,seval,h.1]
    refine⟨A8 h.1.1 tD (i0:=i0) (by simp(disch:=omega) only[vm,seval,h.1]) fun n57 hn57=>?_⟩
    exact tJ (hk47 y56 ())
    exact tJ (hk47 y42.2 ())
    intro k51 Jk51 hk51 h
    rcases AC h with h|h
    obtain⟨y54,h⟩:=AA h
    simp(disch:=omega) only[vm,seval,h.1]
    refine⟨Dj h.1.1 tD fun n55 hn55=>?_⟩
    exact tJ (hk51 (!y54) ())
    exact tJ (hk51 false ())
    intro k25 Jk25 hk25 h
    obtain⟨y28,h⟩:=AA h
    simp(disch:=omega) only[vm,seval,h.1]
    refine⟨BI h.1.1 tD (i0:=i0) (by simp(disch:=omega) only[vm,seval,h.1]) fun n29 hn29=>?_⟩
    simp(disch:=omega) only[vm,seval,h.1]
    refine⟨AP (γ:=Unit) h [45,46,47,48,49,50,51,52,53] [54] (fun j30 g=>[.bool j30]) (fun j30 g=>(n2,[.int .i64 y28.1.kind,.str y28.1.text,.int .i64 y28.1.at_])::((n+1),[.int .i64 7,.str [],.slice 1 (List.map AVal.str bn1_keys) true,.slice 4 (List.map AJ bn1_items) true])::(n,[.int .i64 0,.str [],.slice 1 (List.map AVal.str []) true,.slice 4 (List.map AJ []) true])::(i0,[.str y28.2.s,.int .i64 y28.2.at_,.int .i64 y28.2.nodes,.int .i64 y28.2.fail,.int .i64 y28.2.where_])::Bd m i0) (.r []) ?_ ?_⟩<;>clear h
    rintro j30 _ n33 hnn33 _ _ h
    refine AB (.c (.r []) .z) ?_
    rcases AC h with h|h
    obtain⟨y36,h⟩:=AA h
    simp(disch:=omega) only[vm,seval,h.1]
    refine⟨A8 h.1.1 tD (i0:=i0) (by simp(disch:=omega) only[vm,seval,h.1]) fun n37 hn37=>?_⟩
    exact tJ (hk25 (y28.1,y36) ())
    exact tJ (hk25 (y28.1,y28.2) ())
    intro k31 Jk31 hk31 h
    rcases AC h with h|h
    obtain⟨y34,h⟩:=AA h
    simp(disch:=omega) only[vm,seval,h.1]
    refine⟨Dj h.1.1 tD fun n35 hn35=>?_⟩
    exact tJ (hk31 (!y34) ())
    exact tJ (hk31 false ())
    intro k17 Jk17 hk17 h
    obtain⟨y20,h⟩:=AA h
    simp(disch:=omega) only[vm,seval,h.1]
    refine⟨Vt h.1.1 tD fun n21 hn21=>?_⟩
    rcases AC h with h|h
    obtain⟨y22,h⟩:=AA h
    simp(disch:=omega) only[vm,seval,h.1]
    refine⟨A8 h.1.1 tD (i0:=i0) (by simp(disch:=omega) only[vm,seval,h.1]) fun n23 hn23=>?_⟩
    exact tJ (hk17 y22 ())
    exact tJ (hk17 j10 ())
    intro k11 Jk11 hk11 h
    rcases AC h with h|h
    obtain⟨y14,h⟩:=AA h
    simp(disch:=omega) only[vm,seval,h.1]
    refine⟨A8 h.1.1 tD (i0:=i0) (by simp(disch:=omega) only[vm,seval,h.1]) fun n15 hn15=>?_⟩
    exact tJ (hk11 y14 ())
    exact tJ (hk11 bi0 ())
    exact tJ (hk6 (bn2,bn1_keys,bn1_items,bi0) ())
  · intro a0 a1 a2 r h args n m i0 ha hi0 Q hQ
    rw[BG]at h
    subst ha
    refine ACall.front hi0 fun hin=>J9 (fun n' k=>⟨_,rfl,(hQ n' k).go⟩) Tryz.func44 rfl Tryz.ntmps44 Tryz.results44 (.q (.r []) .z) fun R hR=>?_
    replace h:=And.intro trivial h
    simp(disch:=omega) only[vm,seval,h.1]
    refine⟨AP (γ:=Unit) h [11,12,13,14,15,16,17,18,19,20,21,22,23,24,25,26,27,28,29,30,31] [7] (fun j1 g=>[.bool j1]) (fun j1 g=>((n+1),[.int .i64 0,.str [],.slice 1 (List.map AVal.str []) true,.slice 4 (List.map AJ []) true])::(n,[.int .i64 a1.kind,.str a1.text,.int .i64 a1.at_])::(i0,[.str a0.s,.int .i64 a0.at_,.int .i64 a0.nodes,.int .i64 a0.fail,.int .i64 a0.where_])::Bd m i0) (.r []) ?_ ?_⟩<;>clear h
    rintro j1 _ n4 hnn4 _ _ h
    refine AB (.q (.q (.r []) (.c (.q (.r []) .z) .z)) (.q (.q (.r []) (.c (.q (.r []) (.q (.r []) .z)) .z)) (.q .z (.q (.r []) .z)))) ?_
    rcases AC h with h|h
    exact tR
    rcases AC h with h|h
    simp(disch:=omega) only[vm,seval,h.1]
    refine⟨AP (γ:=Unit) h [45,46,47,48,49,50] [51] (fun j9 g=>[.bool j9]) (fun j9 g=>((n+1),[.int .i64 0,.str [],.slice 1 (List.map AVal.str []) true,.slice 4 (List.map AJ []) true])::(n,[.int .i64 a1.kind,.str a1.text,.int .i64 a1.at_])::(i0,[.str a0.s,.int .i64 a0.at_,.int .i64 a0.nodes,.int .i64 a0.fail,.int .i64 a0.where_])::Bd m i0) (.r []) ?_ ?_⟩<;>clear h
    rintro j9 _ n12 hnn12 _ _ h
    refine AB (.c (.q (.r []) (.q (.r []) .z)) .z) ?_
    rcases AC h with h|h
    obtain⟨y13,h⟩:=AA h
    simp(disch:=omega) only[vm,seval,h.1]
    refine⟨A8 h.1.1 tD (i0:=i0) (by simp(disch:=omega) only[vm,seval,h.1]) fun n14 hn14=>?_⟩
    exact tR
    simp(disch:=omega) only[vm,seval,h.1]
    refine⟨AP (γ:=Unit) h [9,10,60,61,62,63,64,65,66,67,68,69,70,71,72,73,74,75,76,77] [] (fun j15 g=>[]) (fun j15 g=>(n12,[.int .i64 j15.1,.str j15.2.1,.slice 1 (List.map AVal.str []) true,.slice 4 (List.map AJ []) true])::((n+1),[.int .i64 0,.str [],.slice 1 (List.map AVal.str []) true,.slice 4 (List.map AJ []) true])::(n,[.int .i64 a1.kind,.str a1.text,.int .i64 a1.at_])::(i0,[.str j15.2.2.s,.int .i64 j15.2.2.at_,.int .i64 j15.2.2.nodes,.int .i64 j15.2.2.fail,.int .i64 j15.2.2.where_])::Bd m i0) (.q (.r []) (.c (.q (.r []) .z) .z)) ?_ ?_⟩<;>clear h
    rintro j15 _ n18 hnn18 _ _ h
    refine AB .z ?_
    simp(disch:=omega) only[vm,seval,h.1]
    refine⟨AP (γ:=Unit) h [78,79,80,81,82,83,84,85,86,87,88,89,90,91,92,93] [] (fun j27 g=>[]) (fun j27 g=>(n12,[.int .i64 j15.1,.str j15.2.1,.slice 1 (List.map AVal.str []) true,.slice 4 (List.map AJ []) true])::((n+1),[.int .i64 0,.str [],.slice 1 (List.map AVal.str []) true,.slice 4 (List.map AJ []) true])::(n,[.int .i64 a1.kind,.str a1.text,.int .i64 a1.at_])::(i0,[.str j27.1,.int .i64 j27.2.1,.int .i64 j27.2.2.1,.int .i64 j27.2.2.2.1,.int .i64 j27.2.2.2.2])::Bd m i0) (.q (.r []) (.q (.r []) (.c (.r []) .z))) ?_ ?_⟩<;>clear h
    rintro j27 _ n30 hnn30 _ _ h
    refine AB (.q (.q (.r []) (.c (.q (.r []) .z) (.q (.r []) (.c (.q (.r []) .z) (.q (.r []) (.c (.q (.r []) .z) .z)))))) (.q (.r []) .z)) ?_
    rcases AC h with h|h
    obtain⟨y33,h⟩:=AA h
    simp(disch:=omega) only[vm,seval,h.1]
    refine⟨TS h.1.1 tD fun n34 hn34=>?_⟩
    exact tR
    obtain⟨y35,h⟩:=AA h
    simp(disch:=omega) only[vm,seval,h.1]
    refine⟨Dj h.1.1 tD fun n36 hn36=>?_⟩
    rcases AC h with h|h
    obtain⟨y37,h⟩:=AA h
    simp(disch:=omega) only[vm,seval,h.1]
    refine⟨ih_ref14_parser_array h.1.1 tD (i0:=i0) (by simp(disch:=omega) only[vm,seval,h.1]) fun n38 hn38=>?_⟩
    exact tR
    obtain⟨y39,h⟩:=AA h
    simp(disch:=omega) only[vm,seval,h.1]
    refine⟨Dj h.1.1 tD fun n40 hn40=>?_⟩
    rcases AC h with h|h
    obtain⟨y41,h⟩:=AA h
    simp(disch:=omega) only[vm,seval,h.1]
    refine⟨ih_ref14_parser_object h.1.1 tD (i0:=i0) (by simp(disch:=omega) only[vm,seval,h.1]) fun n42 hn42=>?_⟩
    exact tR
    exact tR
    intro k28 Jk28 hk28 h
    rcases AC h with h|h
    obtain⟨y31,h⟩:=AA h
    simp(disch:=omega) only[vm,seval,h.1]
    refine⟨A8 h.1.1 tD (i0:=i0) (by simp(disch:=omega) only[vm,seval,h.1]) fun n32 hn32=>?_⟩
    exact tJ (hk28 (y31.s,y31.at_,y31.nodes,y31.fail,y31.where_) ())
    exact tJ (hk28 (j15.2.2.s,j15.2.2.at_,(wr .i64 (j15.2.2.nodes+1)),j15.2.2.fail,j15.2.2.where_) ())
    intro k16 Jk16 hk16 h
    rcases AC h with h|h
    obtain⟨y19,h⟩:=AA h
    simp(disch:=omega) only[vm,seval,h.1]
    refine⟨OY h.1.1 tD fun n20 hn20=>?_⟩
    simp(disch:=omega) only[vm,seval,h.1]
    refine⟨AP (γ:=Unit) h [69,70,71,72,73,74,75] [] (fun j21 g=>[]) (fun j21 g=>(n12,[.int .i64 5,.str a1.text,.slice 1 (List.map AVal.str []) true,.slice 4 (List.map AJ []) true])::((n+1),[.int .i64 0,.str [],.slice 1 (List.map AVal.str []) true,.slice 4 (List.map AJ []) true])::(n,[.int .i64 a1.kind,.str a1.text,.int .i64 a1.at_])::(i0,[.str j21.s,.int .i64 j21.at_,.int .i64 j21.nodes,.int .i64 j21.fail,.int .i64 j21.where_])::Bd m i0) (.q (.r []) (.c (.r []) .z)) ?_ ?_⟩<;>clear h
    rintro j21 _ n24 hnn24 _ _ h
    refine AB (.r []) ?_
    exact tJ (hk16 (4,y19.1,j21) ())
    intro k22 Jk22 hk22 h
    rcases AC h with h|h
    obtain⟨y25,h⟩:=AA h
    simp(disch:=omega) only[vm,seval,h.1]
    refine⟨A8 h.1.1 tD (i0:=i0) (by simp(disch:=omega) only[vm,seval,h.1]) fun n26 hn26=>?_⟩
    exact tJ (hk22 y25 ())
    exact tJ (hk22 a0 ())
    exact tJ (hk16 (5,a1.text,a0) ())
    intro k10 Jk10 hk10 h
    rcases AC h with h|h
    exact tJ (hk10 (a2==64) ())
    exact tJ (hk10 false ())
    obtain⟨y43,h⟩:=AA h
    simp(disch:=omega) only[vm,seval,h.1]
    refine⟨A8 h.1.1 tD (i0:=i0) (by simp(disch:=omega) only[vm,seval,h.1]) fun n44 hn44=>?_⟩
    exact tR
    intro k2 Jk2 hk2 h
    rcases AC h with h|h
    exact tJ (hk2 true ())
    rcases AC h with h|h
    exact tJ (hk2 true ())
    rcases AC h with h|h
    exact tJ (hk2 true ())
    obtain⟨y5,h⟩:=AA h
    simp(disch:=omega) only[vm,seval,h.1]
    refine⟨Dj h.1.1 tD fun n6 hn6=>?_⟩
    rcases AC h with h|h
    exact tJ (hk2 true ())
    obtain⟨y7,h⟩:=AA h
    simp(disch:=omega) only[vm,seval,h.1]
    refine⟨Dj h.1.1 tD fun n8 hn8=>?_⟩
    exact tJ (hk2 y7 ())
theorem KQ {a0 a1 a2 r}{i0:Nat} (h:BG N N a0 a1 a2=some r) (ha:args=[.ptr i0 0,Fx a1,.int .i64 a2]) (hi0:BD m i0=some ([.str a0.s,.int .i64 a0.at_,.int .i64 a0.nodes,.int .i64 a0.fail,.int .i64 a0.where_])) (hQ: ∀n',n≤n'→Gl (Q (AJ r.1) ⟨BQ m i0 ([.str r.2.s,.int .i64 r.2.at_,.int .i64 r.2.nodes,.int .i64 r.2.fail,.int .i64 r.2.where_]),n'⟩)):ACall vE 44 args ⟨m,n⟩ Q:=
 ((JH N N).2.2 h ha hi0 hQ)
theorem Oz {a0 a1 r} (h:KC N a0 a1=some r) (ha:args=[KU a0,.str a1]) (hQ: ∀n',n≤n'→Gl (Q (.tuple [FE r.1,.int .i64 r.2]) ⟨m,n'⟩)):ACall vE 156 args ⟨m,n⟩ Q:=by
 rw[KC]at h
 subst ha
 refine ent hQ Tryz.func156 rfl Tryz.ntmps156 Tryz.results156 (.q (.r []) (.q (.q (.r []) (.c (.q (.r []) .z) .z)) (.q (.r []) .z))) fun R hR=>?_
 replace h:=And.intro trivial h
 obtain⟨y1,h⟩:=AA h
 simp(disch:=omega) only[vm,seval,h.1]
 refine⟨Ci h.1.1 tD fun n2 hn2=>?_⟩
 rcases AC h with h|h
 obtain⟨y3,h⟩:=AA h
 simp(disch:=omega) only[vm,seval,h.1]
 refine⟨M4 h.1.1 tD fun n4 hn4=>?_⟩
 exact tR
 simp(disch:=omega) only[vm,seval,h.1]
 refine⟨AP (γ:=Unit) h [14,15,16,17,18,19,20,21] [13] (fun j5 g=>[.bool j5]) (fun j5 g=>((n+1),[.str [],.str [],.str [],.str [],.str [],.bool false,.bool false])::(n,[.str a0.method,.str a0.iD])::m) (.r []) ?_ ?_⟩<;>clear h
 rintro j5 _ n8 hnn8 _ _ h
 refine AB (.c (.q (.r []) .z) .z) ?_
 rcases AC h with h|h
 obtain⟨y12,h⟩:=AA h
 simp(disch:=omega) only[vm,seval,h.1]
 refine⟨Fa h.1.1 tD fun n13 hn13=>?_⟩
 obtain⟨c,h⟩:=AU h
 try simp only[liE,seval]at c
 replace h:=AQ c h
 obtain⟨y14,h⟩:=AA h
 simp(disch:=omega) only[vm,seval,h.1]
 refine⟨M4 h.1.1 tD fun n15 hn15=>?_⟩
 exact tR
 exact tR
 intro k6 Jk6 hk6 h
 rcases AC h with h|h
 exact tJ (hk6 true ())
 obtain⟨x9,h⟩:=AA h
 obtain⟨y10,h⟩:=AA h
 simp(disch:=omega) only[vm,seval,h.1]
 refine⟨BR h.1.1 tD fun n11 hn11=>?_⟩
 exact tJ (hk6 (decide (y10≥0)) ())
theorem Hr {a0 r} (h:F8 N a0=some r) (ha:args=[.str a0]) (hQ: ∀n',n≤n'→Gl (Q (.tuple [Fj r.1,.int .i64 r.2]) ⟨m,n'⟩)):ACall vE 52 args ⟨m,n⟩ Q:=by
 rw[F8]at h
 subst ha
 refine ent hQ Tryz.func52 rfl Tryz.ntmps52 Tryz.results52 (.q (.r []) (.q (.q (.r []) (.c (.q (.r []) .z) .z)) (.q (.r []) (.q (.q (.r []) (.c (.q (.r []) .z) .z)) (.q (.r []) (.q (.q (.r []) (.c (.q (.r []) .z) .z)) (.q (.r []) (.q (.q (.r []) (.q (.r []) (.c (.q (.r []) .z) .z))) (.q (.q (.r []) (.q (.r []) (.c (.q (.r []) .z) .z))) (.q (.q (.r []) (.q (.r []) (.c (.q (.r []) .z) .z))) .z)))))))))) fun R hR=>?_
 replace h:=And.intro trivial h
 rcases AC h with h|h
 exact tR
 obtain⟨y1,h⟩:=AA h
 simp(disch:=omega) only[vm,seval,h.1]
 refine⟨KN h.1.1 tD fun n2 hn2=>?_⟩
 rcases AC h with h|h
 exact tR
 simp(disch:=omega) only[vm,seval,h.1]
 refine⟨AP (γ:=Unit) h [23,24,25,26,27,28,29,30,31] [22] (fun j3 g=>[.bool j3]) (fun j3 g=>(n2,[.str y1.1.scheme,.str y1.1.authority,.str y1.1.path,.str y1.1.query,.str y1.1.fragment,.bool y1.1.hasScheme,.bool y1.1.hasAuthority,.bool y1.1.hasQuery,.bool y1.1.hasFrag])::(n,[.str [],.int .i64 0,.str [],.str [],.str [],.bool false,.bool false])::m) (.r []) ?_ ?_⟩<;>clear h
 rintro j3 _ n6 hnn6 _ _ h
 refine AB (.c (.q (.r []) .z) (.q (.r []) (.c (.q (.r []) .z) (.q (.r []) (.c (.q (.r []) .z) .z))))) ?_
 rcases AC h with h|h
 exact tR
 rcases AC h with h|h
 obtain⟨y9,h⟩:=AA h
 simp(disch:=omega) only[vm,seval,h.1]
 refine⟨Hq h.1.1 tD fun n10 hn10=>?_⟩
 rcases AC h with h|h
 exact tR
 obtain⟨y11,h⟩:=AA h
 simp(disch:=omega) only[vm,seval,h.1]
 refine⟨VY h.1.1 tD fun n12 hn12=>?_⟩
 rcases AC h with h|h
 exact tR
 obtain⟨y13,h⟩:=AA h
 simp(disch:=omega) only[vm,seval,h.1]
 refine⟨Bt h.1.1 tD fun n14 hn14=>?_⟩
 rcases AC h with h|h
 exact tR
 obtain⟨y15,h⟩:=AA h
 simp(disch:=omega) only[vm,seval,h.1]
 refine⟨Bt h.1.1 tD fun n16 hn16=>?_⟩
 rcases AC h with h|h
 exact tR
 obtain⟨y17,h⟩:=AA h
 simp(disch:=omega) only[vm,seval,h.1]
 refine⟨Bt h.1.1 tD fun n18 hn18=>?_⟩
 rcases AC h with h|h
 exact tR
 simp(disch:=omega) only[vm,seval,h.1]
 refine⟨AP (γ:=Unit) h [95,96,97,98,99,100,101,102] [] (fun j19 g=>[]) (fun j19 g=>((n12+1),[.str y11.1.host,.int .i64 y11.1.port,.str j19,.str y15.1,.str y17.1,.bool y1.1.hasQuery,.bool y1.1.hasFrag])::(n12,[.str y11.1.host,.int .i64 y11.1.port])::(n2,[.str y1.1.scheme,.str y1.1.authority,.str y1.1.path,.str y1.1.query,.str y1.1.fragment,.bool y1.1.hasScheme,.bool y1.1.hasAuthority,.bool y1.1.hasQuery,.bool y1.1.hasFrag])::(n,[.str [],.int .i64 0,.str [],.str [],.str [],.bool false,.bool false])::m) (.q (.r []) (.q (.r []) (.c (.r []) .z))) ?_ ?_⟩<;>clear h
 rintro j19 _ n22 hnn22 _ _ h
 refine AB (.q (.q (.r []) (.c (.q (.r []) .z) .z)) (.q (.r []) .z)) ?_
 obtain⟨y25,h⟩:=AA h
 simp(disch:=omega) only[vm,seval,h.1]
 refine⟨FY h.1.1 tD fun n26 hn26=>?_⟩
 rcases AC h with h|h
 exact tR
 exact tR
 intro k20 Jk20 hk20 h
 obtain⟨y23,h⟩:=AA h
 simp(disch:=omega) only[vm,seval,h.1]
 refine⟨FD h.1.1 tD fun n24 hn24=>?_⟩
 rcases AC h with h|h
 exact tJ (hk20 ([47]:List UInt8) ())
 exact tJ (hk20 y23 ())
 exact tR
 intro k4 Jk4 hk4 h
 rcases AC h with h|h
 obtain⟨y7,h⟩:=AA h
 simp(disch:=omega) only[vm,seval,h.1]
 refine⟨Kn h.1.1 tD fun n8 hn8=>?_⟩
 exact tJ (hk4 (!y7) ())
 exact tJ (hk4 true ())
end Go.Proofs.YtjgdhjpafjpjgaaGreatDoor
