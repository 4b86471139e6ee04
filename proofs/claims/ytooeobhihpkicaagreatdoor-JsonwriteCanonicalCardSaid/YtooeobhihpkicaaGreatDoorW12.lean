import Derived.Test.YtooeobhihpkicaaGreatDoorVmFacts
import Derived.Test.YtooeobhihpkicaaGreatDoorDefs
import Derived.Test.YtooeobhihpkicaaGreatDoorVM2
import Derived.Test.YtooeobhihpkicaaGreatDoorW0
import Derived.Test.YtooeobhihpkicaaGreatDoorW5
import Derived.Test.YtooeobhihpkicaaGreatDoorW7
import Derived.Test.YtooeobhihpkicaaGreatDoorW11
set_option linter.unusedVariables false
set_option linter.unusedSimpArgs false
set_option maxHeartbeats 4000000
set_option maxRecDepth 100000
set_option linter.defProp false
namespace Go.Proofs.YtooeobhihpkicaaGreatDoor
open Go.VM
variable{N n:Nat}{m:MS}{Q:PQ}{args:List AVal}
theorem LD (N:Nat): ∀D:Nat,(∀ {a0:Ref14Parser}{a1:Int}{r:ApiValue×Ref14Parser} (h:Ch N D a0 a1=some r){args:List AVal}{n:Nat}{m:MS}{i0:Nat} (ha:args=[.ptr i0 0,.int .i64 a1]) (hi0:Bi m i0=some ([.str a0.s,.int .i64 a0.at_,.int .i64 a0.nodes,.int .i64 a0.fail,.int .i64 a0.where_])){Q:PQ} (hQ: ∀n',n≤n'→Gl (Q (AJ r.1) ⟨Br m i0 ([.str r.2.s,.int .i64 r.2.at_,.int .i64 r.2.nodes,.int .i64 r.2.fail,.int .i64 r.2.where_]),n'⟩)),ACall vE 37 args ⟨m,n⟩ Q)∧(∀ {a0:Ref14Parser}{a1:Int}{r:ApiValue×Ref14Parser} (h:Ca N D a0 a1=some r){args:List AVal}{n:Nat}{m:MS}{i0:Nat} (ha:args=[.ptr i0 0,.int .i64 a1]) (hi0:Bi m i0=some ([.str a0.s,.int .i64 a0.at_,.int .i64 a0.nodes,.int .i64 a0.fail,.int .i64 a0.where_])){Q:PQ} (hQ: ∀n',n≤n'→Gl (Q (AJ r.1) ⟨Br m i0 ([.str r.2.s,.int .i64 r.2.at_,.int .i64 r.2.nodes,.int .i64 r.2.fail,.int .i64 r.2.where_]),n'⟩)),ACall vE 38 args ⟨m,n⟩ Q)∧(∀ {a0:Ref14Parser}{a1:ApiToken}{a2:Int}{r:ApiValue×Ref14Parser} (h:Ao N D a0 a1 a2=some r){args:List AVal}{n:Nat}{m:MS}{i0:Nat} (ha:args=[.ptr i0 0,IC a1,.int .i64 a2]) (hi0:Bi m i0=some ([.str a0.s,.int .i64 a0.at_,.int .i64 a0.nodes,.int .i64 a0.fail,.int .i64 a0.where_])){Q:PQ} (hQ: ∀n',n≤n'→Gl (Q (AJ r.1) ⟨Br m i0 ([.str r.2.s,.int .i64 r.2.at_,.int .i64 r.2.nodes,.int .i64 r.2.fail,.int .i64 r.2.where_]),n'⟩)),ACall vE 19 args ⟨m,n⟩ Q):=by
 intro D
 induction D with
 |zero=>
  refine⟨?_,?_,?_⟩
  · intro a0 a1 r h
    simp only[Ch,reduceCtorEq]at h
  · intro a0 a1 r h
    simp only[Ca,reduceCtorEq]at h
  · intro a0 a1 a2 r h
    simp only[Ao,reduceCtorEq]at h
 |succ D ih=>
  obtain⟨ih_ref14_parser_array,ih_ref14_parser_object,ih_ref14_parser_value⟩:=ih
  refine⟨?_,?_,?_⟩
  · intro a0 a1 r h args n m i0 ha hi0 Q hQ
    rw[Ch]at h
    subst ha
    refine ACall.front hi0 fun hin=>Mr (fun n' k=>⟨_,rfl,(hQ n' k).go⟩) Tryz.func37 rfl Tryz.ntmps37 Tryz.results37 (.q (.r []) (.q (.r []) (.q (.r []) (.q (.q (.r []) (.c (.q (.r []) .z) .z)) .z)))) fun R hR=>?_
    replace h:=And.intro trivial h
    replace h:=AA h
    obtain⟨y1,h⟩:=h
    simp(disch:=omega) only[vm,seval,h.1]
    refine⟨Cb h.1.1 (by first|(simp(disch:=omega) only[vm,seval,h.1];done)|rfl) (i0:=i0) (by simp(disch:=omega) only[vm,seval,h.1]) fun n2 hn2=>?_⟩
    replace h:=AA h
    obtain⟨y3,h⟩:=h
    simp(disch:=omega) only[vm,seval,h.1]
    refine⟨Ex h.1.1 (by first|(simp(disch:=omega) only[vm,seval,h.1];done)|rfl) fun n4 hn4=>?_⟩
    replace h:=AC h
    rcases h with h|h
    obtain⟨H,h⟩:=h
    cases h
    simp(disch:=omega) only[vm,seval,H]
    refine⟨(hR _ _ _ _ _ _ (by simp(disch:=omega) only[vm,seval,H];rfl) (.cons _ (.cons _ (.cons _ slr))) ?_ (by omega) ?_).1⟩<;>first|(simp(disch:=omega) only[vm,seval,H];done)|rfl
    · simp (disch:=omega) only[vm,seval,h.1]
      refine⟨Ad (γ:=Unit) h [13,14,15,16,17,18,19,20,21,22,23,24,25,26,27,28,29,30,31,32,33,34,35,36,37,38,39,40,41,42,43,44,45,46,47] [] (fun j5 g=>[]) (fun j5 g=>(n2,[.int .i64 j5.1.kind,.str j5.1.text,.int .i64 j5.1.at_])::((n+1),[.int .i64 6,.str [],.slice 1 (List.map AVal.str []) true,.slice 4 (List.map AJ j5.2.1) true])::(n,[.int .i64 0,.str [],.slice 1 (List.map AVal.str []) true,.slice 4 (List.map AJ []) true])::(i0,[.str j5.2.2.s,.int .i64 j5.2.2.at_,.int .i64 j5.2.2.nodes,.int .i64 j5.2.2.fail,.int .i64 j5.2.2.where_])::BP m i0) .z ?_ ?_⟩<;>clear h
      rintro j5 _ n8 hnn8 _ _ h
      refine AB (.q (.r []) .z) ?_
      obtain⟨H,h⟩:=h
      cases h
      simp(disch:=omega) only[vm,seval,H]
      refine⟨(hR _ _ _ _ _ _ (by simp(disch:=omega) only[vm,seval,H];rfl) (.cons _ (.cons _ (.cons _ slr))) ?_ (by omega) ?_).1⟩<;>first|(simp(disch:=omega) only[vm,seval,H];done)|rfl
      · intro k6 Jk6 hk6 h
        simp(disch:=omega) only[vm,seval,h.1]
        refine⟨D7 (σ:=ApiToken×(List ApiValue)×Ref14Parser) (γ:=Unit) (fun k s=>Bg N a1 (Ao N D) k6 k s.1 s.2.1 s.2.2) (fun s g=>[]) (fun s g=>(n2,[.int .i64 s.1.kind,.str s.1.text,.int .i64 s.1.at_])::((n+1),[.int .i64 6,.str [],.slice 1 (List.map AVal.str []) true,.slice 4 (List.map AJ s.2.1) true])::(n,[.int .i64 0,.str [],.slice 1 (List.map AVal.str []) true,.slice 4 (List.map AJ []) true])::(i0,[.str s.2.2.s,.int .i64 s.2.2.at_,.int .i64 s.2.2.nodes,.int .i64 s.2.2.fail,.int .i64 s.2.2.where_])::BP m i0) [13,14,15,16,17,18,19,20,21,22,23,24,25,26,27,28,29,30,31,32,33,34,35,36,37,38,39,40,41,42,43,44,45,46,47] [] (y1.1,[],y1.2) () h (fun _=>rfl) (by first|(simp(disch:=omega) only[vm,seval,h.1];done)|rfl) (by first|(simp(disch:=omega) only[vm,seval,h.1];done)|rfl) ?_⟩
        clear h
        rintro k9 ⟨bn2,bn1_items,bi0⟩ _ nL0_1 hnL0_1 _ h Jk9 hk9
        change _∧Bg N a1 (Ao N D) k6 (k9+1) bn2 bn1_items bi0=_ at h
        rw[Bg]at h
        refine AB (.q (.q (.r []) (.c .z .z)) .z) ?_
        replace h:=AC h
        rcases h with h|h
        · simp(disch:=omega) only[vm,seval,h.1]
          refine⟨Ad (γ:=Unit) h [18,19,20,21,22,23,24,25,26] [] (fun j10 g=>[]) (fun j10 g=>(n2,[.int .i64 bn2.kind,.str bn2.text,.int .i64 bn2.at_])::((n+1),[.int .i64 6,.str [],.slice 1 (List.map AVal.str []) true,.slice 4 (List.map AJ j10.1) true])::(n,[.int .i64 0,.str [],.slice 1 (List.map AVal.str []) true,.slice 4 (List.map AJ []) true])::(i0,[.str j10.2.s,.int .i64 j10.2.at_,.int .i64 j10.2.nodes,.int .i64 j10.2.fail,.int .i64 j10.2.where_])::BP m i0) .z ?_ ?_⟩<;>clear h
          rintro j10 _ n13 hnn13 _ _ h
          refine AB (.q (.r []) (.q (.q (.r []) (.c (.q (.r []) .z) .z)) .z)) ?_
          replace h:=AA h
          obtain⟨y16,h⟩:=h
          simp(disch:=omega) only[vm,seval,h.1]
          refine⟨Cb h.1.1 (by first|(simp(disch:=omega) only[vm,seval,h.1];done)|rfl) (i0:=i0) (by simp(disch:=omega) only[vm,seval,h.1]) fun n17 hn17=>?_⟩
          replace h:=AA h
          obtain⟨y18,h⟩:=h
          simp(disch:=omega) only[vm,seval,h.1]
          refine⟨Ex h.1.1 (by first|(simp(disch:=omega) only[vm,seval,h.1];done)|rfl) fun n19 hn19=>?_⟩
          replace h:=AC h
          rcases h with h|h
          obtain⟨H,h⟩:=h
          cases h
          simp(disch:=omega) only[vm,seval,H]
          refine⟨(hR _ _ _ _ _ _ (by simp(disch:=omega) only[vm,seval,H];rfl) (.cons _ (.cons _ (.cons _ slr))) ?_ (by omega) ?_).1⟩<;>first|(simp(disch:=omega) only[vm,seval,H];done)|rfl
          simp(disch:=omega) only[vm,seval,h.1]
          refine⟨Ad (γ:=Unit) h [32,33,34,35,36,37,38,39,40,41,42,43,44,45] [] (fun j20 g=>[]) (fun j20 g=>(n2,[.int .i64 y16.1.kind,.str y16.1.text,.int .i64 y16.1.at_])::((n+1),[.int .i64 6,.str [],.slice 1 (List.map AVal.str []) true,.slice 4 (List.map AJ j10.1) true])::(n,[.int .i64 0,.str [],.slice 1 (List.map AVal.str []) true,.slice 4 (List.map AJ []) true])::(i0,[.str j20.s,.int .i64 j20.at_,.int .i64 j20.nodes,.int .i64 j20.fail,.int .i64 j20.where_])::BP m i0) .z ?_ ?_⟩<;>clear h
          rintro j20 _ n23 hnn23 _ _ h
          refine AB (.r []) ?_
          replace h:=AA h
          obtain⟨y32,h⟩:=h
          simp(disch:=omega) only[vm,seval,h.1]
          refine⟨Cb h.1.1 (by first|(simp(disch:=omega) only[vm,seval,h.1];done)|rfl) (i0:=i0) (by simp(disch:=omega) only[vm,seval,h.1]) fun n33 hn33=>?_⟩
          simp(disch:=omega) only[vm,seval,h.1]
          refine⟨hk9 (y32.1,j10.1,y32.2) () _ _ _ _ h.2 slr ?_ ?_ ?_ (by omega)⟩<;>first|(simp(disch:=omega) only[vm,seval,h.1];done)|rfl
          intro k21 Jk21 hk21 h
          simp(disch:=omega) only[vm,seval,h.1]
          refine⟨Ad (γ:=Unit) h [32,33,34,35,36,37,38,39,40] [41] (fun j24 g=>[.bool j24]) (fun j24 g=>(n2,[.int .i64 y16.1.kind,.str y16.1.text,.int .i64 y16.1.at_])::((n+1),[.int .i64 6,.str [],.slice 1 (List.map AVal.str []) true,.slice 4 (List.map AJ j10.1) true])::(n,[.int .i64 0,.str [],.slice 1 (List.map AVal.str []) true,.slice 4 (List.map AJ []) true])::(i0,[.str y16.2.s,.int .i64 y16.2.at_,.int .i64 y16.2.nodes,.int .i64 y16.2.fail,.int .i64 y16.2.where_])::BP m i0) (.r []) ?_ ?_⟩<;>clear h
          rintro j24 _ n27 hnn27 _ _ h
          refine AB (.c (.r []) .z) ?_
          replace h:=AC h
          rcases h with h|h
          replace h:=AA h
          obtain⟨y30,h⟩:=h
          simp(disch:=omega) only[vm,seval,h.1]
          refine⟨CF h.1.1 (by first|(simp(disch:=omega) only[vm,seval,h.1];done)|rfl) (i0:=i0) (by simp(disch:=omega) only[vm,seval,h.1]) fun n31 hn31=>?_⟩
          simp(disch:=omega) only[vm,seval,h.1]
          refine⟨hk21 y30 () _ _ _ _ h.2 slr ?_ ?_ ?_ (by omega)⟩<;>first|(simp(disch:=omega) only[vm,seval,h.1];done)|rfl
          simp(disch:=omega) only[vm,seval,h.1]
          refine⟨hk21 y16.2 () _ _ _ _ h.2 slr ?_ ?_ ?_ (by omega)⟩<;>first|(simp(disch:=omega) only[vm,seval,h.1];done)|rfl
          intro k25 Jk25 hk25 h
          replace h:=AC h
          rcases h with h|h
          replace h:=AA h
          obtain⟨y28,h⟩:=h
          simp(disch:=omega) only[vm,seval,h.1]
          refine⟨Ex h.1.1 (by first|(simp(disch:=omega) only[vm,seval,h.1];done)|rfl) fun n29 hn29=>?_⟩
          simp(disch:=omega) only[vm,seval,h.1]
          refine⟨hk25 (!y28) () _ _ _ _ h.2 slr ?_ ?_ ?_ (by omega)⟩<;>first|(simp(disch:=omega) only[vm,seval,h.1];done)|rfl
          simp(disch:=omega) only[vm,seval,h.1]
          refine⟨hk25 false () _ _ _ _ h.2 slr ?_ ?_ ?_ (by omega)⟩<;>first|(simp(disch:=omega) only[vm,seval,h.1];done)|rfl
          · intro k11 Jk11 hk11 h
            replace h:=AA h
            obtain⟨y14,h⟩:=h
            have cy14:=h.1.1
            replace h:=Ag h
            obtain⟨c,h⟩:=h
            try simp only[liE,seval]at c
            replace h:=Aa c h
            simp(disch:=omega) only[vm,seval,h.1]
            refine⟨BB [19] (.take 0 (.take 2 (.take 3 (.take 4 (.alt 1 [4,3,2] (.alt 5 [0] (.take 6 (.alt 7 [4,3,2,0] (.take 8 (.alt 9 [] (.done) (.stop))) (.stop))) (.stop)) (.alt 5 [0] (.take 6 (.alt 1 [6,4,3,2] (.alt 7 [4,3,2,0] (.take 8 (.alt 9 [] (.done) (.stop))) (.stop)) (.stop))) (.stop))))))) Av (by kernel_rfl) ?_⟩
            all_goals
             simp(disch:=omega) only[vm,seval,h.1]
             repeat' refine AFK ?_ ?_
             all_goals
              refine⟨ih_ref14_parser_value cy14 (by first|(simp(disch:=omega) only[vm,seval,h.1];done)|rfl) (i0:=i0) (by simp(disch:=omega) only[vm,seval,h.1]) fun n15 hn15=>?_⟩
              simp(disch:=omega) only[vm,seval,h.1]
              refine⟨hk11 ((bn1_items++[y14.1]),y14.2) () _ _ _ _ h.2 slr ?_ ?_ ?_ (by omega)⟩<;>first|(simp(disch:=omega) only[vm,seval,h.1];done)|rfl
        simp(disch:=omega) only[vm,seval,h.1]
        refine⟨hk6 (bn2,bn1_items,bi0) () _ _ _ _ h.2 slr ?_ ?_ ?_ (by omega)⟩<;>first|(simp(disch:=omega) only[vm,seval,h.1];done)|rfl
  · intro a0 a1 r h args n m i0 ha hi0 Q hQ
    rw[Ca]at h
    subst ha
    refine ACall.front hi0 fun hin=>Mr (fun n' k=>⟨_,rfl,(hQ n' k).go⟩) Tryz.func38 rfl Tryz.ntmps38 Tryz.results38 (.q (.r []) (.q (.r []) (.q (.r []) (.q (.q (.r []) (.c (.q (.r []) .z) .z)) .z)))) fun R hR=>?_
    replace h:=And.intro trivial h
    replace h:=AA h
    obtain⟨y1,h⟩:=h
    simp(disch:=omega) only[vm,seval,h.1]
    refine⟨Cb h.1.1 (by first|(simp(disch:=omega) only[vm,seval,h.1];done)|rfl) (i0:=i0) (by simp(disch:=omega) only[vm,seval,h.1]) fun n2 hn2=>?_⟩
    replace h:=AA h
    obtain⟨y3,h⟩:=h
    simp(disch:=omega) only[vm,seval,h.1]
    refine⟨Ex h.1.1 (by first|(simp(disch:=omega) only[vm,seval,h.1];done)|rfl) fun n4 hn4=>?_⟩
    replace h:=AC h
    rcases h with h|h
    obtain⟨H,h⟩:=h
    cases h
    simp(disch:=omega) only[vm,seval,H]
    refine⟨(hR _ _ _ _ _ _ (by simp(disch:=omega) only[vm,seval,H];rfl) (.cons _ (.cons _ (.cons _ slr))) ?_ (by omega) ?_).1⟩<;>first|(simp(disch:=omega) only[vm,seval,H];done)|rfl
    simp(disch:=omega) only[vm,seval,h.1]
    refine⟨Ad (γ:=Unit) h [7,8,9,10,17,18,19,20,21,22,23,24,25,26,27,28,29,30,31,32,33,34,35,36,37,38,39,40,41,42,43,44,45,46,47,48,49,50,51,52,53,54,55,56,57,58,59,60,61,62,63,64,65,66,67,68,69,70,71,72,73,74,75,76,77,78,79,80,81,82,83,84,85,86,87,88,89,90,91,92,93,94,95,96] [] (fun j5 g=>[]) (fun j5 g=>(n2,[.int .i64 j5.1.kind,.str j5.1.text,.int .i64 j5.1.at_])::((n+1),[.int .i64 7,.str [],.slice 1 (List.map AVal.str j5.2.1) true,.slice 4 (List.map AJ j5.2.2.1) true])::(n,[.int .i64 0,.str [],.slice 1 (List.map AVal.str []) true,.slice 4 (List.map AJ []) true])::(i0,[.str j5.2.2.2.s,.int .i64 j5.2.2.2.at_,.int .i64 j5.2.2.2.nodes,.int .i64 j5.2.2.2.fail,.int .i64 j5.2.2.2.where_])::BP m i0) .z ?_ ?_⟩<;>clear h
    rintro j5 _ n8 hnn8 _ _ h
    refine AB (.q (.r []) .z) ?_
    obtain⟨H,h⟩:=h
    cases h
    simp(disch:=omega) only[vm,seval,H]
    refine⟨(hR _ _ _ _ _ _ (by simp(disch:=omega) only[vm,seval,H];rfl) (.cons _ (.cons _ (.cons _ slr))) ?_ (by omega) ?_).1⟩<;>first|(simp(disch:=omega) only[vm,seval,H];done)|rfl
    intro k6 Jk6 hk6 h
    simp(disch:=omega) only[vm,seval,h.1]
    refine⟨D7 (σ:=ApiToken×(List (List UInt8))×(List ApiValue)×Ref14Parser) (γ:=Unit) (fun k s=>Bb N a1 (Ao N D) k6 k s.1 s.2.1 s.2.2.1 s.2.2.2) (fun s g=>[]) (fun s g=>(n2,[.int .i64 s.1.kind,.str s.1.text,.int .i64 s.1.at_])::((n+1),[.int .i64 7,.str [],.slice 1 (List.map AVal.str s.2.1) true,.slice 4 (List.map AJ s.2.2.1) true])::(n,[.int .i64 0,.str [],.slice 1 (List.map AVal.str []) true,.slice 4 (List.map AJ []) true])::(i0,[.str s.2.2.2.s,.int .i64 s.2.2.2.at_,.int .i64 s.2.2.2.nodes,.int .i64 s.2.2.2.fail,.int .i64 s.2.2.2.where_])::BP m i0) [7,8,9,10,17,18,19,20,21,22,23,24,25,26,27,28,29,30,31,32,33,34,35,36,37,38,39,40,41,42,43,44,45,46,47,48,49,50,51,52,53,54,55,56,57,58,59,60,61,62,63,64,65,66,67,68,69,70,71,72,73,74,75,76,77,78,79,80,81,82,83,84,85,86,87,88,89,90,91,92,93,94,95,96] [] (y1.1,[],[],y1.2) () h (fun _=>rfl) (by first|(simp(disch:=omega) only[vm,seval,h.1];done)|rfl) (by first|(simp(disch:=omega) only[vm,seval,h.1];done)|rfl) ?_⟩
    clear h
    rintro k9 ⟨bn2,bn1_keys,bn1_items,bi0⟩ _ nL0_1 hnL0_1 _ h Jk9 hk9
    change _∧Bb N a1 (Ao N D) k6 (k9+1) bn2 bn1_keys bn1_items bi0=_ at h
    rw[Bb]at h
    refine AB (.q (.q (.r []) (.c .z .z)) .z) ?_
    replace h:=AC h
    rcases h with h|h
    simp(disch:=omega) only[vm,seval,h.1]
    refine⟨Ad (γ:=Unit) h [22,23,24,25,26,27,28] [] (fun j10 g=>[]) (fun j10 g=>(n2,[.int .i64 bn2.kind,.str bn2.text,.int .i64 bn2.at_])::((n+1),[.int .i64 7,.str [],.slice 1 (List.map AVal.str bn1_keys) true,.slice 4 (List.map AJ bn1_items) true])::(n,[.int .i64 0,.str [],.slice 1 (List.map AVal.str []) true,.slice 4 (List.map AJ []) true])::(i0,[.str j10.s,.int .i64 j10.at_,.int .i64 j10.nodes,.int .i64 j10.fail,.int .i64 j10.where_])::BP m i0) (.q (.r []) (.c (.r []) .z)) ?_ ?_⟩<;>clear h
    rintro j10 _ n13 hnn13 _ _ h
    refine AB .z ?_
    simp(disch:=omega) only[vm,seval,h.1]
    refine⟨Ad (γ:=Unit) h [7,8,29,30,31,32,33,34,35,36,37,38,39,40] [] (fun j16 g=>[]) (fun j16 g=>(n2,[.int .i64 bn2.kind,.str bn2.text,.int .i64 bn2.at_])::((n+1),[.int .i64 7,.str [],.slice 1 (List.map AVal.str bn1_keys) true,.slice 4 (List.map AJ bn1_items) true])::(n,[.int .i64 0,.str [],.slice 1 (List.map AVal.str []) true,.slice 4 (List.map AJ []) true])::(i0,[.str j16.s,.int .i64 j16.at_,.int .i64 j16.nodes,.int .i64 j16.fail,.int .i64 j16.where_])::BP m i0) (.q (.r []) (.q (.r []) (.c (.r []) .z))) ?_ ?_⟩<;>clear h
    rintro j16 _ n19 hnn19 _ _ h
    refine AB (.q (.r []) .z) ?_
    simp(disch:=omega) only[vm,seval,h.1]
    refine⟨Ad (γ:=Unit) h [43,44,45,46,47,48,49,50,51,52,53,54,55,56,57,58] [] (fun j24 g=>[]) (fun j24 g=>(n2,[.int .i64 j24.1.kind,.str j24.1.text,.int .i64 j24.1.at_])::((n+1),[.int .i64 7,.str [],.slice 1 (List.map AVal.str bn1_keys) true,.slice 4 (List.map AJ bn1_items) true])::(n,[.int .i64 0,.str [],.slice 1 (List.map AVal.str []) true,.slice 4 (List.map AJ []) true])::(i0,[.str j24.2.s,.int .i64 j24.2.at_,.int .i64 j24.2.nodes,.int .i64 j24.2.fail,.int .i64 j24.2.where_])::BP m i0) (.q (.r []) .z) ?_ ?_⟩<;>clear h
    rintro j24 _ n27 hnn27 _ _ h
    refine AB (.q (.r []) (.q .z (.q (.r []) (.q (.q (.r []) (.c (.q (.r []) .z) .z)) .z)))) ?_
    replace h:=AA h
    obtain⟨y38,h⟩:=h
    simp(disch:=omega) only[vm,seval,h.1]
    refine⟨Cb h.1.1 (by first|(simp(disch:=omega) only[vm,seval,h.1];done)|rfl) (i0:=i0) (by simp(disch:=omega) only[vm,seval,h.1]) fun n39 hn39=>?_⟩
    replace h:=AA h
    obtain⟨y40,h⟩:=h
    simp(disch:=omega) only[vm,seval,h.1]
    refine⟨ih_ref14_parser_value h.1.1 (by first|(simp(disch:=omega) only[vm,seval,h.1];done)|rfl) (i0:=i0) (by simp(disch:=omega) only[vm,seval,h.1]) fun n41 hn41=>?_⟩
    replace h:=Ag h
    obtain⟨c,h⟩:=h
    try simp only[liE,seval]at c
    replace h:=Aa c h
    replace h:=Ag h
    obtain⟨c,h⟩:=h
    try simp only[liE,seval]at c
    replace h:=Aa c h
    simp(disch:=omega) only[vm,seval,h.1]
    refine⟨BB [65,70] (.take 0 (.take 2 (.take 3 (.take 5 (.take 7 (.take 8 (.alt 1 [8,7,5,3,2] (.alt 4 [8,7,5,2,0] (.alt 6 [8,7,3,2,0] (.take 10 (.alt 9 [10,7,5,3,2,0] (.alt 11 [8,7] (.take 12 (.alt 13 [] (.done) (.stop))) (.stop)) (.stop))) (.stop)) (.alt 6 [8,7,3,2,0] (.alt 4 [8,7,5,2,0] (.take 10 (.alt 9 [10,7,5,3,2,0] (.alt 11 [8,7] (.take 12 (.alt 13 [] (.done) (.stop))) (.stop)) (.stop))) (.stop)) (.stop))) (.alt 6 [8,7,3,2,0] (.alt 1 [8,7,5,3,2] (.alt 4 [8,7,5,2,0] (.take 10 (.alt 9 [10,7,5,3,2,0] (.alt 11 [8,7] (.take 12 (.alt 13 [] (.done) (.stop))) (.stop)) (.stop))) (.stop)) (.stop)) (.stop))))))))) Av (by kernel_rfl) ?_⟩
    replace h:=AA h
    obtain⟨y42,h⟩:=h
    simp(disch:=omega) only[vm,seval,h.1]
    refine⟨Cb h.1.1 (by first|(simp(disch:=omega) only[vm,seval,h.1];done)|rfl) (i0:=i0) (by simp(disch:=omega) only[vm,seval,h.1]) fun n43 hn43=>?_⟩
    replace h:=AA h
    obtain⟨y44,h⟩:=h
    simp(disch:=omega) only[vm,seval,h.1]
    refine⟨Ex h.1.1 (by first|(simp(disch:=omega) only[vm,seval,h.1];done)|rfl) fun n45 hn45=>?_⟩
    replace h:=AC h
    rcases h with h|h
    obtain⟨H,h⟩:=h
    cases h
    simp(disch:=omega) only[vm,seval,H]
    refine⟨(hR _ _ _ _ _ _ (by simp(disch:=omega) only[vm,seval,H];rfl) (.cons _ (.cons _ (.cons _ (.cons _ slr)))) ?_ (by omega) ?_).1⟩<;>first|(simp(disch:=omega) only[vm,seval,H];done)|rfl
    simp(disch:=omega) only[vm,seval,h.1]
    refine⟨Ad (γ:=Unit) h [81,82,83,84,85,86,87,88,89,90,91,92,93,94] [] (fun j46 g=>[]) (fun j46 g=>(n41,[.int .i64 y40.1.kind,.str y40.1.text,.slice 1 (List.map AVal.str y40.1.keys) false,.slice 4 (List.map AJ y40.1.items) false])::(n2,[.int .i64 y42.1.kind,.str y42.1.text,.int .i64 y42.1.at_])::((n+1),[.int .i64 7,.str [],.slice 1 (List.map AVal.str (bn1_keys++[bn2.text])) true,.slice 4 (List.map AJ (bn1_items++[y40.1])) true])::(n,[.int .i64 0,.str [],.slice 1 (List.map AVal.str []) true,.slice 4 (List.map AJ []) true])::(i0,[.str j46.s,.int .i64 j46.at_,.int .i64 j46.nodes,.int .i64 j46.fail,.int .i64 j46.where_])::BP m i0) .z ?_ ?_⟩<;>clear h
    rintro j46 _ n49 hnn49 _ _ h
    refine AB (.r []) ?_
    replace h:=AA h
    obtain⟨y58,h⟩:=h
    simp(disch:=omega) only[vm,seval,h.1]
    refine⟨Cb h.1.1 (by first|(simp(disch:=omega) only[vm,seval,h.1];done)|rfl) (i0:=i0) (by simp(disch:=omega) only[vm,seval,h.1]) fun n59 hn59=>?_⟩
    simp(disch:=omega) only[vm,seval,h.1]
    refine⟨hk9 (y58.1,(bn1_keys++[bn2.text]),(bn1_items++[y40.1]),y58.2) () _ _ _ _ h.2 (.cons _ slr) ?_ ?_ ?_ (by omega)⟩<;>first|(simp(disch:=omega) only[vm,seval,h.1];done)|rfl
    intro k47 Jk47 hk47 h
    simp(disch:=omega) only[vm,seval,h.1]
    refine⟨Ad (γ:=Unit) h [81,82,83,84,85,86,87,88,89] [90] (fun j50 g=>[.bool j50]) (fun j50 g=>(n41,[.int .i64 y40.1.kind,.str y40.1.text,.slice 1 (List.map AVal.str y40.1.keys) false,.slice 4 (List.map AJ y40.1.items) false])::(n2,[.int .i64 y42.1.kind,.str y42.1.text,.int .i64 y42.1.at_])::((n+1),[.int .i64 7,.str [],.slice 1 (List.map AVal.str (bn1_keys++[bn2.text])) true,.slice 4 (List.map AJ (bn1_items++[y40.1])) true])::(n,[.int .i64 0,.str [],.slice 1 (List.map AVal.str []) true,.slice 4 (List.map AJ []) true])::(i0,[.str y42.2.s,.int .i64 y42.2.at_,.int .i64 y42.2.nodes,.int .i64 y42.2.fail,.int .i64 y42.2.where_])::BP m i0) (.r []) ?_ ?_⟩<;>clear h
    rintro j50 _ n53 hnn53 _ _ h
    refine AB (.c (.r []) .z) ?_
    replace h:=AC h
    rcases h with h|h
    replace h:=AA h
    obtain⟨y56,h⟩:=h
    simp(disch:=omega) only[vm,seval,h.1]
    refine⟨CF h.1.1 (by first|(simp(disch:=omega) only[vm,seval,h.1];done)|rfl) (i0:=i0) (by simp(disch:=omega) only[vm,seval,h.1]) fun n57 hn57=>?_⟩
    simp(disch:=omega) only[vm,seval,h.1]
    refine⟨hk47 y56 () _ _ _ _ h.2 slr ?_ ?_ ?_ (by omega)⟩<;>first|(simp(disch:=omega) only[vm,seval,h.1];done)|rfl
    simp(disch:=omega) only[vm,seval,h.1]
    refine⟨hk47 y42.2 () _ _ _ _ h.2 slr ?_ ?_ ?_ (by omega)⟩<;>first|(simp(disch:=omega) only[vm,seval,h.1];done)|rfl
    intro k51 Jk51 hk51 h
    replace h:=AC h
    rcases h with h|h
    replace h:=AA h
    obtain⟨y54,h⟩:=h
    simp(disch:=omega) only[vm,seval,h.1]
    refine⟨Ex h.1.1 (by first|(simp(disch:=omega) only[vm,seval,h.1];done)|rfl) fun n55 hn55=>?_⟩
    simp(disch:=omega) only[vm,seval,h.1]
    refine⟨hk51 (!y54) () _ _ _ _ h.2 slr ?_ ?_ ?_ (by omega)⟩<;>first|(simp(disch:=omega) only[vm,seval,h.1];done)|rfl
    simp(disch:=omega) only[vm,seval,h.1]
    refine⟨hk51 false () _ _ _ _ h.2 slr ?_ ?_ ?_ (by omega)⟩<;>first|(simp(disch:=omega) only[vm,seval,h.1];done)|rfl
    intro k25 Jk25 hk25 h
    replace h:=AA h
    obtain⟨y28,h⟩:=h
    simp(disch:=omega) only[vm,seval,h.1]
    refine⟨Cb h.1.1 (by first|(simp(disch:=omega) only[vm,seval,h.1];done)|rfl) (i0:=i0) (by simp(disch:=omega) only[vm,seval,h.1]) fun n29 hn29=>?_⟩
    simp(disch:=omega) only[vm,seval,h.1]
    refine⟨Ad (γ:=Unit) h [45,46,47,48,49,50,51,52,53] [54] (fun j30 g=>[.bool j30]) (fun j30 g=>(n2,[.int .i64 y28.1.kind,.str y28.1.text,.int .i64 y28.1.at_])::((n+1),[.int .i64 7,.str [],.slice 1 (List.map AVal.str bn1_keys) true,.slice 4 (List.map AJ bn1_items) true])::(n,[.int .i64 0,.str [],.slice 1 (List.map AVal.str []) true,.slice 4 (List.map AJ []) true])::(i0,[.str y28.2.s,.int .i64 y28.2.at_,.int .i64 y28.2.nodes,.int .i64 y28.2.fail,.int .i64 y28.2.where_])::BP m i0) (.r []) ?_ ?_⟩<;>clear h
    rintro j30 _ n33 hnn33 _ _ h
    refine AB (.c (.r []) .z) ?_
    replace h:=AC h
    rcases h with h|h
    replace h:=AA h
    obtain⟨y36,h⟩:=h
    simp(disch:=omega) only[vm,seval,h.1]
    refine⟨CF h.1.1 (by first|(simp(disch:=omega) only[vm,seval,h.1];done)|rfl) (i0:=i0) (by simp(disch:=omega) only[vm,seval,h.1]) fun n37 hn37=>?_⟩
    simp(disch:=omega) only[vm,seval,h.1]
    refine⟨hk25 (y28.1,y36) () _ _ _ _ h.2 slr ?_ ?_ ?_ (by omega)⟩<;>first|(simp(disch:=omega) only[vm,seval,h.1];done)|rfl
    simp(disch:=omega) only[vm,seval,h.1]
    refine⟨hk25 (y28.1,y28.2) () _ _ _ _ h.2 slr ?_ ?_ ?_ (by omega)⟩<;>first|(simp(disch:=omega) only[vm,seval,h.1];done)|rfl
    intro k31 Jk31 hk31 h
    replace h:=AC h
    rcases h with h|h
    replace h:=AA h
    obtain⟨y34,h⟩:=h
    simp(disch:=omega) only[vm,seval,h.1]
    refine⟨Ex h.1.1 (by first|(simp(disch:=omega) only[vm,seval,h.1];done)|rfl) fun n35 hn35=>?_⟩
    simp(disch:=omega) only[vm,seval,h.1]
    refine⟨hk31 (!y34) () _ _ _ _ h.2 slr ?_ ?_ ?_ (by omega)⟩<;>first|(simp(disch:=omega) only[vm,seval,h.1];done)|rfl
    simp(disch:=omega) only[vm,seval,h.1]
    refine⟨hk31 false () _ _ _ _ h.2 slr ?_ ?_ ?_ (by omega)⟩<;>first|(simp(disch:=omega) only[vm,seval,h.1];done)|rfl
    intro k17 Jk17 hk17 h
    replace h:=AA h
    obtain⟨y20,h⟩:=h
    simp(disch:=omega) only[vm,seval,h.1]
    refine⟨MG h.1.1 (by first|(simp(disch:=omega) only[vm,seval,h.1];done)|rfl) fun n21 hn21=>?_⟩
    replace h:=AC h
    rcases h with h|h
    replace h:=AA h
    obtain⟨y22,h⟩:=h
    simp(disch:=omega) only[vm,seval,h.1]
    refine⟨CF h.1.1 (by first|(simp(disch:=omega) only[vm,seval,h.1];done)|rfl) (i0:=i0) (by simp(disch:=omega) only[vm,seval,h.1]) fun n23 hn23=>?_⟩
    simp(disch:=omega) only[vm,seval,h.1]
    refine⟨hk17 y22 () _ _ _ _ h.2 (.cons _ slr) ?_ ?_ ?_ (by omega)⟩<;>first|(simp(disch:=omega) only[vm,seval,h.1];done)|rfl
    simp(disch:=omega) only[vm,seval,h.1]
    refine⟨hk17 j10 () _ _ _ _ h.2 (.cons _ slr) ?_ ?_ ?_ (by omega)⟩<;>first|(simp(disch:=omega) only[vm,seval,h.1];done)|rfl
    intro k11 Jk11 hk11 h
    replace h:=AC h
    rcases h with h|h
    replace h:=AA h
    obtain⟨y14,h⟩:=h
    simp(disch:=omega) only[vm,seval,h.1]
    refine⟨CF h.1.1 (by first|(simp(disch:=omega) only[vm,seval,h.1];done)|rfl) (i0:=i0) (by simp(disch:=omega) only[vm,seval,h.1]) fun n15 hn15=>?_⟩
    simp(disch:=omega) only[vm,seval,h.1]
    refine⟨hk11 y14 () _ _ _ _ h.2 slr ?_ ?_ ?_ (by omega)⟩<;>first|(simp(disch:=omega) only[vm,seval,h.1];done)|rfl
    simp(disch:=omega) only[vm,seval,h.1]
    refine⟨hk11 bi0 () _ _ _ _ h.2 slr ?_ ?_ ?_ (by omega)⟩<;>first|(simp(disch:=omega) only[vm,seval,h.1];done)|rfl
    simp(disch:=omega) only[vm,seval,h.1]
    refine⟨hk6 (bn2,bn1_keys,bn1_items,bi0) () _ _ _ _ h.2 slr ?_ ?_ ?_ (by omega)⟩<;>first|(simp(disch:=omega) only[vm,seval,h.1];done)|rfl
  · intro a0 a1 a2 r h args n m i0 ha hi0 Q hQ
    rw[Ao]at h
    subst ha
    refine ACall.front hi0 fun hin=>Mr (fun n' k=>⟨_,rfl,(hQ n' k).go⟩) Tryz.func19 rfl Tryz.ntmps19 Tryz.results19 (.q (.r []) .z) fun R hR=>?_
    replace h:=And.intro trivial h
    simp(disch:=omega) only[vm,seval,h.1]
    refine⟨Ad (γ:=Unit) h [11,12,13,14,15,16,17,18,19,20,21,22,23,24,25,26,27,28,29,30,31] [7] (fun j1 g=>[.bool j1]) (fun j1 g=>((n+1),[.int .i64 0,.str [],.slice 1 (List.map AVal.str []) true,.slice 4 (List.map AJ []) true])::(n,[.int .i64 a1.kind,.str a1.text,.int .i64 a1.at_])::(i0,[.str a0.s,.int .i64 a0.at_,.int .i64 a0.nodes,.int .i64 a0.fail,.int .i64 a0.where_])::BP m i0) (.r []) ?_ ?_⟩<;>clear h
    rintro j1 _ n4 hnn4 _ _ h
    refine AB (.q (.q (.r []) (.c (.q (.r []) .z) .z)) (.q (.q (.r []) (.c (.q (.r []) (.q (.r []) .z)) .z)) (.q .z (.q (.r []) .z)))) ?_
    replace h:=AC h
    rcases h with h|h
    obtain⟨H,h⟩:=h
    cases h
    simp(disch:=omega) only[vm,seval,H]
    refine⟨(hR _ _ _ _ _ _ (by simp(disch:=omega) only[vm,seval,H];rfl) (.cons _ (.cons _ slr)) ?_ (by omega) ?_).1⟩<;>first|(simp(disch:=omega) only[vm,seval,H];done)|rfl
    replace h:=AC h
    rcases h with h|h
    simp(disch:=omega) only[vm,seval,h.1]
    refine⟨Ad (γ:=Unit) h [45,46,47,48,49,50] [51] (fun j9 g=>[.bool j9]) (fun j9 g=>((n+1),[.int .i64 0,.str [],.slice 1 (List.map AVal.str []) true,.slice 4 (List.map AJ []) true])::(n,[.int .i64 a1.kind,.str a1.text,.int .i64 a1.at_])::(i0,[.str a0.s,.int .i64 a0.at_,.int .i64 a0.nodes,.int .i64 a0.fail,.int .i64 a0.where_])::BP m i0) (.r []) ?_ ?_⟩<;>clear h
    rintro j9 _ n12 hnn12 _ _ h
    refine AB (.c (.q (.r []) (.q (.r []) .z)) .z) ?_
    replace h:=AC h
    rcases h with h|h
    replace h:=AA h
    obtain⟨y13,h⟩:=h
    simp(disch:=omega) only[vm,seval,h.1]
    refine⟨CF h.1.1 (by first|(simp(disch:=omega) only[vm,seval,h.1];done)|rfl) (i0:=i0) (by simp(disch:=omega) only[vm,seval,h.1]) fun n14 hn14=>?_⟩
    obtain⟨H,h⟩:=h
    cases h
    simp(disch:=omega) only[vm,seval,H]
    refine⟨(hR _ _ _ _ _ _ (by simp(disch:=omega) only[vm,seval,H];rfl) (.cons _ (.cons _ slr)) ?_ (by omega) ?_).1⟩<;>first|(simp(disch:=omega) only[vm,seval,H];done)|rfl
    simp(disch:=omega) only[vm,seval,h.1]
    refine⟨Ad (γ:=Unit) h [9,10,60,61,62,63,64,65,66,67,68,69,70,71,72,73,74,75,76,77] [] (fun j15 g=>[]) (fun j15 g=>(n12,[.int .i64 j15.1,.str j15.2.1,.slice 1 (List.map AVal.str []) true,.slice 4 (List.map AJ []) true])::((n+1),[.int .i64 0,.str [],.slice 1 (List.map AVal.str []) true,.slice 4 (List.map AJ []) true])::(n,[.int .i64 a1.kind,.str a1.text,.int .i64 a1.at_])::(i0,[.str j15.2.2.s,.int .i64 j15.2.2.at_,.int .i64 j15.2.2.nodes,.int .i64 j15.2.2.fail,.int .i64 j15.2.2.where_])::BP m i0) (.q (.r []) (.c (.q (.r []) .z) .z)) ?_ ?_⟩<;>clear h
    rintro j15 _ n18 hnn18 _ _ h
    refine AB .z ?_
    simp(disch:=omega) only[vm,seval,h.1]
    refine⟨Ad (γ:=Unit) h [78,79,80,81,82,83,84,85,86,87,88,89,90,91,92,93] [] (fun j27 g=>[]) (fun j27 g=>(n12,[.int .i64 j15.1,.str j15.2.1,.slice 1 (List.map AVal.str []) true,.slice 4 (List.map AJ []) true])::((n+1),[.int .i64 0,.str [],.slice 1 (List.map AVal.str []) true,.slice 4 (List.map AJ []) true])::(n,[.int .i64 a1.kind,.str a1.text,.int .i64 a1.at_])::(i0,[.str j27.1,.int .i64 j27.2.1,.int .i64 j27.2.2.1,.int .i64 j27.2.2.2.1,.int .i64 j27.2.2.2.2])::BP m i0) (.q (.r []) (.q (.r []) (.c (.r []) .z))) ?_ ?_⟩<;>clear h
    rintro j27 _ n30 hnn30 _ _ h
    refine AB (.q (.q (.r []) (.c (.q (.r []) .z) (.q (.r []) (.c (.q (.r []) .z) (.q (.r []) (.c (.q (.r []) .z) .z)))))) (.q (.r []) .z)) ?_
    replace h:=AC h
    rcases h with h|h
    replace h:=AA h
    obtain⟨y33,h⟩:=h
    simp(disch:=omega) only[vm,seval,h.1]
    refine⟨UK h.1.1 (by first|(simp(disch:=omega) only[vm,seval,h.1];done)|rfl) fun n34 hn34=>?_⟩
    obtain⟨H,h⟩:=h
    cases h
    simp(disch:=omega) only[vm,seval,H]
    refine⟨(hR _ _ _ _ _ _ (by simp(disch:=omega) only[vm,seval,H];rfl) (.cons _ (.cons _ (.cons _ slr))) ?_ (by omega) ?_).1⟩<;>first|(simp(disch:=omega) only[vm,seval,H];done)|rfl
    replace h:=AA h
    obtain⟨y35,h⟩:=h
    simp(disch:=omega) only[vm,seval,h.1]
    refine⟨Ex h.1.1 (by first|(simp(disch:=omega) only[vm,seval,h.1];done)|rfl) fun n36 hn36=>?_⟩
    replace h:=AC h
    rcases h with h|h
    replace h:=AA h
    obtain⟨y37,h⟩:=h
    simp(disch:=omega) only[vm,seval,h.1]
    refine⟨ih_ref14_parser_array h.1.1 (by first|(simp(disch:=omega) only[vm,seval,h.1];done)|rfl) (i0:=i0) (by simp(disch:=omega) only[vm,seval,h.1]) fun n38 hn38=>?_⟩
    obtain⟨H,h⟩:=h
    cases h
    simp(disch:=omega) only[vm,seval,H]
    refine⟨(hR _ _ _ _ _ _ (by simp(disch:=omega) only[vm,seval,H];rfl) (.cons _ (.cons _ (.cons _ slr))) ?_ (by omega) ?_).1⟩<;>first|(simp(disch:=omega) only[vm,seval,H];done)|rfl
    replace h:=AA h
    obtain⟨y39,h⟩:=h
    simp(disch:=omega) only[vm,seval,h.1]
    refine⟨Ex h.1.1 (by first|(simp(disch:=omega) only[vm,seval,h.1];done)|rfl) fun n40 hn40=>?_⟩
    replace h:=AC h
    rcases h with h|h
    replace h:=AA h
    obtain⟨y41,h⟩:=h
    simp(disch:=omega) only[vm,seval,h.1]
    refine⟨ih_ref14_parser_object h.1.1 (by first|(simp(disch:=omega) only[vm,seval,h.1];done)|rfl) (i0:=i0) (by simp(disch:=omega) only[vm,seval,h.1]) fun n42 hn42=>?_⟩
    obtain⟨H,h⟩:=h
    cases h
    simp(disch:=omega) only[vm,seval,H]
    refine⟨(hR _ _ _ _ _ _ (by simp(disch:=omega) only[vm,seval,H];rfl) (.cons _ (.cons _ (.cons _ slr))) ?_ (by omega) ?_).1⟩<;>first|(simp(disch:=omega) only[vm,seval,H];done)|rfl
    obtain⟨H,h⟩:=h
    cases h
    simp(disch:=omega) only[vm,seval,H]
    refine⟨(hR _ _ _ _ _ _ (by simp(disch:=omega) only[vm,seval,H];rfl) (.cons _ (.cons _ (.cons _ slr))) ?_ (by omega) ?_).1⟩<;>first|(simp(disch:=omega) only[vm,seval,H];done)|rfl
    intro k28 Jk28 hk28 h
    replace h:=AC h
    rcases h with h|h
    replace h:=AA h
    obtain⟨y31,h⟩:=h
    simp(disch:=omega) only[vm,seval,h.1]
    refine⟨CF h.1.1 (by first|(simp(disch:=omega) only[vm,seval,h.1];done)|rfl) (i0:=i0) (by simp(disch:=omega) only[vm,seval,h.1]) fun n32 hn32=>?_⟩
    simp(disch:=omega) only[vm,seval,h.1]
    refine⟨hk28 (y31.s,y31.at_,y31.nodes,y31.fail,y31.where_) () _ _ _ _ h.2 slr ?_ ?_ ?_ (by omega)⟩<;>first|(simp(disch:=omega) only[vm,seval,h.1];done)|rfl
    simp(disch:=omega) only[vm,seval,h.1]
    refine⟨hk28 (j15.2.2.s,j15.2.2.at_,(wr .i64 (j15.2.2.nodes+1)),j15.2.2.fail,j15.2.2.where_) () _ _ _ _ h.2 slr ?_ ?_ ?_ (by omega)⟩<;>first|(simp(disch:=omega) only[vm,seval,h.1];done)|rfl
    intro k16 Jk16 hk16 h
    replace h:=AC h
    rcases h with h|h
    replace h:=AA h
    obtain⟨y19,h⟩:=h
    simp(disch:=omega) only[vm,seval,h.1]
    refine⟨Qf h.1.1 (by first|(simp(disch:=omega) only[vm,seval,h.1];done)|rfl) fun n20 hn20=>?_⟩
    simp(disch:=omega) only[vm,seval,h.1]
    refine⟨Ad (γ:=Unit) h [69,70,71,72,73,74,75] [] (fun j21 g=>[]) (fun j21 g=>(n12,[.int .i64 5,.str a1.text,.slice 1 (List.map AVal.str []) true,.slice 4 (List.map AJ []) true])::((n+1),[.int .i64 0,.str [],.slice 1 (List.map AVal.str []) true,.slice 4 (List.map AJ []) true])::(n,[.int .i64 a1.kind,.str a1.text,.int .i64 a1.at_])::(i0,[.str j21.s,.int .i64 j21.at_,.int .i64 j21.nodes,.int .i64 j21.fail,.int .i64 j21.where_])::BP m i0) (.q (.r []) (.c (.r []) .z)) ?_ ?_⟩<;>clear h
    rintro j21 _ n24 hnn24 _ _ h
    refine AB (.r []) ?_
    simp(disch:=omega) only[vm,seval,h.1]
    refine⟨hk16 (4,y19.1,j21) () _ _ _ _ h.2 slr ?_ ?_ ?_ (by omega)⟩<;>first|(simp(disch:=omega) only[vm,seval,h.1];done)|rfl
    intro k22 Jk22 hk22 h
    replace h:=AC h
    rcases h with h|h
    replace h:=AA h
    obtain⟨y25,h⟩:=h
    simp(disch:=omega) only[vm,seval,h.1]
    refine⟨CF h.1.1 (by first|(simp(disch:=omega) only[vm,seval,h.1];done)|rfl) (i0:=i0) (by simp(disch:=omega) only[vm,seval,h.1]) fun n26 hn26=>?_⟩
    simp(disch:=omega) only[vm,seval,h.1]
    refine⟨hk22 y25 () _ _ _ _ h.2 slr ?_ ?_ ?_ (by omega)⟩<;>first|(simp(disch:=omega) only[vm,seval,h.1];done)|rfl
    simp(disch:=omega) only[vm,seval,h.1]
    refine⟨hk22 a0 () _ _ _ _ h.2 slr ?_ ?_ ?_ (by omega)⟩<;>first|(simp(disch:=omega) only[vm,seval,h.1];done)|rfl
    simp(disch:=omega) only[vm,seval,h.1]
    refine⟨hk16 (5,a1.text,a0) () _ _ _ _ h.2 slr ?_ ?_ ?_ (by omega)⟩<;>first|(simp(disch:=omega) only[vm,seval,h.1];done)|rfl
    intro k10 Jk10 hk10 h
    replace h:=AC h
    rcases h with h|h
    simp(disch:=omega) only[vm,seval,h.1]
    refine⟨hk10 (a2==64) () _ _ _ _ h.2 slr ?_ ?_ ?_ (by omega)⟩<;>first|(simp(disch:=omega) only[vm,seval,h.1];done)|rfl
    simp(disch:=omega) only[vm,seval,h.1]
    refine⟨hk10 false () _ _ _ _ h.2 slr ?_ ?_ ?_ (by omega)⟩<;>first|(simp(disch:=omega) only[vm,seval,h.1];done)|rfl
    replace h:=AA h
    obtain⟨y43,h⟩:=h
    simp(disch:=omega) only[vm,seval,h.1]
    refine⟨CF h.1.1 (by first|(simp(disch:=omega) only[vm,seval,h.1];done)|rfl) (i0:=i0) (by simp(disch:=omega) only[vm,seval,h.1]) fun n44 hn44=>?_⟩
    obtain⟨H,h⟩:=h
    cases h
    simp(disch:=omega) only[vm,seval,H]
    refine⟨(hR _ _ _ _ _ _ (by simp(disch:=omega) only[vm,seval,H];rfl) (.cons _ (.cons _ slr)) ?_ (by omega) ?_).1⟩<;>first|(simp(disch:=omega) only[vm,seval,H];done)|rfl
    intro k2 Jk2 hk2 h
    replace h:=AC h
    rcases h with h|h
    simp(disch:=omega) only[vm,seval,h.1]
    refine⟨hk2 true () _ _ _ _ h.2 slr ?_ ?_ ?_ (by omega)⟩<;>first|(simp(disch:=omega) only[vm,seval,h.1];done)|rfl
    replace h:=AC h
    rcases h with h|h
    simp(disch:=omega) only[vm,seval,h.1]
    refine⟨hk2 true () _ _ _ _ h.2 slr ?_ ?_ ?_ (by omega)⟩<;>first|(simp(disch:=omega) only[vm,seval,h.1];done)|rfl
    replace h:=AC h
    rcases h with h|h
    simp(disch:=omega) only[vm,seval,h.1]
    refine⟨hk2 true () _ _ _ _ h.2 slr ?_ ?_ ?_ (by omega)⟩<;>first|(simp(disch:=omega) only[vm,seval,h.1];done)|rfl
    replace h:=AA h
    obtain⟨y5,h⟩:=h
    simp(disch:=omega) only[vm,seval,h.1]
    refine⟨Ex h.1.1 (by first|(simp(disch:=omega) only[vm,seval,h.1];done)|rfl) fun n6 hn6=>?_⟩
    replace h:=AC h
    rcases h with h|h
    simp(disch:=omega) only[vm,seval,h.1]
    refine⟨hk2 true () _ _ _ _ h.2 slr ?_ ?_ ?_ (by omega)⟩<;>first|(simp(disch:=omega) only[vm,seval,h.1];done)|rfl
    replace h:=AA h
    obtain⟨y7,h⟩:=h
    simp(disch:=omega) only[vm,seval,h.1]
    refine⟨Ex h.1.1 (by first|(simp(disch:=omega) only[vm,seval,h.1];done)|rfl) fun n8 hn8=>?_⟩
    simp(disch:=omega) only[vm,seval,h.1]
    refine⟨hk2 y7 () _ _ _ _ h.2 slr ?_ ?_ ?_ (by omega)⟩<;>first|(simp(disch:=omega) only[vm,seval,h.1];done)|rfl
theorem Lf {a0 a1 a2 r}{i0:Nat} (h:Ao N N a0 a1 a2=some r) (ha:args=[.ptr i0 0,IC a1,.int .i64 a2]) (hi0:Bi m i0=some ([.str a0.s,.int .i64 a0.at_,.int .i64 a0.nodes,.int .i64 a0.fail,.int .i64 a0.where_])) (hQ: ∀n',n≤n'→Gl (Q (AJ r.1) ⟨Br m i0 ([.str r.2.s,.int .i64 r.2.at_,.int .i64 r.2.nodes,.int .i64 r.2.fail,.int .i64 r.2.where_]),n'⟩)):ACall vE 19 args ⟨m,n⟩ Q:=
 ((LD N N).2.2 h ha hi0 hQ)
theorem JU (N:Nat): ∀D:Nat,(∀ {a0:JsonwriteCounter}{a1:ApiValue}{a2:Int}{r:Bool×JsonwriteCounter} (h:BO N D a0 a1 a2=some r){args:List AVal}{n:Nat}{m:MS}{i0:Nat} (ha:args=[.ptr i0 0,AJ a1,.int .i64 a2]) (hi0:Bi m i0=some ([.int .i64 a0.nodes])){Q:PQ} (hQ: ∀n',n≤n'→Gl (Q (.bool r.1) ⟨Br m i0 ([.int .i64 r.2.nodes]),n'⟩)),ACall vE 30 args ⟨m,n⟩ Q):=by
 intro D
 induction D with
 |zero=>
  intro a0 a1 a2 r h
  simp only[BO,reduceCtorEq]at h
 |succ D ih_jsonwrite_counter_valid=>
  intro a0 a1 a2 r h args n m i0 ha hi0 Q hQ
  rw[BO]at h
  subst ha
  refine ACall.front hi0 fun hin=>Mr (fun n' k=>⟨_,rfl,(hQ n' k).go⟩) Tryz.func30 rfl Tryz.ntmps30 Tryz.results30 (.q (.r []) (.q (.q (.r []) .z) (.q (.q (.r []) (.c (.q (.r []) .z) (.q (.r []) (.c (.q (.r []) .z) .z)))) .z))) fun R hR=>?_
  replace h:=And.intro trivial h
  simp(disch:=omega) only[vm,seval,h.1]
  refine⟨Ad (γ:=Unit) h [16,17,18,19,20,21,22,23,24,25,26,27,28,29,30,31,32,33,34] [35] (fun j1 g=>[.bool j1]) (fun j1 g=>(n,[.int .i64 a1.kind,.str a1.text,.slice 1 (List.map AVal.str a1.keys) false,.slice 4 (List.map AJ a1.items) false])::(i0,[.int .i64 (wr .i64 (a0.nodes+1))])::BP m i0) (.r []) ?_ ?_⟩<;>clear h
  rintro j1 _ n4 hnn4 _ _ h
  refine AB (.c (.q (.r []) .z) .z) ?_
  replace h:=AC h
  rcases h with h|h
  obtain⟨H,h⟩:=h
  cases h
  simp(disch:=omega) only[vm,seval,H]
  refine⟨(hR _ _ _ _ _ _ (by simp(disch:=omega) only[vm,seval,H];rfl) (.cons _ slr) ?_ (by omega) ?_).1⟩<;>first|(simp(disch:=omega) only[vm,seval,H];done)|rfl
  replace h:=AC h
  rcases h with h|h
  obtain⟨H,h⟩:=h
  cases h
  simp(disch:=omega) only[vm,seval,H]
  refine⟨(hR _ _ _ _ _ _ (by simp(disch:=omega) only[vm,seval,H];rfl) (.cons _ slr) ?_ (by omega) ?_).1⟩<;>first|(simp(disch:=omega) only[vm,seval,H];done)|rfl
  replace h:=AC h
  rcases h with h|h
  obtain⟨H,h⟩:=h
  cases h
  simp(disch:=omega) only[vm,seval,H]
  refine⟨(hR _ _ _ _ _ _ (by simp(disch:=omega) only[vm,seval,H];rfl) (.cons _ slr) ?_ (by omega) ?_).1⟩<;>first|(simp(disch:=omega) only[vm,seval,H];done)|rfl
  simp(disch:=omega) only[vm,seval,h.1]
  refine⟨Ad (γ:=Unit) h [52,53,54,55,56,57,58,59,60] [51] (fun j7 g=>[.bool j7]) (fun j7 g=>(n,[.int .i64 a1.kind,.str a1.text,.slice 1 (List.map AVal.str a1.keys) false,.slice 4 (List.map AJ a1.items) false])::(i0,[.int .i64 (wr .i64 (a0.nodes+1))])::BP m i0) (.r []) ?_ ?_⟩<;>clear h
  rintro j7 _ n10 hnn10 _ _ h
  refine AB (.c (.q (.r []) .z) .z) ?_
  replace h:=AC h
  rcases h with h|h
  obtain⟨H,h⟩:=h
  cases h
  simp(disch:=omega) only[vm,seval,H]
  refine⟨(hR _ _ _ _ _ _ (by simp(disch:=omega) only[vm,seval,H];rfl) (.cons _ slr) ?_ (by omega) ?_).1⟩<;>first|(simp(disch:=omega) only[vm,seval,H];done)|rfl
  simp(disch:=omega) only[vm,seval,h.1]
  refine⟨Ad (γ:=Unit) h [62,63,64,65,66,67,68,69,70,71,72,73,74,75,76,77,78,79] [61] (fun j11 g=>[.bool j11]) (fun j11 g=>(n,[.int .i64 a1.kind,.str a1.text,.slice 1 (List.map AVal.str a1.keys) false,.slice 4 (List.map AJ a1.items) false])::(i0,[.int .i64 (wr .i64 (a0.nodes+1))])::BP m i0) (.r []) ?_ ?_⟩<;>clear h
  rintro j11 _ n14 hnn14 _ _ h
  refine AB (.c (.q (.r []) .z) .z) ?_
  replace h:=AC h
  rcases h with h|h
  obtain⟨H,h⟩:=h
  cases h
  simp(disch:=omega) only[vm,seval,H]
  refine⟨(hR _ _ _ _ _ _ (by simp(disch:=omega) only[vm,seval,H];rfl) (.cons _ slr) ?_ (by omega) ?_).1⟩<;>first|(simp(disch:=omega) only[vm,seval,H];done)|rfl
  simp(disch:=omega) only[vm,seval,h.1]
  refine⟨Ad (γ:=Unit) h [6,8,80,81,82,83,84,85,86,87,88,89,90,91,92,93] [] (fun j17 g=>[]) (fun j17 g=>(n,[.int .i64 a1.kind,.str a1.text,.slice 1 (List.map AVal.str a1.keys) false,.slice 4 (List.map AJ a1.items) false])::(i0,[.int .i64 j17])::BP m i0) (.q (.r []) .z) ?_ ?_⟩<;>clear h
  rintro j17 _ n20 hnn20 _ _ h
  refine AB (.q (.r []) .z) ?_
  obtain⟨H,h⟩:=h
  cases h
  simp(disch:=omega) only[vm,seval,H]
  refine⟨(hR _ _ _ _ _ _ (by simp(disch:=omega) only[vm,seval,H];rfl) (.cons _ slr) ?_ (by omega) ?_).1⟩<;>first|(simp(disch:=omega) only[vm,seval,H];done)|rfl
  intro k18 Jk18 hk18 h
  replace h:=Ag h
  obtain⟨hfk21,h⟩:=h
  simp(disch:=omega) only[vm,seval,h.1]
  refine⟨Hl (σ:=Int) (γ:=Unit) a1.items hfk21 (fun xs i s=>BR N a2 (BO N D) k18 xs s) (fun i s g=>[.int .i64 i]) (fun i s g=>(n,[.int .i64 a1.kind,.str a1.text,.slice 1 (List.map AVal.str a1.keys) false,.slice 4 (List.map AJ a1.items) false])::(i0,[.int .i64 s])::BP m i0) [6,8,84,85,86,87,88,89,90,91,92,93] [83] (wr .i64 (a0.nodes+1)) () h (by first|(simp(disch:=omega) only[vm,seval,h.1];done)|rfl) (by first|(simp(disch:=omega) only[vm,seval,h.1];done)|rfl) ?_ ?_⟩<;>clear h
  rintro s83 bi0_nodes _ nL0_1 hnL0_1 _ h
  change _∧BR N a2 (BO N D) k18 [] bi0_nodes=_ at h
  rw[BR]at h
  refine AB (.q (.r []) (.q (.c .z .z) (.q (.q (.r []) (.q (.r []) (.c (.q (.r []) .z) .z))) (.r [])))) ?_
  simp(disch:=omega) only[vm,seval,h.1]
  refine⟨hk18 bi0_nodes () _ _ _ _ h.2 slr ?_ ?_ ?_ (by omega)⟩<;>first|(simp(disch:=omega) only[vm,seval,h.1];done)|rfl
  rintro xk21 xsk21 s83 bi0_nodes _ nL0_1 hnL0_1 _ h Jk21 hk21
  change _∧BR N a2 (BO N D) k18 (xk21::xsk21) bi0_nodes=_ at h
  rw[BR]at h
  refine AB (.q (.r []) (.q (.c .z .z) (.q (.q (.r []) (.q (.r []) (.c (.q (.r []) .z) .z))) (.r [])))) ?_
  replace h:=AA h
  obtain⟨y22,h⟩:=h
  simp(disch:=omega) only[vm,seval,h.1]
  refine⟨ih_jsonwrite_counter_valid h.1.1 (by first|(simp(disch:=omega) only[vm,seval,h.1];done)|rfl) (i0:=i0) (by simp(disch:=omega) only[vm,seval,h.1]) fun n23 hn23=>?_⟩
  replace h:=AC h
  rcases h with h|h
  simp(disch:=omega) only[vm,seval,h.1]
  refine⟨hk21 y22.2.nodes () _ _ _ _ h.2 (.cons _ slr) ?_ ?_ ?_ (by omega)⟩<;>first|(simp(disch:=omega) only[vm,seval,h.1];done)|rfl
  obtain⟨H,h⟩:=h
  cases h
  simp(disch:=omega) only[vm,seval,H]
  refine⟨(hR _ _ _ _ _ _ (by simp(disch:=omega) only[vm,seval,H];rfl) (.cons _ (.cons _ slr)) ?_ (by omega) ?_).1⟩<;>first|(simp(disch:=omega) only[vm,seval,H];done)|rfl
  intro k12 Jk12 hk12 h
  replace h:=AC h
  rcases h with h|h
  replace h:=AC h
  rcases h with h|h
  simp(disch:=omega) only[vm,seval,h.1]
  refine⟨hk12 true () _ _ _ _ h.2 slr ?_ ?_ ?_ (by omega)⟩<;>first|(simp(disch:=omega) only[vm,seval,h.1];done)|rfl
  replace h:=AA h
  obtain⟨y15,h⟩:=h
  simp(disch:=omega) only[vm,seval,h.1]
  refine⟨Ob h.1.1 (by first|(simp(disch:=omega) only[vm,seval,h.1];done)|rfl) fun n16 hn16=>?_⟩
  simp(disch:=omega) only[vm,seval,h.1]
  refine⟨hk12 (!y15) () _ _ _ _ h.2 slr ?_ ?_ ?_ (by omega)⟩<;>first|(simp(disch:=omega) only[vm,seval,h.1];done)|rfl
  simp(disch:=omega) only[vm,seval,h.1]
  refine⟨hk12 false () _ _ _ _ h.2 slr ?_ ?_ ?_ (by omega)⟩<;>first|(simp(disch:=omega) only[vm,seval,h.1];done)|rfl
  intro k8 Jk8 hk8 h
  replace h:=AC h
  rcases h with h|h
  simp(disch:=omega) only[vm,seval,h.1]
  refine⟨hk8 (decide ((a1.keys.length:Int)>0)) () _ _ _ _ h.2 slr ?_ ?_ ?_ (by omega)⟩<;>first|(simp(disch:=omega) only[vm,seval,h.1];done)|rfl
  simp(disch:=omega) only[vm,seval,h.1]
  refine⟨hk8 false () _ _ _ _ h.2 slr ?_ ?_ ?_ (by omega)⟩<;>first|(simp(disch:=omega) only[vm,seval,h.1];done)|rfl
  intro k2 Jk2 hk2 h
  replace h:=AC h
  rcases h with h|h
  simp(disch:=omega) only[vm,seval,h.1]
  refine⟨hk2 true () _ _ _ _ h.2 slr ?_ ?_ ?_ (by omega)⟩<;>first|(simp(disch:=omega) only[vm,seval,h.1];done)|rfl
  replace h:=AC h
  rcases h with h|h
  simp(disch:=omega) only[vm,seval,h.1]
  refine⟨hk2 true () _ _ _ _ h.2 slr ?_ ?_ ?_ (by omega)⟩<;>first|(simp(disch:=omega) only[vm,seval,h.1];done)|rfl
  replace h:=AC h
  rcases h with h|h
  simp(disch:=omega) only[vm,seval,h.1]
  refine⟨hk2 true () _ _ _ _ h.2 slr ?_ ?_ ?_ (by omega)⟩<;>first|(simp(disch:=omega) only[vm,seval,h.1];done)|rfl
  replace h:=AA h
  obtain⟨y5,h⟩:=h
  simp(disch:=omega) only[vm,seval,h.1]
  refine⟨Oe h.1.1 (by first|(simp(disch:=omega) only[vm,seval,h.1];done)|rfl) fun n6 hn6=>?_⟩
  simp(disch:=omega) only[vm,seval,h.1]
  refine⟨hk2 (!y5) () _ _ _ _ h.2 slr ?_ ?_ ?_ (by omega)⟩<;>first|(simp(disch:=omega) only[vm,seval,h.1];done)|rfl
theorem Jv {a0 a1 a2 r}{i0:Nat} (h:BO N N a0 a1 a2=some r) (ha:args=[.ptr i0 0,AJ a1,.int .i64 a2]) (hi0:Bi m i0=some ([.int .i64 a0.nodes])) (hQ: ∀n',n≤n'→Gl (Q (.bool r.1) ⟨Br m i0 ([.int .i64 r.2.nodes]),n'⟩)):ACall vE 30 args ⟨m,n⟩ Q:=
 (JU N N h ha hi0 hQ)
end Go.Proofs.YtooeobhihpkicaaGreatDoor
