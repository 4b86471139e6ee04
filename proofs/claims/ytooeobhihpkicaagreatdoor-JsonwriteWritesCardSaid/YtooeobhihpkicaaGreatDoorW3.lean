import Derived.Test.YtooeobhihpkicaaGreatDoorVmFacts
import Derived.Test.YtooeobhihpkicaaGreatDoorDefs
import Derived.Test.YtooeobhihpkicaaGreatDoorVM2
import Derived.Test.YtooeobhihpkicaaGreatDoorW0
import Derived.Test.YtooeobhihpkicaaGreatDoorW1
set_option linter.unusedVariables false
set_option linter.unusedSimpArgs false
set_option maxHeartbeats 4000000
set_option maxRecDepth 100000
set_option linter.defProp false
namespace Go.Proofs.YtooeobhihpkicaaGreatDoor
open Go.VM
variable{N n:Nat}{m:MS}{Q:PQ}{args:List AVal}
theorem Pp (N:Nat): ∀D:Nat,(∀ {a0:ApiValue}{r:ApiValue} (h:Cv N D a0=some r){args:List AVal}{n:Nat}{m:MS} (ha:args=[AA a0]){Q:PQ} (hQ: ∀n',n≤n'→Gl (Q (AA r) ⟨m,n'⟩)),ACall vE 29 args ⟨m,n⟩ Q):=by
 intro D
 induction D with
 |zero=>
  intro a0 r h
  simp only[Cv,reduceCtorEq]at h
 |succ D ih_ref15_order=>
  intro a0 r h args n m ha Q hQ
  rw[Cv]at h
  subst ha
  refine IL hQ Tryz.func29 rfl Tryz.ntmps29 Tryz.results29 (.q (.r []) (.q (.r []) (.q (.q (.r []) (.c .z .z)) .z))) fun R hR=>?_
  replace h:=And.intro trivial h
  replace h:=AJ h
  rcases h with h|h
  · simp (disch:=omega) only[vm,seval,h.1]
    refine⟨Ad (γ:=Unit) h [5,18,19,20,21,22,23,24,25,26,27,28,29,30,31,32] [] (fun j1 g=>[]) (fun j1 g=>((n+2),[.int .i64 a0.kind,.str a0.text,.slice 1 (List.map AVal.str []) true,.slice 4 (List.map AA j1) true])::((n+1),[.int .i64 0,.str [],.slice 1 (List.map AVal.str []) true,.slice 4 (List.map AA []) true])::(n,[.int .i64 a0.kind,.str a0.text,.slice 1 (List.map AVal.str a0.keys) false,.slice 4 (List.map AA a0.items) false])::m) (.q (.r []) .z) ?_ ?_⟩<;>clear h
    rintro j1 _ n4 hnn4 _ _ h
    refine AC (.q (.r []) .z) ?_
    obtain⟨H,h⟩:=h
    cases h
    simp(disch:=omega) only[vm,seval,H]
    refine⟨(hR _ _ _ _ _ _ (by simp(disch:=omega) only[vm,seval,H];rfl) (.cons _ (.cons _ (.cons _ slr))) ?_ (by omega) ?_).1⟩<;>first|(simp(disch:=omega) only[vm,seval,H];done)|rfl
    · intro k2 Jk2 hk2 h
      replace h:=Ac h
      obtain⟨hfk5,h⟩:=h
      simp(disch:=omega) only[vm,seval,h.1]
      refine⟨EG (σ:=(List ApiValue)) (γ:=Unit) a0.items hfk5 (fun xs i s=>Dh N (Cv N D) k2 xs s) (fun i s g=>[.int .i64 i]) (fun i s g=>((n+2),[.int .i64 a0.kind,.str a0.text,.slice 1 (List.map AVal.str []) true,.slice 4 (List.map AA s) true])::((n+1),[.int .i64 0,.str [],.slice 1 (List.map AVal.str []) true,.slice 4 (List.map AA []) true])::(n,[.int .i64 a0.kind,.str a0.text,.slice 1 (List.map AVal.str a0.keys) false,.slice 4 (List.map AA a0.items) false])::m) [5,22,23,24,25,26,27,28,29,30,31,32] [21] [] () h (by first|(simp(disch:=omega) only[vm,seval,h.1];done)|rfl) (by first|(simp(disch:=omega) only[vm,seval,h.1];done)|rfl) ?_ ?_⟩<;>clear h
      rintro s21 bn2_items _ nL0_1 hnL0_1 _ h
      change _∧Dh N (Cv N D) k2 [] bn2_items=_ at h
      rw[Dh]at h
      refine AC (.q (.r []) (.q (.c .z .z) .z)) ?_
      simp(disch:=omega) only[vm,seval,h.1]
      refine⟨hk2 bn2_items () _ _ _ _ h.2 slr ?_ ?_ ?_ (by omega)⟩<;>first|(simp(disch:=omega) only[vm,seval,h.1];done)|rfl
      · rintro xk5 xsk5 s21 bn2_items _ nL0_1 hnL0_1 _ h Jk5 hk5
        change _∧Dh N (Cv N D) k2 (xk5::xsk5) bn2_items=_ at h
        rw[Dh]at h
        refine AC (.q (.r []) (.q (.c .z .z) .z)) ?_
        simp(disch:=omega) only[vm,seval,h.1]
        refine⟨Ad (γ:=Unit) h [5,23,24,25,26,27,28,29,30,31] [] (fun j6 g=>[]) (fun j6 g=>((n+2),[.int .i64 a0.kind,.str a0.text,.slice 1 (List.map AVal.str []) true,.slice 4 (List.map AA j6) true])::((n+1),[.int .i64 0,.str [],.slice 1 (List.map AVal.str []) true,.slice 4 (List.map AA []) true])::(n,[.int .i64 a0.kind,.str a0.text,.slice 1 (List.map AVal.str a0.keys) false,.slice 4 (List.map AA a0.items) false])::m) (.q (.r []) .z) ?_ ?_⟩<;>clear h
        rintro j6 _ n9 hnn9 _ _ h
        refine AC (.r []) ?_
        simp(disch:=omega) only[vm,seval,h.1]
        refine⟨hk5 j6 () _ _ _ _ h.2 slr ?_ ?_ ?_ (by omega)⟩<;>first|(simp(disch:=omega) only[vm,seval,h.1];done)|rfl
        · intro k7 Jk7 hk7 h
          replace h:=AB h
          obtain⟨y10,h⟩:=h
          have cy10:=h.1.1
          replace h:=Ac h
          obtain⟨c,h⟩:=h
          try simp only[liE,seval]at c
          replace h:=AR c h
          simp(disch:=omega) only[vm,seval,h.1]
          refine⟨Ar [26] (.take 0 (.take 2 (.alt 1 [2] (.alt 3 [0] (.take 4 (.alt 5 [2,0] (.take 6 (.alt 7 [] (.done) (.stop))) (.stop))) (.stop)) (.alt 3 [0] (.take 4 (.alt 1 [4,2] (.alt 5 [2,0] (.take 6 (.alt 7 [] (.done) (.stop))) (.stop)) (.stop))) (.stop))))) Af (by kernel_rfl) ?_⟩
          all_goals
           simp(disch:=omega) only[vm,seval,h.1]
           repeat' refine QC ?_ ?_
           all_goals
            refine⟨ih_ref15_order cy10 (by first|(simp(disch:=omega) only[vm,seval,h.1];done)|rfl) fun n11 hn11=>?_⟩
            simp(disch:=omega) only[vm,seval,h.1]
            refine⟨hk7 (bn2_items++[y10]) () _ _ _ _ h.2 (.cons _ slr) ?_ ?_ ?_ (by omega)⟩<;>first|(simp(disch:=omega) only[vm,seval,h.1];done)|rfl
  · simp (disch:=omega) only[vm,seval,h.1]
    refine⟨Ad (γ:=Unit) h [7,8,9,34,35,36,37,38,39,40,41,42,43,44,45,46,47,48,49,50,51,52,53,54,55,56,57,58,59,60,61] [] (fun j12 g=>[]) (fun j12 g=>((n+2),[.int .i64 a0.kind,.str a0.text,.slice 1 (List.map AVal.str j12.1) true,.slice 4 (List.map AA j12.2) true])::((n+1),[.int .i64 0,.str [],.slice 1 (List.map AVal.str []) true,.slice 4 (List.map AA []) true])::(n,[.int .i64 a0.kind,.str a0.text,.slice 1 (List.map AVal.str a0.keys) false,.slice 4 (List.map AA a0.items) false])::m) (.q (.r []) .z) ?_ ?_⟩<;>clear h
    rintro j12 _ n15 hnn15 _ _ h
    refine AC (.q (.r []) .z) ?_
    obtain⟨H,h⟩:=h
    cases h
    simp(disch:=omega) only[vm,seval,H]
    refine⟨(hR _ _ _ _ _ _ (by simp(disch:=omega) only[vm,seval,H];rfl) (.cons _ (.cons _ (.cons _ slr))) ?_ (by omega) ?_).1⟩<;>first|(simp(disch:=omega) only[vm,seval,H];done)|rfl
    · intro k13 Jk13 hk13 h
      replace h:=AB h
      obtain⟨y16,h⟩:=h
      simp(disch:=omega) only[vm,seval,h.1]
      refine⟨Lm h.1.1 (by first|(simp(disch:=omega) only[vm,seval,h.1];done)|rfl) fun n17 hn17=>?_⟩
      replace h:=Ac h
      obtain⟨hfk18,h⟩:=h
      simp(disch:=omega) only[vm,seval,h.1]
      refine⟨EG (σ:=(List (List UInt8))×(List ApiValue)) (γ:=Unit) y16 hfk18 (fun xs i s=>Cj N a0 (Cv N D) k13 xs s.1 s.2) (fun i s g=>[.int .i64 i]) (fun i s g=>((n+2),[.int .i64 a0.kind,.str a0.text,.slice 1 (List.map AVal.str s.1) true,.slice 4 (List.map AA s.2) true])::((n+1),[.int .i64 0,.str [],.slice 1 (List.map AVal.str []) true,.slice 4 (List.map AA []) true])::(n,[.int .i64 a0.kind,.str a0.text,.slice 1 (List.map AVal.str a0.keys) false,.slice 4 (List.map AA a0.items) false])::m) [7,8,9,39,40,41,42,43,44,45,46,47,48,49,50,51,52,53,54,55,56,57,58,59,60,61] [38] ([],[]) () h (by first|(simp(disch:=omega) only[vm,seval,h.1];done)|rfl) (by first|(simp(disch:=omega) only[vm,seval,h.1];done)|rfl) ?_ ?_⟩<;>clear h
      rintro s38 ⟨bn2_keys,bn2_items⟩ _ nL1_1 hnL1_1 _ h
      change _∧Cj N a0 (Cv N D) k13 [] bn2_keys bn2_items=_ at h
      rw[Cj]at h
      refine AC (.q (.r []) (.q (.c .z .z) .z)) ?_
      simp(disch:=omega) only[vm,seval,h.1]
      refine⟨hk13 (bn2_keys,bn2_items) () _ _ _ _ h.2 slr ?_ ?_ ?_ (by omega)⟩<;>first|(simp(disch:=omega) only[vm,seval,h.1];done)|rfl
      · rintro xk18 xsk18 s38 ⟨bn2_keys,bn2_items⟩ _ nL1_1 hnL1_1 _ h Jk18 hk18
        change _∧Cj N a0 (Cv N D) k13 (xk18::xsk18) bn2_keys bn2_items=_ at h
        rw[Cj]at h
        refine AC (.q (.r []) (.q (.c .z .z) .z)) ?_
        simp(disch:=omega) only[vm,seval,h.1]
        refine⟨Ad (γ:=Unit) h [7,8,9,40,41,42,43,44,45,46,47,48,49,50,51,52,53,54,55,56,57,58,59,60] [] (fun j19 g=>[]) (fun j19 g=>((n+2),[.int .i64 a0.kind,.str a0.text,.slice 1 (List.map AVal.str (bn2_keys++[xk18])) true,.slice 4 (List.map AA j19) true])::((n+1),[.int .i64 0,.str [],.slice 1 (List.map AVal.str []) true,.slice 4 (List.map AA []) true])::(n,[.int .i64 a0.kind,.str a0.text,.slice 1 (List.map AVal.str a0.keys) false,.slice 4 (List.map AA a0.items) false])::m) (.q (.r []) (.q (.r []) .z)) ?_ ?_⟩<;>clear h
        rintro j19 _ n22 hnn22 _ _ h
        refine AC (.r []) ?_
        simp(disch:=omega) only[vm,seval,h.1]
        refine⟨hk18 ((bn2_keys++[xk18]),j19) () _ _ _ _ h.2 slr ?_ ?_ ?_ (by omega)⟩<;>first|(simp(disch:=omega) only[vm,seval,h.1];done)|rfl
        · intro k20 Jk20 hk20 h
          replace h:=AB h
          obtain⟨y23,h⟩:=h
          simp(disch:=omega) only[vm,seval,h.1]
          refine⟨Pg h.1.1 (by first|(simp(disch:=omega) only[vm,seval,h.1];done)|rfl) fun n24 hn24=>?_⟩
          replace h:=Ac h
          obtain⟨c,h⟩:=h
          try simp only[liE,seval]at c
          replace h:=AR c h
          replace h:=AB h
          obtain⟨y25,h⟩:=h
          have cy25:=h.1.1
          replace h:=Ac h
          obtain⟨c,h⟩:=h
          try simp only[liE,seval]at c
          replace h:=AR c h
          simp(disch:=omega) only[vm,seval,h.1]
          refine⟨Ar [49,54] (.take 0 (.take 2 (.take 3 (.take 5 (.take 7 (.alt 1 [7,5,3,2] (.alt 4 [7,5,2,0] (.alt 6 [7,3,2,0] (.take 11 (.alt 8 [11,5,3,2,0] (.take 9 (.alt 10 [11,7,5,3,2,0] (.alt 12 [9,7] (.take 13 (.alt 14 [] (.done) (.stop))) (.stop)) (.stop))) (.stop))) (.alt 8 [5,3,2,0] (.take 9 (.alt 6 [9,7,3,2,0] (.take 11 (.alt 10 [11,7,5,3,2,0] (.alt 12 [9,7] (.take 13 (.alt 14 [] (.done) (.stop))) (.stop)) (.stop))) (.stop))) (.stop))) (.alt 6 [7,3,2,0] (.alt 4 [7,5,2,0] (.take 11 (.alt 8 [11,5,3,2,0] (.take 9 (.alt 10 [11,7,5,3,2,0] (.alt 12 [9,7] (.take 13 (.alt 14 [] (.done) (.stop))) (.stop)) (.stop))) (.stop))) (.stop)) (.stop))) (.alt 6 [7,3,2,0] (.alt 1 [7,5,3,2] (.alt 4 [7,5,2,0] (.take 11 (.alt 8 [11,5,3,2,0] (.take 9 (.alt 10 [11,7,5,3,2,0] (.alt 12 [9,7] (.take 13 (.alt 14 [] (.done) (.stop))) (.stop)) (.stop))) (.stop))) (.stop)) (.stop)) (.stop)))))))) Af (by kernel_rfl) ?_⟩
          all_goals
           simp(disch:=omega) only[vm,seval,h.1]
           repeat' refine QC ?_ ?_
           all_goals
            refine⟨ih_ref15_order cy25 (by first|(simp(disch:=omega) only[vm,seval,h.1];done)|rfl) fun n26 hn26=>?_⟩
            simp(disch:=omega) only[vm,seval,h.1]
            refine⟨hk20 (bn2_items++[y25]) () _ _ _ _ h.2 (.cons _ slr) ?_ ?_ ?_ (by omega)⟩<;>first|(simp(disch:=omega) only[vm,seval,h.1];done)|rfl
theorem M4 {a0 r} (h:Cv N N a0=some r) (ha:args=[AA a0]) (hQ: ∀n',n≤n'→Gl (Q (AA r) ⟨m,n'⟩)):ACall vE 29 args ⟨m,n⟩ Q:=
 (Pp N N h ha hQ)
end Go.Proofs.YtooeobhihpkicaaGreatDoor
