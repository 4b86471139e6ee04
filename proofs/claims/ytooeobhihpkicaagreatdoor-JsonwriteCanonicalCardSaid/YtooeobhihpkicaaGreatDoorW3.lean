import Derived.Test.YtooeobhihpkicaaGreatDoorVmFacts
import Derived.Test.YtooeobhihpkicaaGreatDoorDefs
import Derived.Test.YtooeobhihpkicaaGreatDoorVM2
import Derived.Test.YtooeobhihpkicaaGreatDoorW0
set_option linter.unusedVariables false
set_option linter.unusedSimpArgs false
set_option maxHeartbeats 4000000
set_option maxRecDepth 100000
set_option linter.defProp false
namespace Go.Proofs.YtooeobhihpkicaaGreatDoor
open Go.VM
variable{N n:Nat}{m:MS}{Q:PQ}{args:List AVal}
theorem Ps (N:Nat): ∀D:Nat,(∀ {a0:ApiValue}{a1:ApiValue}{r:Bool} (h:Cv N D a0 a1=some r){args:List AVal}{n:Nat}{m:MS} (ha:args=[AJ a0,AJ a1]){Q:PQ} (hQ: ∀n',n≤n'→Gl (Q (.bool r) ⟨m,n'⟩)),ACall vE 11 args ⟨m,n⟩ Q):=by
 intro D
 induction D with
 |zero=>
  intro a0 a1 r h
  simp only[Cv,reduceCtorEq]at h
 |succ D ih_ref14_Equal=>
  intro a0 a1 r h args n m ha Q hQ
  rw[Cv]at h
  subst ha
  refine Mr hQ Tryz.func11 rfl Tryz.ntmps11 Tryz.results11 (.q (.r []) (.q .z (.q (.q (.r []) .z) (.q (.r []) .z)))) fun R hR=>?_
  replace h:=And.intro trivial h
  simp(disch:=omega) only[vm,seval,h.1]
  refine⟨Ad (γ:=Unit) h [12,13,14,15,16,17,18,19,20,21,22,23,24,25,26,27,28,29,30,31,32,33] [34] (fun j1 g=>[.bool j1]) (fun j1 g=>((n+1),[.int .i64 a1.kind,.str a1.text,.slice 1 (List.map AVal.str a1.keys) false,.slice 4 (List.map AJ a1.items) false])::(n,[.int .i64 a0.kind,.str a0.text,.slice 1 (List.map AVal.str a0.keys) false,.slice 4 (List.map AJ a0.items) false])::m) (.r []) ?_ ?_⟩<;>clear h
  rintro j1 _ n4 hnn4 _ _ h
  refine AB (.c (.q (.r []) .z) .z) ?_
  replace h:=AC h
  rcases h with h|h
  obtain⟨H,h⟩:=h
  cases h
  simp(disch:=omega) only[vm,seval,H]
  refine⟨(hR _ _ _ _ _ _ (by simp(disch:=omega) only[vm,seval,H];rfl) (.cons _ (.cons _ slr)) ?_ (by omega) ?_).1⟩<;>first|(simp(disch:=omega) only[vm,seval,H];done)|rfl
  simp(disch:=omega) only[vm,seval,h.1]
  refine⟨Ad (γ:=Unit) h [38,39,40] [37] (fun j5 g=>[.bool j5]) (fun j5 g=>((n+1),[.int .i64 a1.kind,.str a1.text,.slice 1 (List.map AVal.str a1.keys) false,.slice 4 (List.map AJ a1.items) false])::(n,[.int .i64 a0.kind,.str a0.text,.slice 1 (List.map AVal.str a0.keys) false,.slice 4 (List.map AJ a0.items) false])::m) (.q (.r []) (.c .z (.q (.r []) (.c .z (.r []))))) ?_ ?_⟩<;>clear h
  rintro j5 _ n8 hnn8 _ _ h
  refine AB (.c (.q (.r []) .z) .z) ?_
  replace h:=AC h
  rcases h with h|h
  obtain⟨H,h⟩:=h
  cases h
  simp(disch:=omega) only[vm,seval,H]
  refine⟨(hR _ _ _ _ _ _ (by simp(disch:=omega) only[vm,seval,H];rfl) (.cons _ (.cons _ slr)) ?_ (by omega) ?_).1⟩<;>first|(simp(disch:=omega) only[vm,seval,H];done)|rfl
  simp(disch:=omega) only[vm,seval,h.1]
  refine⟨Ad (γ:=Unit) h [42,43] [41] (fun j9 g=>[.bool j9]) (fun j9 g=>((n+1),[.int .i64 a1.kind,.str a1.text,.slice 1 (List.map AVal.str a1.keys) false,.slice 4 (List.map AJ a1.items) false])::(n,[.int .i64 a0.kind,.str a0.text,.slice 1 (List.map AVal.str a0.keys) false,.slice 4 (List.map AJ a0.items) false])::m) (.q (.r []) (.c .z (.r []))) ?_ ?_⟩<;>clear h
  rintro j9 _ n12 hnn12 _ _ h
  refine AB (.c (.q (.r []) .z) (.q (.r []) (.c .z (.q (.r []) (.c .z .z))))) ?_
  replace h:=AC h
  rcases h with h|h
  obtain⟨H,h⟩:=h
  cases h
  simp(disch:=omega) only[vm,seval,H]
  refine⟨(hR _ _ _ _ _ _ (by simp(disch:=omega) only[vm,seval,H];rfl) (.cons _ (.cons _ slr)) ?_ (by omega) ?_).1⟩<;>first|(simp(disch:=omega) only[vm,seval,H];done)|rfl
  replace h:=AC h
  rcases h with h|h
  simp(disch:=omega) only[vm,seval,h.1]
  refine⟨Ad (γ:=Unit) h [4,5,51,52,53,54,55,56,57,58,59,60,61,62,63,64,65,66,67,68,69] [] (fun j13 g=>[]) (fun j13 g=>((n+1),[.int .i64 a1.kind,.str a1.text,.slice 1 (List.map AVal.str a1.keys) false,.slice 4 (List.map AJ a1.items) false])::(n,[.int .i64 a0.kind,.str a0.text,.slice 1 (List.map AVal.str a0.keys) false,.slice 4 (List.map AJ a0.items) false])::m) (.q (.r []) .z) ?_ ?_⟩<;>clear h
  rintro j13 _ n16 hnn16 _ _ h
  refine AB (.q (.r []) .z) ?_
  obtain⟨H,h⟩:=h
  cases h
  simp(disch:=omega) only[vm,seval,H]
  refine⟨(hR _ _ _ _ _ _ (by simp(disch:=omega) only[vm,seval,H];rfl) (.cons _ (.cons _ slr)) ?_ (by omega) ?_).1⟩<;>first|(simp(disch:=omega) only[vm,seval,H];done)|rfl
  intro k14 Jk14 hk14 h
  replace h:=Ag h
  obtain⟨hfk17,h⟩:=h
  simp(disch:=omega) only[vm,seval,h.1]
  refine⟨Hl (σ:=Unit) (γ:=Unit) a0.items hfk17 (fun xs i s=>DV N a1 (Cv N D) k14 xs i) (fun i s g=>[.int .i64 i]) (fun i s g=>((n+1),[.int .i64 a1.kind,.str a1.text,.slice 1 (List.map AVal.str a1.keys) false,.slice 4 (List.map AJ a1.items) false])::(n,[.int .i64 a0.kind,.str a0.text,.slice 1 (List.map AVal.str a0.keys) false,.slice 4 (List.map AJ a0.items) false])::m) [4,5,55,56,57,58,59,60,61,62,63,64,65,66,67,68,69] [54] () () h (by first|(simp(disch:=omega) only[vm,seval,h.1];done)|rfl) (by first|(simp(disch:=omega) only[vm,seval,h.1];done)|rfl) ?_ ?_⟩<;>clear h
  rintro s54 _ _ nL0_1 hnL0_1 _ h
  change _∧DV N a1 (Cv N D) k14 [] s54=_ at h
  rw[DV]at h
  refine AB (.q (.r []) (.q (.c .z .z) (.q (.q (.r []) (.q .z (.c (.q (.r []) .z) .z))) (.r [])))) ?_
  simp(disch:=omega) only[vm,seval,h.1]
  refine⟨hk14 () () _ _ _ _ h.2 slr ?_ ?_ ?_ (by omega)⟩<;>first|(simp(disch:=omega) only[vm,seval,h.1];done)|rfl
  rintro xk17 xsk17 s54 _ _ nL0_1 hnL0_1 _ h Jk17 hk17
  change _∧DV N a1 (Cv N D) k14 (xk17::xsk17) s54=_ at h
  rw[DV]at h
  refine AB (.q (.r []) (.q (.c .z .z) (.q (.q (.r []) (.q .z (.c (.q (.r []) .z) .z))) (.r [])))) ?_
  replace h:=AA h
  obtain⟨x18,h⟩:=h
  replace h:=AA h
  obtain⟨y19,h⟩:=h
  have cy19:=h.1.1
  simp(disch:=omega) only[vm,seval,h.1]
  refine⟨BB [] (.take 0 (.take 1 (.take 2 (.take 3 (.take 4 (.take 5 (.take 6 (.take 7 (.take 8 (.take 9 (.alt 10 [8,7,6,5,3,2,1,0] (.take 11 (.done)) (.stop)))))))))))) Av (by kernel_rfl) ?_⟩
  simp(disch:=omega) only[vm,seval,h.1]
  refine⟨ih_ref14_Equal cy19 (by first|(simp(disch:=omega) only[vm,seval,h.1];done)|rfl) fun n20 hn20=>?_⟩
  replace h:=AC h
  rcases h with h|h
  simp(disch:=omega) only[vm,seval,h.1]
  refine⟨hk17 () () _ _ _ _ h.2 slr ?_ ?_ ?_ (by omega)⟩<;>first|(simp(disch:=omega) only[vm,seval,h.1];done)|rfl
  obtain⟨H,h⟩:=h
  cases h
  simp(disch:=omega) only[vm,seval,H]
  refine⟨(hR _ _ _ _ _ _ (by simp(disch:=omega) only[vm,seval,H];rfl) (.cons _ (.cons _ slr)) ?_ (by omega) ?_).1⟩<;>first|(simp(disch:=omega) only[vm,seval,H];done)|rfl
  replace h:=AC h
  rcases h with h|h
  simp(disch:=omega) only[vm,seval,h.1]
  refine⟨Ad (γ:=Unit) h [4,7,8,9,10,11,72,73,74,75,76,77,78,79,80,81,82,83,84,85,86,87,88,89,90,91,92,93,94,95,96,97,98,99,100,101,102,103] [] (fun j21 g=>[]) (fun j21 g=>((n+1),[.int .i64 a1.kind,.str a1.text,.slice 1 (List.map AVal.str a1.keys) false,.slice 4 (List.map AJ a1.items) false])::(n,[.int .i64 a0.kind,.str a0.text,.slice 1 (List.map AVal.str a0.keys) false,.slice 4 (List.map AJ a0.items) false])::m) (.q (.r []) .z) ?_ ?_⟩<;>clear h
  rintro j21 _ n24 hnn24 _ _ h
  refine AB (.q (.r []) .z) ?_
  obtain⟨H,h⟩:=h
  cases h
  simp(disch:=omega) only[vm,seval,H]
  refine⟨(hR _ _ _ _ _ _ (by simp(disch:=omega) only[vm,seval,H];rfl) (.cons _ (.cons _ slr)) ?_ (by omega) ?_).1⟩<;>first|(simp(disch:=omega) only[vm,seval,H];done)|rfl
  intro k22 Jk22 hk22 h
  replace h:=Ag h
  obtain⟨hfk25,h⟩:=h
  simp(disch:=omega) only[vm,seval,h.1]
  refine⟨Hl (σ:=Unit) (γ:=Unit) a0.keys hfk25 (fun xs i s=>DR N a0 a1 (Cv N D) k22 xs) (fun i s g=>[.int .i64 i]) (fun i s g=>((n+1),[.int .i64 a1.kind,.str a1.text,.slice 1 (List.map AVal.str a1.keys) false,.slice 4 (List.map AJ a1.items) false])::(n,[.int .i64 a0.kind,.str a0.text,.slice 1 (List.map AVal.str a0.keys) false,.slice 4 (List.map AJ a0.items) false])::m) [4,7,8,9,10,11,76,77,78,79,80,81,82,83,84,85,86,87,88,89,90,91,92,93,94,95,96,97,98,99,100,101,102,103] [75] () () h (by first|(simp(disch:=omega) only[vm,seval,h.1];done)|rfl) (by first|(simp(disch:=omega) only[vm,seval,h.1];done)|rfl) ?_ ?_⟩<;>clear h
  rintro s75 _ _ nL1_1 hnL1_1 _ h
  change _∧DR N a0 a1 (Cv N D) k22 []=_ at h
  rw[DR]at h
  refine AB (.q (.r []) (.q (.c .z .z) (.q (.q (.r []) (.q (.r []) (.q (.r []) .z))) (.r [])))) ?_
  simp(disch:=omega) only[vm,seval,h.1]
  refine⟨hk22 () () _ _ _ _ h.2 slr ?_ ?_ ?_ (by omega)⟩<;>first|(simp(disch:=omega) only[vm,seval,h.1];done)|rfl
  rintro xk25 xsk25 s75 _ _ nL1_1 hnL1_1 _ h Jk25 hk25
  change _∧DR N a0 a1 (Cv N D) k22 (xk25::xsk25)=_ at h
  rw[DR]at h
  refine AB (.q (.r []) (.q (.c .z .z) (.q (.q (.r []) (.q (.r []) (.q (.r []) .z))) (.r [])))) ?_
  replace h:=AA h
  obtain⟨y26,h⟩:=h
  simp(disch:=omega) only[vm,seval,h.1]
  refine⟨MG h.1.1 (by first|(simp(disch:=omega) only[vm,seval,h.1];done)|rfl) fun n27 hn27=>?_⟩
  replace h:=AA h
  obtain⟨y28,h⟩:=h
  simp(disch:=omega) only[vm,seval,h.1]
  refine⟨MG h.1.1 (by first|(simp(disch:=omega) only[vm,seval,h.1];done)|rfl) fun n29 hn29=>?_⟩
  simp(disch:=omega) only[vm,seval,h.1]
  refine⟨Ad (γ:=Unit) h [91,92,93,94,95,96,97,98,99,100,101] [102] (fun j30 g=>[.bool j30]) (fun j30 g=>(n29,[.int .i64 y28.1.kind,.str y28.1.text,.slice 1 (List.map AVal.str y28.1.keys) false,.slice 4 (List.map AJ y28.1.items) false])::(n27,[.int .i64 y26.1.kind,.str y26.1.text,.slice 1 (List.map AVal.str y26.1.keys) false,.slice 4 (List.map AJ y26.1.items) false])::((n+1),[.int .i64 a1.kind,.str a1.text,.slice 1 (List.map AVal.str a1.keys) false,.slice 4 (List.map AJ a1.items) false])::(n,[.int .i64 a0.kind,.str a0.text,.slice 1 (List.map AVal.str a0.keys) false,.slice 4 (List.map AJ a0.items) false])::m) (.r []) ?_ ?_⟩<;>clear h
  rintro j30 _ n33 hnn33 _ _ h
  refine AB (.c (.q (.r []) .z) .z) ?_
  replace h:=AC h
  rcases h with h|h
  obtain⟨H,h⟩:=h
  cases h
  simp(disch:=omega) only[vm,seval,H]
  refine⟨(hR _ _ _ _ _ _ (by simp(disch:=omega) only[vm,seval,H];rfl) (.cons _ (.cons _ (.cons _ (.cons _ slr)))) ?_ (by omega) ?_).1⟩<;>first|(simp(disch:=omega) only[vm,seval,H];done)|rfl
  simp(disch:=omega) only[vm,seval,h.1]
  refine⟨hk25 () () _ _ _ _ h.2 (.cons _ (.cons _ slr)) ?_ ?_ ?_ (by omega)⟩<;>first|(simp(disch:=omega) only[vm,seval,h.1];done)|rfl
  intro k31 Jk31 hk31 h
  replace h:=AC h
  rcases h with h|h
  replace h:=AC h
  rcases h with h|h
  replace h:=AA h
  obtain⟨y34,h⟩:=h
  simp(disch:=omega) only[vm,seval,h.1]
  refine⟨ih_ref14_Equal h.1.1 (by first|(simp(disch:=omega) only[vm,seval,h.1];done)|rfl) fun n35 hn35=>?_⟩
  simp(disch:=omega) only[vm,seval,h.1]
  refine⟨hk31 (!y34) () _ _ _ _ h.2 slr ?_ ?_ ?_ (by omega)⟩<;>first|(simp(disch:=omega) only[vm,seval,h.1];done)|rfl
  simp(disch:=omega) only[vm,seval,h.1]
  refine⟨hk31 true () _ _ _ _ h.2 slr ?_ ?_ ?_ (by omega)⟩<;>first|(simp(disch:=omega) only[vm,seval,h.1];done)|rfl
  simp(disch:=omega) only[vm,seval,h.1]
  refine⟨hk31 true () _ _ _ _ h.2 slr ?_ ?_ ?_ (by omega)⟩<;>first|(simp(disch:=omega) only[vm,seval,h.1];done)|rfl
  obtain⟨H,h⟩:=h
  cases h
  simp(disch:=omega) only[vm,seval,H]
  refine⟨(hR _ _ _ _ _ _ (by simp(disch:=omega) only[vm,seval,H];rfl) (.cons _ (.cons _ slr)) ?_ (by omega) ?_).1⟩<;>first|(simp(disch:=omega) only[vm,seval,H];done)|rfl
  intro k10 Jk10 hk10 h
  replace h:=AC h
  rcases h with h|h
  simp(disch:=omega) only[vm,seval,h.1]
  refine⟨hk10 (a0.kind==4) () _ _ _ _ h.2 slr ?_ ?_ ?_ (by omega)⟩<;>first|(simp(disch:=omega) only[vm,seval,h.1];done)|rfl
  simp(disch:=omega) only[vm,seval,h.1]
  refine⟨hk10 (a0.kind==5) () _ _ _ _ h.2 slr ?_ ?_ ?_ (by omega)⟩<;>first|(simp(disch:=omega) only[vm,seval,h.1];done)|rfl
  intro k6 Jk6 hk6 h
  replace h:=AC h
  rcases h with h|h
  simp(disch:=omega) only[vm,seval,h.1]
  refine⟨hk6 (a0.kind==1) () _ _ _ _ h.2 slr ?_ ?_ ?_ (by omega)⟩<;>first|(simp(disch:=omega) only[vm,seval,h.1];done)|rfl
  replace h:=AC h
  rcases h with h|h
  simp(disch:=omega) only[vm,seval,h.1]
  refine⟨hk6 (a0.kind==3) () _ _ _ _ h.2 slr ?_ ?_ ?_ (by omega)⟩<;>first|(simp(disch:=omega) only[vm,seval,h.1];done)|rfl
  simp(disch:=omega) only[vm,seval,h.1]
  refine⟨hk6 (a0.kind==2) () _ _ _ _ h.2 slr ?_ ?_ ?_ (by omega)⟩<;>first|(simp(disch:=omega) only[vm,seval,h.1];done)|rfl
  intro k2 Jk2 hk2 h
  replace h:=AC h
  rcases h with h|h
  simp(disch:=omega) only[vm,seval,h.1]
  refine⟨hk2 true () _ _ _ _ h.2 slr ?_ ?_ ?_ (by omega)⟩<;>first|(simp(disch:=omega) only[vm,seval,h.1];done)|rfl
  replace h:=AC h
  rcases h with h|h
  simp(disch:=omega) only[vm,seval,h.1]
  refine⟨hk2 true () _ _ _ _ h.2 slr ?_ ?_ ?_ (by omega)⟩<;>first|(simp(disch:=omega) only[vm,seval,h.1];done)|rfl
  simp(disch:=omega) only[vm,seval,h.1]
  refine⟨hk2 ((a0.keys.length:Int) !=(a1.keys.length:Int)) () _ _ _ _ h.2 slr ?_ ?_ ?_ (by omega)⟩<;>first|(simp(disch:=omega) only[vm,seval,h.1];done)|rfl
theorem SK {a0 a1 r} (h:Cv N N a0 a1=some r) (ha:args=[AJ a0,AJ a1]) (hQ: ∀n',n≤n'→Gl (Q (.bool r) ⟨m,n'⟩)):ACall vE 11 args ⟨m,n⟩ Q:=
 (Ps N N h ha hQ)
end Go.Proofs.YtooeobhihpkicaaGreatDoor
