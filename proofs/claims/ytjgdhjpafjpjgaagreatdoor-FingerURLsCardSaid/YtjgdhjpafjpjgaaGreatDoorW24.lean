import Derived.Test.YtjgdhjpafjpjgaaGreatDoorVmFacts
import Derived.Test.YtjgdhjpafjpjgaaGreatDoorDefs
import Derived.Test.YtjgdhjpafjpjgaaGreatDoorVM2
import Derived.Test.YtjgdhjpafjpjgaaGreatDoorW0
import Derived.Test.YtjgdhjpafjpjgaaGreatDoorW18
import Derived.Test.YtjgdhjpafjpjgaaGreatDoorW20
import Derived.Test.YtjgdhjpafjpjgaaGreatDoorW22
import Derived.Test.YtjgdhjpafjpjgaaGreatDoorW23
set_option linter.unusedVariables false
set_option linter.unusedSimpArgs false
set_option maxHeartbeats 4000000
set_option maxRecDepth 100000
set_option linter.defProp false
namespace Go.Proofs.YtjgdhjpafjpjgaaGreatDoor
open Go.VM
variable{N n:Nat}{m:MS}{Q:PQ}{args:List AVal}
theorem Ol {a0 a1 r} (h:Gy N a0 a1=some r) (ha:args=[Bz a0,.slice 1 (List.map (AVal.int .u8) a1) false]) (hQ: ∀n',n≤n'→Gl (Q (.bool r) ⟨m,n'⟩)):ACall vE 3 args ⟨m,n⟩ Q:=by
 rw[Gy]at h
 subst ha
 refine ent hQ Tryz.func3 rfl Tryz.ntmps3 Tryz.results3 (.q (.r []) (.q (.q (.r []) (.c (.q (.r []) .z) .z)) (.q (.q (.r []) (.c (.q (.r []) .z) .z)) .z))) fun R hR=>?_
 replace h:=And.intro trivial h
 replace h:=AA h
 obtain⟨y1,h⟩:=h
 simp(maxSteps:=10000000) (disch:=omega) only[vm,seval,h.1]
 refine⟨Yi h.1.1 (by first|(simp(maxSteps:=10000000) (disch:=omega) only[vm,seval,h.1];done)|rfl) fun n2 hn2=>?_⟩
 replace h:=AC h
 rcases h with h|h
 replace h:=AA h
 obtain⟨y3,h⟩:=h
 simp(maxSteps:=10000000) (disch:=omega) only[vm,seval,h.1]
 refine⟨AJ1 h.1.1 (by first|(simp(maxSteps:=10000000) (disch:=omega) only[vm,seval,h.1];done)|rfl) fun n4 hn4=>?_⟩
 replace h:=AC h
 rcases h with h|h
 simp(maxSteps:=10000000) (disch:=omega) only[vm,seval,h.1]
 refine⟨AV (γ:=Unit) h [4,6,7,8,9,10,11,12,13,14,15,16,17,18,24,25,26,27,28,29,30,31,32,33,34,35,36,37,38,39,40,41,42,43,44,45,46,47,48,49,50,51,52,53,54,55,56,57,58,59,60,61,62,63,64,65,66,67,68,69,70,71,72,73,74,75,76,77,78,79,80,81,82,83,84,85,86,87,88,89,90,91] [] (fun j5 g=>[]) (fun j5 g=>(n,[.int .i64 a0.kind,.str a0.text,.str a0.host,.int .i64 a0.port])::m) (.q .z .z) ?_ ?_⟩<;>clear h
 rintro j5 _ n8 hnn8 _ _ h
 refine AB (.q (.r []) .z) ?_
 obtain⟨H,h⟩:=h
 cases h
 simp(maxSteps:=10000000) (disch:=omega) only[vm,seval,H]
 refine⟨(hR _ _ _ _ _ _ (by simp(maxSteps:=10000000) (disch:=omega) only[vm,seval,H];rfl) (.cons _ slr) ?_ (by omega) ?_).1⟩<;>first|(simp(maxSteps:=10000000) (disch:=omega) only[vm,seval,H];done)|rfl
 intro k6 Jk6 hk6 h
 replace h:=AA h
 obtain⟨y9,h⟩:=h
 have cy9:=h.1.1
 refine LZ h ?_
 clear h
 intro l11 c h
 replace c:=congrArg (List.map Bz) c
 simp only[List.map_cons,List.map_nil,eE]at c
 replace h:=AO c h
 simp(maxSteps:=10000000) (disch:=omega) only[vm,seval,h.1]
 refine⟨BM [] (.take 0 (.take 1 (.take 5 (.alt 2 [5,0] (.take 3 (.take 4 (.done))) (.stop))))) A8 (by kernel_rfl) ?_⟩
 simp(maxSteps:=10000000) (disch:=omega) only[vm,seval,h.1]
 refine⟨Ox cy9 (by first|(simp(maxSteps:=10000000) (disch:=omega) only[vm,seval,h.1];done)|rfl) fun n10 hn10=>?_⟩
 replace h:=AR h
 obtain⟨hfk12,h⟩:=h
 simp(maxSteps:=10000000) (disch:=omega) only[vm,seval,h.1]
 refine⟨CB (σ:=Unit) (γ:=Unit) l11 hfk12 (fun xs i s=>BG N k6 xs) (fun i s g=>[.int .i64 i]) (fun i s g=>(n,[.int .i64 a0.kind,.str a0.text,.str a0.host,.int .i64 a0.port])::m) [4,6,7,8,9,10,11,12,13,14,15,16,17,18,30,31,32,33,34,35,36,37,38,39,40,41,42,43,44,45,46,47,48,49,50,51,52,53,54,55,56,57,58,59,60,61,62,63,64,65,66,67,68,69,70,71,72,73,74,75,76,77,78,79,80,81,82,83,84,85,86,87,88,89,90,91] [29] () () h (by first|(simp(maxSteps:=10000000) (disch:=omega) only[vm,seval,h.1];done)|rfl) (by first|(simp(maxSteps:=10000000) (disch:=omega) only[vm,seval,h.1];done)|rfl) ?_ ?_⟩<;>clear h
 rintro s29 _ _ nL0_1 hnL0_1 _ h
 change _∧BG N k6 []=_ at h
 rw[BG]at h
 refine AB (.q (.r []) (.q (.c .z .z) (.q (.q (.r []) (.q (.r []) (.q (.r []) (.q (.r []) (.q (.r []) (.q (.r []) (.q (.r []) .z))))))) (.r [])))) ?_
 simp(maxSteps:=10000000) (disch:=omega) only[vm,seval,h.1]
 refine⟨hk6 () () _ _ _ _ h.2 slr ?_ ?_ ?_ (by omega)⟩<;>first|(simp(maxSteps:=10000000) (disch:=omega) only[vm,seval,h.1];done)|rfl
 rintro xk12 xsk12 s29 _ _ nL0_1 hnL0_1 _ h Jk12 hk12
 change _∧BG N k6 (xk12::xsk12)=_ at h
 rw[BG]at h
 refine AB (.q (.r []) (.q (.c .z .z) (.q (.q (.r []) (.q (.r []) (.q (.r []) (.q (.r []) (.q (.r []) (.q (.r []) (.q (.r []) .z))))))) (.r [])))) ?_
 replace h:=AA h
 obtain⟨y13,h⟩:=h
 simp(maxSteps:=10000000) (disch:=omega) only[vm,seval,h.1]
 refine⟨KY h.1.1 (by first|(simp(maxSteps:=10000000) (disch:=omega) only[vm,seval,h.1];done)|rfl) fun n14 hn14=>?_⟩
 replace h:=AA h
 obtain⟨y15,h⟩:=h
 simp(maxSteps:=10000000) (disch:=omega) only[vm,seval,h.1]
 refine⟨Tm h.1.1 (by first|(simp(maxSteps:=10000000) (disch:=omega) only[vm,seval,h.1];done)|rfl) fun n16 hn16=>?_⟩
 replace h:=AA h
 obtain⟨y17,h⟩:=h
 simp(maxSteps:=10000000) (disch:=omega) only[vm,seval,h.1]
 refine⟨Ps h.1.1 (by first|(simp(maxSteps:=10000000) (disch:=omega) only[vm,seval,h.1];done)|rfl) fun n18 hn18=>?_⟩
 replace h:=AA h
 obtain⟨y19,h⟩:=h
 simp(maxSteps:=10000000) (disch:=omega) only[vm,seval,h.1]
 refine⟨Qh h.1.1 (by first|(simp(maxSteps:=10000000) (disch:=omega) only[vm,seval,h.1];done)|rfl) fun n20 hn20=>?_⟩
 replace h:=AA h
 obtain⟨y21,h⟩:=h
 simp(maxSteps:=10000000) (disch:=omega) only[vm,seval,h.1]
 refine⟨Tp h.1.1 (by first|(simp(maxSteps:=10000000) (disch:=omega) only[vm,seval,h.1];done)|rfl) fun n22 hn22=>?_⟩
 replace h:=AA h
 obtain⟨y23,h⟩:=h
 simp(maxSteps:=10000000) (disch:=omega) only[vm,seval,h.1]
 refine⟨Yf h.1.1 (by first|(simp(maxSteps:=10000000) (disch:=omega) only[vm,seval,h.1];done)|rfl) fun n24 hn24=>?_⟩
 simp(maxSteps:=10000000) (disch:=omega) only[vm,seval,h.1]
 refine⟨AV (γ:=Unit) h [63,64,65,66,67,68,69,70,71,72,73,74,75,76,77,78,79,80,81,82,83,84,85,86,87,88,89] [90] (fun j25 g=>[.bool j25]) (fun j25 g=>(n24,[.str y23.1.host,.int .i64 y23.1.port,.str y23.1.path,.str y23.1.query,.str y23.1.fragment,.bool y23.1.hasQuery,.bool y23.1.hasFrag])::(n22,[.str y21.1.host,.int .i64 y21.1.port,.str y21.1.path,.str y21.1.query,.str y21.1.fragment,.bool y21.1.hasQuery,.bool y21.1.hasFrag])::(n20,[.str y19.1.host,.int .i64 y19.1.port,.str y19.1.path,.str y19.1.query,.str y19.1.fragment,.bool y19.1.hasQuery,.bool y19.1.hasFrag])::(n18,[.str y17.1.host,.int .i64 y17.1.port,.str y17.1.path,.str y17.1.query,.str y17.1.fragment,.bool y17.1.hasQuery,.bool y17.1.hasFrag])::(n16,[.str y15.1.host,.int .i64 y15.1.port,.str y15.1.path,.str y15.1.query,.str y15.1.fragment,.bool y15.1.hasQuery,.bool y15.1.hasFrag])::(n14,[.str y13.1.host,.int .i64 y13.1.port,.str y13.1.path,.str y13.1.query,.str y13.1.fragment,.bool y13.1.hasQuery,.bool y13.1.hasFrag])::(nL0_1,[.int .i64 xk12.kind,.str xk12.text,.str xk12.host,.int .i64 xk12.port])::(n,[.int .i64 a0.kind,.str a0.text,.str a0.host,.int .i64 a0.port])::m) (.r []) ?_ ?_⟩<;>clear h
 rintro j25 _ n28 hnn28 _ _ h
 refine AB (.c (.q (.r []) .z) .z) ?_
 replace h:=AC h
 rcases h with h|h
 obtain⟨H,h⟩:=h
 cases h
 simp(maxSteps:=10000000) (disch:=omega) only[vm,seval,H]
 refine⟨(hR _ _ _ _ _ _ (by simp(maxSteps:=10000000) (disch:=omega) only[vm,seval,H];rfl) (.cons _ (.cons _ (.cons _ (.cons _ (.cons _ (.cons _ (.cons _ (.cons _ slr)))))))) ?_ (by omega) ?_).1⟩<;>first|(simp(maxSteps:=10000000) (disch:=omega) only[vm,seval,H];done)|rfl
 simp(maxSteps:=10000000) (disch:=omega) only[vm,seval,h.1]
 refine⟨hk12 () () _ _ _ _ h.2 (.cons _ (.cons _ (.cons _ (.cons _ (.cons _ (.cons _ (.cons _ slr))))))) ?_ ?_ ?_ (by omega)⟩<;>first|(simp(maxSteps:=10000000) (disch:=omega) only[vm,seval,h.1];done)|rfl
 intro k26 Jk26 hk26 h
 replace h:=AC h
 rcases h with h|h
 replace h:=AC h
 rcases h with h|h
 simp(maxSteps:=10000000) (disch:=omega) only[vm,seval,h.1]
 refine⟨hk26 true () _ _ _ _ h.2 slr ?_ ?_ ?_ (by omega)⟩<;>first|(simp(maxSteps:=10000000) (disch:=omega) only[vm,seval,h.1];done)|rfl
 replace h:=AC h
 rcases h with h|h
 replace h:=AC h
 rcases h with h|h
 simp(maxSteps:=10000000) (disch:=omega) only[vm,seval,h.1]
 refine⟨hk26 true () _ _ _ _ h.2 slr ?_ ?_ ?_ (by omega)⟩<;>first|(simp(maxSteps:=10000000) (disch:=omega) only[vm,seval,h.1];done)|rfl
 replace h:=AC h
 rcases h with h|h
 simp(maxSteps:=10000000) (disch:=omega) only[vm,seval,h.1]
 refine⟨hk26 (y21.2 !=y23.2) () _ _ _ _ h.2 slr ?_ ?_ ?_ (by omega)⟩<;>first|(simp(maxSteps:=10000000) (disch:=omega) only[vm,seval,h.1];done)|rfl
 simp(maxSteps:=10000000) (disch:=omega) only[vm,seval,h.1]
 refine⟨hk26 true () _ _ _ _ h.2 slr ?_ ?_ ?_ (by omega)⟩<;>first|(simp(maxSteps:=10000000) (disch:=omega) only[vm,seval,h.1];done)|rfl
 simp(maxSteps:=10000000) (disch:=omega) only[vm,seval,h.1]
 refine⟨hk26 true () _ _ _ _ h.2 slr ?_ ?_ ?_ (by omega)⟩<;>first|(simp(maxSteps:=10000000) (disch:=omega) only[vm,seval,h.1];done)|rfl
 simp(maxSteps:=10000000) (disch:=omega) only[vm,seval,h.1]
 refine⟨hk26 true () _ _ _ _ h.2 slr ?_ ?_ ?_ (by omega)⟩<;>first|(simp(maxSteps:=10000000) (disch:=omega) only[vm,seval,h.1];done)|rfl
 obtain⟨H,h⟩:=h
 cases h
 simp(maxSteps:=10000000) (disch:=omega) only[vm,seval,H]
 refine⟨(hR _ _ _ _ _ _ (by simp(maxSteps:=10000000) (disch:=omega) only[vm,seval,H];rfl) (.cons _ slr) ?_ (by omega) ?_).1⟩<;>first|(simp(maxSteps:=10000000) (disch:=omega) only[vm,seval,H];done)|rfl
 obtain⟨H,h⟩:=h
 cases h
 simp(maxSteps:=10000000) (disch:=omega) only[vm,seval,H]
 refine⟨(hR _ _ _ _ _ _ (by simp(maxSteps:=10000000) (disch:=omega) only[vm,seval,H];rfl) (.cons _ slr) ?_ (by omega) ?_).1⟩<;>first|(simp(maxSteps:=10000000) (disch:=omega) only[vm,seval,H];done)|rfl
end Go.Proofs.YtjgdhjpafjpjgaaGreatDoor
