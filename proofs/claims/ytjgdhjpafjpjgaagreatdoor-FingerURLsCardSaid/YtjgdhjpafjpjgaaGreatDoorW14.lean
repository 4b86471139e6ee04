import Derived.Test.YtjgdhjpafjpjgaaGreatDoorVmFacts
import Derived.Test.YtjgdhjpafjpjgaaGreatDoorDefs
import Derived.Test.YtjgdhjpafjpjgaaGreatDoorVM2
import Derived.Test.YtjgdhjpafjpjgaaGreatDoorW0
import Derived.Test.YtjgdhjpafjpjgaaGreatDoorW1
import Derived.Test.YtjgdhjpafjpjgaaGreatDoorW2
import Derived.Test.YtjgdhjpafjpjgaaGreatDoorW4
import Derived.Test.YtjgdhjpafjpjgaaGreatDoorW5
import Derived.Test.YtjgdhjpafjpjgaaGreatDoorW6
import Derived.Test.YtjgdhjpafjpjgaaGreatDoorW8
import Derived.Test.YtjgdhjpafjpjgaaGreatDoorW10
import Derived.Test.YtjgdhjpafjpjgaaGreatDoorW12
import Derived.Test.YtjgdhjpafjpjgaaGreatDoorW13
set_option linter.unusedVariables false
set_option linter.unusedSimpArgs false
set_option maxHeartbeats 4000000
set_option maxRecDepth 100000
set_option linter.defProp false
namespace Go.Proofs.YtjgdhjpafjpjgaaGreatDoor
open Go.VM
variable{N n:Nat}{m:MS}{Q:PQ}{args:List AVal}
theorem OE {a0 r} (h:Ew N a0=some r) (ha:args=[.str a0]) (hQ: ∀n',n≤n'→Gl (Q (.tuple [Bz r.1,.int .i64 r.2]) ⟨m,n'⟩)):ACall vE 221 args ⟨m,n⟩ Q:=by
 rw[Ew]at h
 subst ha
 refine ent hQ Tryz.func221 rfl Tryz.ntmps221 Tryz.results221 (.q (.r []) (.q (.r []) (.q (.q (.r []) (.c (.q (.r []) .z) .z)) (.q .z .z)))) fun R hR=>?_
 replace h:=And.intro trivial h
 replace h:=AA h
 obtain⟨y1,h⟩:=h
 simp(disch:=omega) only[vm,seval,h.1]
 refine⟨Zt h.1.1 (by first|(simp(disch:=omega) only[vm,seval,h.1];done)|rfl) fun n2 hn2=>?_⟩
 replace h:=AC h
 rcases h with h|h
 obtain⟨H,h⟩:=h
 cases h
 simp(disch:=omega) only[vm,seval,H]
 refine⟨(hR _ _ _ _ _ _ (by simp(disch:=omega) only[vm,seval,H];rfl) (.cons _ (.cons _ slr)) ?_ (by omega) ?_).1⟩<;>first|(simp(disch:=omega) only[vm,seval,H];done)|rfl
 replace h:=AA h
 obtain⟨y3,h⟩:=h
 have cy3:=h.1.1
 simp(disch:=omega) only[vm,seval,h.1]
 refine⟨BM [] (.take 0 (.take 2 (.take 3 (.alt 1 [3,2] (.alt 4 [2,0] (.alt 5 [] (.alt 6 [] (.done) (.stop)) (.stop)) (.stop)) (.stop))))) A8 (by kernel_rfl) ?_⟩
 simp(disch:=omega) only[vm,seval,h.1]
 refine⟨Tt cy3 (by first|(simp(disch:=omega) only[vm,seval,h.1];done)|rfl) fun n4 hn4=>?_⟩
 obtain⟨H,h⟩:=h
 cases h
 simp(disch:=omega) only[vm,seval,H]
 refine⟨(hR _ _ _ _ _ _ (by simp(disch:=omega) only[vm,seval,H];rfl) (.cons _ (.cons _ slr)) ?_ (by omega) ?_).1⟩<;>first|(simp(disch:=omega) only[vm,seval,H];done)|rfl
theorem OI {a0 r} (h:Eu N a0=some r) (ha:args=[.str a0]) (hQ: ∀n',n≤n'→Gl (Q (.tuple [Bz r.1,.int .i64 r.2]) ⟨m,n'⟩)):ACall vE 222 args ⟨m,n⟩ Q:=by
 rw[Eu]at h
 subst ha
 refine ent hQ Tryz.func222 rfl Tryz.ntmps222 Tryz.results222 (.q (.r []) (.q (.r []) (.q (.q (.r []) (.c (.q (.r []) .z) .z)) (.q .z .z)))) fun R hR=>?_
 replace h:=And.intro trivial h
 replace h:=AA h
 obtain⟨y1,h⟩:=h
 simp(disch:=omega) only[vm,seval,h.1]
 refine⟨AAg h.1.1 (by first|(simp(disch:=omega) only[vm,seval,h.1];done)|rfl) fun n2 hn2=>?_⟩
 replace h:=AC h
 rcases h with h|h
 obtain⟨H,h⟩:=h
 cases h
 simp(disch:=omega) only[vm,seval,H]
 refine⟨(hR _ _ _ _ _ _ (by simp(disch:=omega) only[vm,seval,H];rfl) (.cons _ (.cons _ slr)) ?_ (by omega) ?_).1⟩<;>first|(simp(disch:=omega) only[vm,seval,H];done)|rfl
 replace h:=AA h
 obtain⟨y3,h⟩:=h
 have cy3:=h.1.1
 simp(disch:=omega) only[vm,seval,h.1]
 refine⟨BM [] (.take 0 (.take 2 (.take 3 (.alt 1 [3,2] (.alt 4 [2,0] (.alt 5 [] (.alt 6 [] (.done) (.stop)) (.stop)) (.stop)) (.stop))))) A8 (by kernel_rfl) ?_⟩
 simp(disch:=omega) only[vm,seval,h.1]
 refine⟨UU cy3 (by first|(simp(disch:=omega) only[vm,seval,h.1];done)|rfl) fun n4 hn4=>?_⟩
 obtain⟨H,h⟩:=h
 cases h
 simp(disch:=omega) only[vm,seval,H]
 refine⟨(hR _ _ _ _ _ _ (by simp(disch:=omega) only[vm,seval,H];rfl) (.cons _ (.cons _ slr)) ?_ (by omega) ?_).1⟩<;>first|(simp(disch:=omega) only[vm,seval,H];done)|rfl
theorem NQ {a0 r} (h:Gz N a0=some r) (ha:args=[.str a0]) (hQ: ∀n',n≤n'→Gl (Q (.tuple [Bl r.1,.int .i64 r.2]) ⟨m,n'⟩)):ACall vE 52 args ⟨m,n⟩ Q:=by
 rw[Gz]at h
 subst ha
 refine ent hQ Tryz.func52 rfl Tryz.ntmps52 Tryz.results52 (.q (.r []) (.q (.q (.r []) (.c (.q (.r []) .z) .z)) (.q (.r []) (.q (.q (.r []) (.c (.q (.r []) .z) .z)) (.q (.r []) (.q (.q (.r []) (.c (.q (.r []) .z) .z)) (.q (.r []) (.q (.q (.r []) (.q (.r []) (.c (.q (.r []) .z) .z))) (.q (.q (.r []) (.q (.r []) (.c (.q (.r []) .z) .z))) (.q (.q (.r []) (.q (.r []) (.c (.q (.r []) .z) .z))) .z)))))))))) fun R hR=>?_
 replace h:=And.intro trivial h
 replace h:=AC h
 rcases h with h|h
 obtain⟨H,h⟩:=h
 cases h
 simp(disch:=omega) only[vm,seval,H]
 refine⟨(hR _ _ _ _ _ _ (by simp(disch:=omega) only[vm,seval,H];rfl) (.cons _ slr) ?_ (by omega) ?_).1⟩<;>first|(simp(disch:=omega) only[vm,seval,H];done)|rfl
 replace h:=AA h
 obtain⟨y1,h⟩:=h
 simp(disch:=omega) only[vm,seval,h.1]
 refine⟨AD8 h.1.1 (by first|(simp(disch:=omega) only[vm,seval,h.1];done)|rfl) fun n2 hn2=>?_⟩
 replace h:=AC h
 rcases h with h|h
 obtain⟨H,h⟩:=h
 cases h
 simp(disch:=omega) only[vm,seval,H]
 refine⟨(hR _ _ _ _ _ _ (by simp(disch:=omega) only[vm,seval,H];rfl) (.cons _ (.cons _ slr)) ?_ (by omega) ?_).1⟩<;>first|(simp(disch:=omega) only[vm,seval,H];done)|rfl
 simp(disch:=omega) only[vm,seval,h.1]
 refine⟨AV (γ:=Unit) h [23,24,25,26,27,28,29,30,31] [22] (fun j3 g=>[.bool j3]) (fun j3 g=>(n2,[.str y1.1.scheme,.str y1.1.authority,.str y1.1.path,.str y1.1.query,.str y1.1.fragment,.bool y1.1.hasScheme,.bool y1.1.hasAuthority,.bool y1.1.hasQuery,.bool y1.1.hasFrag])::(n,[.str [],.int .i64 0,.str [],.str [],.str [],.bool false,.bool false])::m) (.r []) ?_ ?_⟩<;>clear h
 rintro j3 _ n6 hnn6 _ _ h
 refine AB (.c (.q (.r []) .z) (.q (.r []) (.c (.q (.r []) .z) (.q (.r []) (.c (.q (.r []) .z) .z))))) ?_
 replace h:=AC h
 rcases h with h|h
 obtain⟨H,h⟩:=h
 cases h
 simp(disch:=omega) only[vm,seval,H]
 refine⟨(hR _ _ _ _ _ _ (by simp(disch:=omega) only[vm,seval,H];rfl) (.cons _ (.cons _ slr)) ?_ (by omega) ?_).1⟩<;>first|(simp(disch:=omega) only[vm,seval,H];done)|rfl
 replace h:=AC h
 rcases h with h|h
 replace h:=AA h
 obtain⟨y9,h⟩:=h
 simp(disch:=omega) only[vm,seval,h.1]
 refine⟨Kt h.1.1 (by first|(simp(disch:=omega) only[vm,seval,h.1];done)|rfl) fun n10 hn10=>?_⟩
 replace h:=AC h
 rcases h with h|h
 obtain⟨H,h⟩:=h
 cases h
 simp(disch:=omega) only[vm,seval,H]
 refine⟨(hR _ _ _ _ _ _ (by simp(disch:=omega) only[vm,seval,H];rfl) (.cons _ (.cons _ slr)) ?_ (by omega) ?_).1⟩<;>first|(simp(disch:=omega) only[vm,seval,H];done)|rfl
 replace h:=AA h
 obtain⟨y11,h⟩:=h
 simp(disch:=omega) only[vm,seval,h.1]
 refine⟨PY h.1.1 (by first|(simp(disch:=omega) only[vm,seval,h.1];done)|rfl) fun n12 hn12=>?_⟩
 replace h:=AC h
 rcases h with h|h
 obtain⟨H,h⟩:=h
 cases h
 simp(disch:=omega) only[vm,seval,H]
 refine⟨(hR _ _ _ _ _ _ (by simp(disch:=omega) only[vm,seval,H];rfl) (.cons _ (.cons _ (.cons _ slr))) ?_ (by omega) ?_).1⟩<;>first|(simp(disch:=omega) only[vm,seval,H];done)|rfl
 replace h:=AA h
 obtain⟨y13,h⟩:=h
 simp(disch:=omega) only[vm,seval,h.1]
 refine⟨EY h.1.1 (by first|(simp(disch:=omega) only[vm,seval,h.1];done)|rfl) fun n14 hn14=>?_⟩
 replace h:=AC h
 rcases h with h|h
 obtain⟨H,h⟩:=h
 cases h
 simp(disch:=omega) only[vm,seval,H]
 refine⟨(hR _ _ _ _ _ _ (by simp(disch:=omega) only[vm,seval,H];rfl) (.cons _ (.cons _ (.cons _ (.cons _ slr)))) ?_ (by omega) ?_).1⟩<;>first|(simp(disch:=omega) only[vm,seval,H];done)|rfl
 replace h:=AA h
 obtain⟨y15,h⟩:=h
 simp(disch:=omega) only[vm,seval,h.1]
 refine⟨EY h.1.1 (by first|(simp(disch:=omega) only[vm,seval,h.1];done)|rfl) fun n16 hn16=>?_⟩
 replace h:=AC h
 rcases h with h|h
 obtain⟨H,h⟩:=h
 cases h
 simp(disch:=omega) only[vm,seval,H]
 refine⟨(hR _ _ _ _ _ _ (by simp(disch:=omega) only[vm,seval,H];rfl) (.cons _ (.cons _ (.cons _ (.cons _ slr)))) ?_ (by omega) ?_).1⟩<;>first|(simp(disch:=omega) only[vm,seval,H];done)|rfl
 replace h:=AA h
 obtain⟨y17,h⟩:=h
 simp(disch:=omega) only[vm,seval,h.1]
 refine⟨EY h.1.1 (by first|(simp(disch:=omega) only[vm,seval,h.1];done)|rfl) fun n18 hn18=>?_⟩
 replace h:=AC h
 rcases h with h|h
 obtain⟨H,h⟩:=h
 cases h
 simp(disch:=omega) only[vm,seval,H]
 refine⟨(hR _ _ _ _ _ _ (by simp(disch:=omega) only[vm,seval,H];rfl) (.cons _ (.cons _ (.cons _ (.cons _ slr)))) ?_ (by omega) ?_).1⟩<;>first|(simp(disch:=omega) only[vm,seval,H];done)|rfl
 simp(disch:=omega) only[vm,seval,h.1]
 refine⟨AV (γ:=Unit) h [95,96,97,98,99,100,101,102] [] (fun j19 g=>[]) (fun j19 g=>((n12+1),[.str y11.1.host,.int .i64 y11.1.port,.str j19,.str y15.1,.str y17.1,.bool y1.1.hasQuery,.bool y1.1.hasFrag])::(n12,[.str y11.1.host,.int .i64 y11.1.port])::(n2,[.str y1.1.scheme,.str y1.1.authority,.str y1.1.path,.str y1.1.query,.str y1.1.fragment,.bool y1.1.hasScheme,.bool y1.1.hasAuthority,.bool y1.1.hasQuery,.bool y1.1.hasFrag])::(n,[.str [],.int .i64 0,.str [],.str [],.str [],.bool false,.bool false])::m) (.q (.r []) (.q (.r []) (.c (.r []) .z))) ?_ ?_⟩<;>clear h
 rintro j19 _ n22 hnn22 _ _ h
 refine AB (.q (.q (.r []) (.c (.q (.r []) .z) .z)) (.q (.r []) .z)) ?_
 replace h:=AA h
 obtain⟨y25,h⟩:=h
 simp(disch:=omega) only[vm,seval,h.1]
 refine⟨GA h.1.1 (by first|(simp(disch:=omega) only[vm,seval,h.1];done)|rfl) fun n26 hn26=>?_⟩
 replace h:=AC h
 rcases h with h|h
 obtain⟨H,h⟩:=h
 cases h
 simp(disch:=omega) only[vm,seval,H]
 refine⟨(hR _ _ _ _ _ _ (by simp(disch:=omega) only[vm,seval,H];rfl) (.cons _ (.cons _ (.cons _ (.cons _ slr)))) ?_ (by omega) ?_).1⟩<;>first|(simp(disch:=omega) only[vm,seval,H];done)|rfl
 obtain⟨H,h⟩:=h
 cases h
 simp(disch:=omega) only[vm,seval,H]
 refine⟨(hR _ _ _ _ _ _ (by simp(disch:=omega) only[vm,seval,H];rfl) (.cons _ (.cons _ (.cons _ (.cons _ slr)))) ?_ (by omega) ?_).1⟩<;>first|(simp(disch:=omega) only[vm,seval,H];done)|rfl
 intro k20 Jk20 hk20 h
 replace h:=AA h
 obtain⟨y23,h⟩:=h
 simp(disch:=omega) only[vm,seval,h.1]
 refine⟨Qe h.1.1 (by first|(simp(disch:=omega) only[vm,seval,h.1];done)|rfl) fun n24 hn24=>?_⟩
 replace h:=AC h
 rcases h with h|h
 simp(disch:=omega) only[vm,seval,h.1]
 refine⟨hk20 ([47]:List UInt8) () _ _ _ _ h.2 slr ?_ ?_ ?_ (by omega)⟩<;>first|(simp(disch:=omega) only[vm,seval,h.1];done)|rfl
 simp(disch:=omega) only[vm,seval,h.1]
 refine⟨hk20 y23 () _ _ _ _ h.2 slr ?_ ?_ ?_ (by omega)⟩<;>first|(simp(disch:=omega) only[vm,seval,h.1];done)|rfl
 obtain⟨H,h⟩:=h
 cases h
 simp(disch:=omega) only[vm,seval,H]
 refine⟨(hR _ _ _ _ _ _ (by simp(disch:=omega) only[vm,seval,H];rfl) (.cons _ (.cons _ slr)) ?_ (by omega) ?_).1⟩<;>first|(simp(disch:=omega) only[vm,seval,H];done)|rfl
 intro k4 Jk4 hk4 h
 replace h:=AC h
 rcases h with h|h
 replace h:=AA h
 obtain⟨y7,h⟩:=h
 simp(disch:=omega) only[vm,seval,h.1]
 refine⟨LU h.1.1 (by first|(simp(disch:=omega) only[vm,seval,h.1];done)|rfl) fun n8 hn8=>?_⟩
 simp(disch:=omega) only[vm,seval,h.1]
 refine⟨hk4 (!y7) () _ _ _ _ h.2 slr ?_ ?_ ?_ (by omega)⟩<;>first|(simp(disch:=omega) only[vm,seval,h.1];done)|rfl
 simp(disch:=omega) only[vm,seval,h.1]
 refine⟨hk4 true () _ _ _ _ h.2 slr ?_ ?_ ?_ (by omega)⟩<;>first|(simp(disch:=omega) only[vm,seval,h.1];done)|rfl
theorem KT {a0 r} (h:Eh N a0=some r) (ha:args=[Dz a0]) (hQ: ∀n',n≤n'→Gl (Q (.tuple [DN r.1,.int .i64 r.2]) ⟨m,n'⟩)):ACall vE 245 args ⟨m,n⟩ Q:=by
 rw[Eh]at h
 subst ha
 refine ent hQ Tryz.func245 rfl Tryz.ntmps245 Tryz.results245 (.q (.r []) (.q (.q (.r []) (.c (.q (.r []) .z) .z)) (.q (.q (.r []) (.q (.r []) (.c (.q (.r []) .z) .z))) (.q (.r []) (.q (.r []) (.q (.q (.r []) (.c (.q (.r []) .z) .z)) (.q (.r []) .z))))))) fun R hR=>?_
 replace h:=And.intro trivial h
 replace h:=AC h
 rcases h with h|h
 replace h:=AA h
 obtain⟨y1,h⟩:=h
 simp(disch:=omega) only[vm,seval,h.1]
 refine⟨Jy h.1.1 (by first|(simp(disch:=omega) only[vm,seval,h.1];done)|rfl) fun n2 hn2=>?_⟩
 replace h:=AA h
 obtain⟨y3,h⟩:=h
 simp(disch:=omega) only[vm,seval,h.1]
 refine⟨NC h.1.1 (by first|(simp(disch:=omega) only[vm,seval,h.1];done)|rfl) fun n4 hn4=>?_⟩
 replace h:=AC h
 rcases h with h|h
 obtain⟨H,h⟩:=h
 cases h
 simp(disch:=omega) only[vm,seval,H]
 refine⟨(hR _ _ _ _ _ _ (by simp(disch:=omega) only[vm,seval,H];rfl) (.cons _ (.cons _ (.cons _ slr))) ?_ (by omega) ?_).1⟩<;>first|(simp(disch:=omega) only[vm,seval,H];done)|rfl
 replace h:=AA h
 obtain⟨y5,h⟩:=h
 simp(disch:=omega) only[vm,seval,h.1]
 refine⟨EK h.1.1 (by first|(simp(disch:=omega) only[vm,seval,h.1];done)|rfl) fun n6 hn6=>?_⟩
 replace h:=AA h
 obtain⟨y7,h⟩:=h
 simp(disch:=omega) only[vm,seval,h.1]
 refine⟨FZ h.1.1 (by first|(simp(disch:=omega) only[vm,seval,h.1];done)|rfl) fun n8 hn8=>?_⟩
 replace h:=AC h
 rcases h with h|h
 obtain⟨H,h⟩:=h
 cases h
 simp(disch:=omega) only[vm,seval,H]
 refine⟨(hR _ _ _ _ _ _ (by simp(disch:=omega) only[vm,seval,H];rfl) (.cons _ (.cons _ (.cons _ slr))) ?_ (by omega) ?_).1⟩<;>first|(simp(disch:=omega) only[vm,seval,H];done)|rfl
 replace h:=AA h
 obtain⟨y9,h⟩:=h
 simp(disch:=omega) only[vm,seval,h.1]
 refine⟨PY h.1.1 (by first|(simp(disch:=omega) only[vm,seval,h.1];done)|rfl) fun n10 hn10=>?_⟩
 obtain⟨H,h⟩:=h
 cases h
 simp(disch:=omega) only[vm,seval,H]
 refine⟨(hR _ _ _ _ _ _ (by simp(disch:=omega) only[vm,seval,H];rfl) (.cons _ (.cons _ (.cons _ slr))) ?_ (by omega) ?_).1⟩<;>first|(simp(disch:=omega) only[vm,seval,H];done)|rfl
 obtain⟨H,h⟩:=h
 cases h
 simp(disch:=omega) only[vm,seval,H]
 refine⟨(hR _ _ _ _ _ _ (by simp(disch:=omega) only[vm,seval,H];rfl) (.cons _ (.cons _ slr)) ?_ (by omega) ?_).1⟩<;>first|(simp(disch:=omega) only[vm,seval,H];done)|rfl
theorem Rb {a0 r} (h:Hq N a0=some r) (ha:args=[Bl a0]) (hQ: ∀n',n≤n'→Gl (Q (.tuple [Dz r.1,.int .i64 r.2]) ⟨m,n'⟩)):ACall vE 189 args ⟨m,n⟩ Q:=by
 rw[Hq]at h
 subst ha
 refine ent hQ Tryz.func189 rfl Tryz.ntmps189 Tryz.results189 (.q (.r []) (.q (.q (.r []) (.c (.q (.r []) .z) .z)) (.q (.r []) (.q .z (.q (.r []) (.q (.q (.r []) (.c (.q (.r []) .z) .z)) (.q (.r []) .z))))))) fun R hR=>?_
 replace h:=And.intro trivial h
 replace h:=AA h
 obtain⟨y1,h⟩:=h
 simp(disch:=omega) only[vm,seval,h.1]
 refine⟨UO h.1.1 (by first|(simp(disch:=omega) only[vm,seval,h.1];done)|rfl) fun n2 hn2=>?_⟩
 replace h:=AC h
 rcases h with h|h
 replace h:=AA h
 obtain⟨y3,h⟩:=h
 simp(disch:=omega) only[vm,seval,h.1]
 refine⟨GD h.1.1 (by first|(simp(disch:=omega) only[vm,seval,h.1];done)|rfl) fun n4 hn4=>?_⟩
 replace h:=AA h
 obtain⟨x5,h⟩:=h
 simp(disch:=omega) only[vm,seval,h.1]
 refine⟨AV (γ:=Unit) h [20,21,22,23,24,25,26,27,28,29,30,31,32,33] [34] (fun j6 g=>[.bool j6]) (fun j6 g=>((n+1),[.str [],.str []])::(n,[.str a0.host,.int .i64 a0.port,.str a0.path,.str a0.query,.str a0.fragment,.bool a0.hasQuery,.bool a0.hasFrag])::m) (.r []) ?_ ?_⟩<;>clear h
 rintro j6 _ n9 hnn9 _ _ h
 refine AB (.c (.q (.r []) .z) .z) ?_
 replace h:=AC h
 rcases h with h|h
 obtain⟨H,h⟩:=h
 cases h
 simp(disch:=omega) only[vm,seval,H]
 refine⟨(hR _ _ _ _ _ _ (by simp(disch:=omega) only[vm,seval,H];rfl) (.cons _ (.cons _ slr)) ?_ (by omega) ?_).1⟩<;>first|(simp(disch:=omega) only[vm,seval,H];done)|rfl
 replace h:=AA h
 obtain⟨x11,h⟩:=h
 replace h:=AC h
 rcases h with h|h
 obtain⟨H,h⟩:=h
 cases h
 simp(disch:=omega) only[vm,seval,H]
 refine⟨(hR _ _ _ _ _ _ (by simp(disch:=omega) only[vm,seval,H];rfl) (.cons _ (.cons _ slr)) ?_ (by omega) ?_).1⟩<;>first|(simp(disch:=omega) only[vm,seval,H];done)|rfl
 simp(disch:=omega) only[vm,seval,h.1]
 refine⟨AV (γ:=Unit) h [47,48,49,50,51,52,53,54,55] [5] (fun j12 g=>[.str j12]) (fun j12 g=>((n+1),[.str [],.str []])::(n,[.str a0.host,.int .i64 a0.port,.str a0.path,.str a0.query,.str a0.fragment,.bool a0.hasQuery,.bool a0.hasFrag])::m) (.q (.r []) (.c (.r []) .z)) ?_ ?_⟩<;>clear h
 rintro j12 _ n15 hnn15 _ _ h
 refine AB .z ?_
 simp(disch:=omega) only[vm,seval,h.1]
 refine⟨AV (γ:=Unit) h [3,7,8,9,10,56,57,58,59,60,61,62,63,64,65,66,67,68,69,70,71,72,73,74,75,76,77,78,79,80,81,82,83,84,85,86,87,88,89,90,91,92,93,94,95,96] [5] (fun j18 g=>[.str j18]) (fun j18 g=>((n+1),[.str [],.str []])::(n,[.str a0.host,.int .i64 a0.port,.str a0.path,.str a0.query,.str a0.fragment,.bool a0.hasQuery,.bool a0.hasFrag])::m) (.q (.r []) .z) ?_ ?_⟩<;>clear h
 rintro j18 _ n21 hnn21 _ _ h
 refine AB (.q (.r []) (.q (.q (.r []) (.c (.q (.r []) .z) .z)) (.q (.r []) .z))) ?_
 replace h:=AA h
 obtain⟨y42,h⟩:=h
 simp(disch:=omega) only[vm,seval,h.1]
 refine⟨Iq h.1.1 (by first|(simp(disch:=omega) only[vm,seval,h.1];done)|rfl) fun n43 hn43=>?_⟩
 replace h:=AC h
 rcases h with h|h
 obtain⟨H,h⟩:=h
 cases h
 simp(disch:=omega) only[vm,seval,H]
 refine⟨(hR _ _ _ _ _ _ (by simp(disch:=omega) only[vm,seval,H];rfl) (.cons _ (.cons _ (.cons _ slr))) ?_ (by omega) ?_).1⟩<;>first|(simp(disch:=omega) only[vm,seval,H];done)|rfl
 obtain⟨H,h⟩:=h
 cases h
 simp(disch:=omega) only[vm,seval,H]
 refine⟨(hR _ _ _ _ _ _ (by simp(disch:=omega) only[vm,seval,H];rfl) (.cons _ (.cons _ (.cons _ slr))) ?_ (by omega) ?_).1⟩<;>first|(simp(disch:=omega) only[vm,seval,H];done)|rfl
 intro k19 Jk19 hk19 h
 replace h:=AR h
 obtain⟨hfk22,h⟩:=h
 simp(disch:=omega) only[vm,seval,h.1]
 refine⟨CB (σ:=(List UInt8)) (γ:=Unit) x11 hfk22 (fun xs i s=>Bq N a0 k19 xs s) (fun i s g=>[.str s,.int .i64 i]) (fun i s g=>((n+1),[.str [],.str []])::(n,[.str a0.host,.int .i64 a0.port,.str a0.path,.str a0.query,.str a0.fragment,.bool a0.hasQuery,.bool a0.hasFrag])::m) [3,7,8,9,10,59,60,61,62,63,64,65,66,67,68,69,70,71,72,73,74,75,76,77,78,79,80,81,82,83,84,85,86,87,88,89,90,91,92,93,94,95,96] [5,58] j12 () h (by first|(simp(disch:=omega) only[vm,seval,h.1];done)|rfl) (by first|(simp(disch:=omega) only[vm,seval,h.1];done)|rfl) ?_ ?_⟩<;>clear h
 rintro s58 s5 _ nL0_1 hnL0_1 _ h
 change _∧Bq N a0 k19 [] s5=_ at h
 rw[Bq]at h
 refine AB (.q (.r []) (.q (.c .z .z) .z)) ?_
 simp(disch:=omega) only[vm,seval,h.1]
 refine⟨hk19 s5 () _ _ _ _ h.2 slr ?_ ?_ ?_ (by omega)⟩<;>first|(simp(disch:=omega) only[vm,seval,h.1];done)|rfl
 rintro xk22 xsk22 s58 s5 _ nL0_1 hnL0_1 _ h Jk22 hk22
 change _∧Bq N a0 k19 (xk22::xsk22) s5=_ at h
 rw[Bq]at h
 refine AB (.q (.r []) (.q (.c .z .z) .z)) ?_
 simp(disch:=omega) only[vm,seval,h.1]
 refine⟨AV (γ:=Unit) h [3,7,8,9,10,60,61,62,63,64,65,66,67,68,69,70,71,72,73,74,75,76,77,78,79,80,81,82,83,84,85,86,87,88,89,90,91,92,93,94,95] [5] (fun j23 g=>[.str j23]) (fun j23 g=>((n+1),[.str [],.str []])::(n,[.str a0.host,.int .i64 a0.port,.str a0.path,.str a0.query,.str a0.fragment,.bool a0.hasQuery,.bool a0.hasFrag])::m) (.q (.r []) .z) ?_ ?_⟩<;>clear h
 rintro j23 _ n26 hnn26 _ _ h
 refine AB (.r []) ?_
 simp(disch:=omega) only[vm,seval,h.1]
 refine⟨hk22 j23 () _ _ _ _ h.2 slr ?_ ?_ ?_ (by omega)⟩<;>first|(simp(disch:=omega) only[vm,seval,h.1];done)|rfl
 intro k24 Jk24 hk24 h
 simp(disch:=omega) only[vm,seval,h.1]
 refine⟨AV (γ:=Unit) h [3,8,62,63,64,65,66,67,68,69,70,71,72,73,74,75,76,77,78,79] [] (fun j27 g=>[]) (fun j27 g=>((n+1),[.str [],.str []])::(n,[.str a0.host,.int .i64 a0.port,.str a0.path,.str a0.query,.str a0.fragment,.bool a0.hasQuery,.bool a0.hasFrag])::m) (.q (.r []) .z) ?_ ?_⟩<;>clear h
 rintro j27 _ n30 hnn30 _ _ h
 refine AB (.q (.r []) (.q (.q (.r []) (.c (.q (.r []) .z) .z)) (.q (.r []) (.c (.r []) .z)))) ?_
 replace h:=AA h
 obtain⟨y38,h⟩:=h
 simp(disch:=omega) only[vm,seval,h.1]
 refine⟨FM h.1.1 (by first|(simp(disch:=omega) only[vm,seval,h.1];done)|rfl) fun n39 hn39=>?_⟩
 replace h:=AC h
 rcases h with h|h
 obtain⟨H,h⟩:=h
 cases h
 simp(disch:=omega) only[vm,seval,H]
 refine⟨(hR _ _ _ _ _ _ (by simp(disch:=omega) only[vm,seval,H];rfl) (.cons _ (.cons _ slr)) ?_ (by omega) ?_).1⟩<;>first|(simp(disch:=omega) only[vm,seval,H];done)|rfl
 replace h:=AC h
 rcases h with h|h
 simp(disch:=omega) only[vm,seval,h.1]
 refine⟨hk24 s5 () _ _ _ _ h.2 slr ?_ ?_ ?_ (by omega)⟩<;>first|(simp(disch:=omega) only[vm,seval,h.1];done)|rfl
 replace h:=AA h
 obtain⟨y40,h⟩:=h
 simp(disch:=omega) only[vm,seval,h.1]
 refine⟨Mo h.1.1 (by first|(simp(disch:=omega) only[vm,seval,h.1];done)|rfl) fun n41 hn41=>?_⟩
 replace h:=AR h
 obtain⟨c,h⟩:=h
 try simp only[liE,seval]at c
 replace h:=AO c h
 replace h:=AR h
 obtain⟨c,h⟩:=h
 try simp only[liE,seval]at c
 replace h:=AO c h
 simp(disch:=omega) only[vm,seval,h.1]
 refine⟨hk24 (s5++(([58]:List UInt8)++y40)) () _ _ _ _ h.2 slr ?_ ?_ ?_ (by omega)⟩<;>first|(simp(disch:=omega) only[vm,seval,h.1];done)|rfl
 intro k28 Jk28 hk28 h
 replace h:=AR h
 obtain⟨hfk31,h⟩:=h
 simp(disch:=omega) only[vm,seval,h.1]
 refine⟨CB (σ:=Unit) (γ:=Unit) xk22 hfk31 (fun xs i s=>CS N k28 xs) (fun i s g=>[.int .i64 i]) (fun i s g=>((n+1),[.str [],.str []])::(n,[.str a0.host,.int .i64 a0.port,.str a0.path,.str a0.query,.str a0.fragment,.bool a0.hasQuery,.bool a0.hasFrag])::m) [3,62,63,64,65,66,67,68,69,70,71,72,73,74,75,76,77,78,79] [8] () () h (by first|(simp(disch:=omega) only[vm,seval,h.1];done)|rfl) (by first|(simp(disch:=omega) only[vm,seval,h.1];done)|rfl) ?_ ?_⟩<;>clear h
 rintro s8 _ _ nL1_2 hnL1_2 _ h
 change _∧CS N k28 []=_ at h
 rw[CS]at h
 refine AB (.q (.q (.r []) (.c .z .z)) (.q .z (.r []))) ?_
 simp(disch:=omega) only[vm,seval,h.1]
 refine⟨hk28 () () _ _ _ _ h.2 slr ?_ ?_ ?_ (by omega)⟩<;>first|(simp(disch:=omega) only[vm,seval,h.1];done)|rfl
 rintro xk31 xsk31 s8 _ _ nL1_2 hnL1_2 _ h Jk31 hk31
 change _∧CS N k28 (xk31::xsk31)=_ at h
 rw[CS]at h
 refine AB (.q (.q (.r []) (.c .z .z)) (.q .z (.r []))) ?_
 simp(disch:=omega) only[vm,seval,h.1]
 refine⟨AV (γ:=Unit) h [68,69,70,71,72,73,74,75,76,77] [78] (fun j32 g=>[.bool j32]) (fun j32 g=>((n+1),[.str [],.str []])::(n,[.str a0.host,.int .i64 a0.port,.str a0.path,.str a0.query,.str a0.fragment,.bool a0.hasQuery,.bool a0.hasFrag])::m) (.r []) ?_ ?_⟩<;>clear h
 rintro j32 _ n35 hnn35 _ _ h
 refine AB (.c (.q (.r []) .z) .z) ?_
 replace h:=AC h
 rcases h with h|h
 obtain⟨H,h⟩:=h
 cases h
 simp(disch:=omega) only[vm,seval,H]
 refine⟨(hR _ _ _ _ _ _ (by simp(disch:=omega) only[vm,seval,H];rfl) (.cons _ (.cons _ slr)) ?_ (by omega) ?_).1⟩<;>first|(simp(disch:=omega) only[vm,seval,H];done)|rfl
 simp(disch:=omega) only[vm,seval,h.1]
 refine⟨hk31 () () _ _ _ _ h.2 slr ?_ ?_ ?_ (by omega)⟩<;>first|(simp(disch:=omega) only[vm,seval,h.1];done)|rfl
 intro k33 Jk33 hk33 h
 replace h:=AA h
 obtain⟨y36,h⟩:=h
 simp(disch:=omega) only[vm,seval,h.1]
 refine⟨EL h.1.1 (by first|(simp(disch:=omega) only[vm,seval,h.1];done)|rfl) fun n37 hn37=>?_⟩
 replace h:=AC h
 rcases h with h|h
 simp(disch:=omega) only[vm,seval,h.1]
 refine⟨hk33 false () _ _ _ _ h.2 slr ?_ ?_ ?_ (by omega)⟩<;>first|(simp(disch:=omega) only[vm,seval,h.1];done)|rfl
 simp(disch:=omega) only[vm,seval,h.1]
 refine⟨hk33 ((AJ xk31) !=37) () _ _ _ _ h.2 slr ?_ ?_ ?_ (by omega)⟩<;>first|(simp(disch:=omega) only[vm,seval,h.1];done)|rfl
 intro k13 Jk13 hk13 h
 replace h:=AC h
 rcases h with h|h
 replace h:=AA h
 obtain⟨y16,h⟩:=h
 simp(disch:=omega) only[vm,seval,h.1]
 refine⟨Mf h.1.1 (by first|(simp(disch:=omega) only[vm,seval,h.1];done)|rfl) fun n17 hn17=>?_⟩
 replace h:=AR h
 obtain⟨c,h⟩:=h
 try simp only[liE,seval]at c
 replace h:=AO c h
 replace h:=AR h
 obtain⟨c,h⟩:=h
 try simp only[liE,seval]at c
 replace h:=AO c h
 simp(disch:=omega) only[vm,seval,h.1]
 refine⟨hk13 (a0.host++(([37,51,65]:List UInt8)++y16)) () _ _ _ _ h.2 slr ?_ ?_ ?_ (by omega)⟩<;>first|(simp(disch:=omega) only[vm,seval,h.1];done)|rfl
 simp(disch:=omega) only[vm,seval,h.1]
 refine⟨hk13 a0.host () _ _ _ _ h.2 slr ?_ ?_ ?_ (by omega)⟩<;>first|(simp(disch:=omega) only[vm,seval,h.1];done)|rfl
 intro k7 Jk7 hk7 h
 replace h:=AC h
 rcases h with h|h
 simp(disch:=omega) only[vm,seval,h.1]
 refine⟨hk7 true () _ _ _ _ h.2 slr ?_ ?_ ?_ (by omega)⟩<;>first|(simp(disch:=omega) only[vm,seval,h.1];done)|rfl
 replace h:=AC h
 rcases h with h|h
 simp(disch:=omega) only[vm,seval,h.1]
 refine⟨hk7 true () _ _ _ _ h.2 slr ?_ ?_ ?_ (by omega)⟩<;>first|(simp(disch:=omega) only[vm,seval,h.1];done)|rfl
 replace h:=AA h
 obtain⟨x10,h⟩:=h
 simp(disch:=omega) only[vm,seval,h.1]
 refine⟨hk7 (!(x10==([100,105,100,46,106,115,111,110]:List UInt8))) () _ _ _ _ h.2 slr ?_ ?_ ?_ (by omega)⟩<;>first|(simp(disch:=omega) only[vm,seval,h.1];done)|rfl
 obtain⟨H,h⟩:=h
 cases h
 simp(disch:=omega) only[vm,seval,H]
 refine⟨(hR _ _ _ _ _ _ (by simp(disch:=omega) only[vm,seval,H];rfl) (.cons _ (.cons _ slr)) ?_ (by omega) ?_).1⟩<;>first|(simp(disch:=omega) only[vm,seval,H];done)|rfl
end Go.Proofs.YtjgdhjpafjpjgaaGreatDoor
