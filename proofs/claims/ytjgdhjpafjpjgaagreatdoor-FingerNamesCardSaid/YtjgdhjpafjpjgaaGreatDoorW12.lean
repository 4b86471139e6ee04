import Derived.Test.YtjgdhjpafjpjgaaGreatDoorVmFacts
import Derived.Test.YtjgdhjpafjpjgaaGreatDoorDefs
import Derived.Test.YtjgdhjpafjpjgaaGreatDoorVM2
import Derived.Test.YtjgdhjpafjpjgaaGreatDoorW0
import Derived.Test.YtjgdhjpafjpjgaaGreatDoorW1
import Derived.Test.YtjgdhjpafjpjgaaGreatDoorW2
import Derived.Test.YtjgdhjpafjpjgaaGreatDoorW4
import Derived.Test.YtjgdhjpafjpjgaaGreatDoorW5
import Derived.Test.YtjgdhjpafjpjgaaGreatDoorW6
import Derived.Test.YtjgdhjpafjpjgaaGreatDoorW8
import Derived.Test.YtjgdhjpafjpjgaaGreatDoorW9
import Derived.Test.YtjgdhjpafjpjgaaGreatDoorW11
set_option linter.unusedVariables false
set_option linter.unusedSimpArgs false
set_option maxHeartbeats 4000000
set_option maxRecDepth 100000
set_option linter.defProp false
namespace Go.Proofs.YtjgdhjpafjpjgaaGreatDoor
open Go.VM
variable{N n:Nat}{m:MS}{Q:PQ}{args:List AVal}
theorem NQ {a0 r} (h:Jk N a0=some r) (ha:args=[.str a0]) (hQ: ∀n',n≤n'→Gl (Q (.tuple [.str r.1,.int .i64 r.2]) ⟨m,n'⟩)):ACall vE 162 args ⟨m,n⟩ Q:=by
 rw[Jk]at h
 subst ha
 refine ent hQ Tryz.func162 rfl Tryz.ntmps162 Tryz.results162 (.q (.r []) (.q (.q (.r []) (.c (.q (.r []) .z) (.q (.r []) (.c (.q (.r []) .z) .z)))) (.q (.r []) .z))) fun R hR=>?_
 replace h:=And.intro trivial h
 rcases AC h with h|h
 exact tR
 rcases AC h with h|h
 exact tR
 simp(disch:=omega) only[vm,seval,h.1]
 refine⟨AQ (γ:=Unit) h [12,13,14,15,16,17,18,19] [11] (fun j1 g=>[.bool j1]) (fun j1 g=>m) (.r []) ?_ ?_⟩<;>clear h
 rintro j1 _ n4 hnn4 _ _ h
 refine AB (.c (.q (.r []) .z) .z) ?_
 rcases AC h with h|h
 exact tR
 obtain⟨y9,h⟩:=AA h
 simp(disch:=omega) only[vm,seval,h.1]
 refine⟨Ju h.1.1 tD fun n10 hn10=>?_⟩
 exact tR
 intro k2 Jk2 hk2 h
 obtain⟨y5,h⟩:=AA h
 simp(disch:=omega) only[vm,seval,h.1]
 refine⟨O1 h.1.1 tD fun n6 hn6=>?_⟩
 rcases AC h with h|h
 exact tJ (hk2 false ())
 obtain⟨y7,h⟩:=AA h
 simp(disch:=omega) only[vm,seval,h.1]
 refine⟨AFL h.1.1 tD fun n8 hn8=>?_⟩
 exact tJ (hk2 (!y7) ())
theorem OD {a0 r} (h:Hl N a0=some r) (ha:args=[.str a0]) (hQ: ∀n',n≤n'→Gl (Q (.tuple [EF r.1,.int .i64 r.2]) ⟨m,n'⟩)):ACall vE 97 args ⟨m,n⟩ Q:=by
 rw[Hl]at h
 subst ha
 refine ent hQ Tryz.func97 rfl Tryz.ntmps97 Tryz.results97 (.q (.r []) (.q (.q (.r []) (.c (.q (.r []) .z) .z)) (.q (.r []) (.q (.q (.r []) (.c (.q (.r []) .z) .z)) (.q (.r []) (.q (.q (.r []) (.c (.q (.r []) .z) (.q (.r []) (.c (.q (.r []) .z) .z)))) (.q (.r []) (.q (.q (.r []) (.c (.q (.r []) .z) .z)) (.q (.r []) .z))))))))) fun R hR=>?_
 replace h:=And.intro trivial h
 rcases AC h with h|h
 exact tR
 obtain⟨y1,h⟩:=AA h
 simp(disch:=omega) only[vm,seval,h.1]
 refine⟨KS h.1.1 tD fun n2 hn2=>?_⟩
 rcases AC h with h|h
 obtain⟨y3,h⟩:=AA h
 simp(disch:=omega) only[vm,seval,h.1]
 refine⟨ET h.1.1 tD fun n4 hn4=>?_⟩
 rcases AC h with h|h
 obtain⟨y5,h⟩:=AA h
 simp(disch:=omega) only[vm,seval,h.1]
 refine⟨XE h.1.1 tD fun n6 hn6=>?_⟩
 rcases AC h with h|h
 obtain⟨y7,h⟩:=AA h
 simp(disch:=omega) only[vm,seval,h.1]
 refine⟨SC h.1.1 tD fun n8 hn8=>?_⟩
 rcases AC h with h|h
 exact tR
 simp(disch:=omega) only[vm,seval,h.1]
 refine⟨AQ (γ:=Unit) h [47,48,49,50,51,52] [46] (fun j9 g=>[.bool j9]) (fun j9 g=>(n,[.str [],.str []])::m) (.r []) ?_ ?_⟩<;>clear h
 rintro j9 _ n12 hnn12 _ _ h
 refine AB (.c (.q (.r []) .z) .z) ?_
 rcases AC h with h|h
 exact tR
 exact tR
 intro k10 Jk10 hk10 h
 rcases AC h with h|h
 exact tJ (hk10 true ())
 obtain⟨y13,h⟩:=AA h
 simp(disch:=omega) only[vm,seval,h.1]
 refine⟨Oo h.1.1 tD fun n14 hn14=>?_⟩
 exact tJ (hk10 y13 ())
 exact tR
 exact tR
 exact tR
theorem I5 {a0 b1_0 r}{i1_0:Nat} (h:BQ N a0 b1_0=some r) (ha:args=[.slice 1 (List.map AVal.str a0) false,.fn (.func 268) [.ptr i1_0 0] []]) (hi1_0:Bo m i1_0=some ([.int .i64 b1_0.e])) (hQ: ∀n',n≤n'→Gl (Q (.str r.1) ⟨CJ m i1_0 ([.int .i64 r.2.e]),n'⟩)):ACall vE 266 args ⟨m,n⟩ Q:=by
 rw[BQ]at h
 subst ha
 refine ACall.front hi1_0 fun hin=>ent (fun n' k=>⟨_,rfl,(hQ n' k).go⟩) Tryz.func266 rfl Tryz.ntmps266 Tryz.results266 (.q (.r []) (.q (.r []) .z)) fun R hR=>?_
 replace h:=And.intro trivial h
 simp(disch:=omega) only[vm,seval,h.1]
 refine⟨AQ (γ:=Unit) h [7,8,9,10,11,12,13,14,15,16,17,18] [] (fun j1 g=>[]) (fun j1 g=>(n,[H7 n 196 2 j1.1,.buf 5 j1.2.1 true])::(i1_0,[.int .i64 j1.2.2.e])::DW m i1_0) (.q (.r []) .z) ?_ ?_⟩<;>clear h
 rintro j1 _ n4 hnn4 _ _ h
 refine AB (.q (.r []) .z) ?_
 obtain⟨y10,h⟩:=AA h
 simp(disch:=omega) only[vm,seval,h.1]
 refine⟨FY h.1.1 tD (i0:=n) (by simp(disch:=omega) only[vm,seval,h.1]) fun n11 hn11=>?_⟩
 exact tR
 intro k2 Jk2 hk2 h
 obtain⟨hfk5,h⟩:=AR h
 simp(disch:=omega) only[vm,seval,h.1]
 refine⟨BM (σ:=Bool×(List UInt8)×DidwebMapper) (γ:=Unit) a0 hfk5 (fun xs i s=>Ac N k2 xs s.1 s.2.1 s.2.2) (fun i s g=>[.int .i64 i]) (fun i s g=>(n,[H7 n 196 2 s.1,.buf 5 s.2.1 true])::(i1_0,[.int .i64 s.2.2.e])::DW m i1_0) [7,11,12,13,14,15,16,17,18] [10] (false,[],b1_0) () h tD tD ?_ ?_⟩<;>clear h
 rintro s10 ⟨bn_addr,bn_buf,bi1_0⟩ _ nL0_1 hnL0_1 _ h
 change _∧Ac N k2 [] bn_addr bn_buf bi1_0=_ at h
 rw[Ac]at h
 refine AB (.q (.r []) (.q (.c .z .z) (.q (.q (.r []) (.r [])) (.r [])))) ?_
 exact tJ (hk2 (bn_addr,bn_buf,bi1_0) ())
 rintro xk5 xsk5 s10 ⟨bn_addr,bn_buf,bi1_0⟩ _ nL0_1 hnL0_1 _ h Jk5 hk5
 change _∧Ac N k2 (xk5::xsk5) bn_addr bn_buf bi1_0=_ at h
 rw[Ac]at h
 refine AB (.q (.r []) (.q (.c .z .z) (.q (.q (.r []) (.r [])) (.r [])))) ?_
 obtain⟨y6,h⟩:=AA h
 simp(disch:=omega) only[vm,seval,h.1]
 refine⟨Nn h.1.1 tD (i0:=i1_0) (by simp(disch:=omega) only[vm,seval,h.1]) fun n7 hn7=>?_⟩
 obtain⟨y8,h⟩:=AA h
 simp(disch:=omega) only[vm,seval,h.1]
 refine⟨BB h.1.1 tD (i0:=n) (by simp(disch:=omega) only[vm,seval,h.1]) fun n9 hn9=>?_⟩
 exact tJ (hk5 (y8.2.2.addr,y8.2.2.buf,y6.2) ())
theorem O7 {a0 r} (h:Ic N a0=some r) (ha:args=[.str a0]) (hQ: ∀n',n≤n'→Gl (Q (.tuple [Dt r.1,.int .i64 r.2]) ⟨m,n'⟩)):ACall vE 120 args ⟨m,n⟩ Q:=by
 rw[Ic]at h
 subst ha
 refine ent hQ Tryz.func120 rfl Tryz.ntmps120 Tryz.results120 (.q (.r []) (.q (.q (.r []) (.c (.q (.r []) .z) .z)) (.q (.r []) (.q (.q (.r []) (.c (.q (.r []) .z) .z)) (.q .z (.q (.r []) (.q (.q (.r []) (.c (.q (.r []) .z) .z)) (.q (.r []) (.q (.q (.r []) (.c (.q (.r []) .z) .z)) (.q (.r []) (.q (.q (.r []) (.c (.q (.r []) .z) .z)) (.q (.r []) (.q (.q (.r []) (.c (.q (.r []) .z) .z)) .z))))))))))))) fun R hR=>?_
 replace h:=And.intro trivial h
 rcases AC h with h|h
 exact tR
 obtain⟨y1,h⟩:=AA h
 simp(disch:=omega) only[vm,seval,h.1]
 refine⟨U6 h.1.1 tD fun n2 hn2=>?_⟩
 rcases AC h with h|h
 exact tR
 simp(disch:=omega) only[vm,seval,h.1]
 refine⟨AQ (γ:=Unit) h [25,26,27,28,29,30,31,32,33] [24] (fun j3 g=>[.bool j3]) (fun j3 g=>(n2,[.str y1.1.scheme,.str y1.1.authority,.str y1.1.path,.str y1.1.query,.str y1.1.fragment,.bool y1.1.hasScheme,.bool y1.1.hasAuthority,.bool y1.1.hasQuery,.bool y1.1.hasFrag])::(n,[.str [],.int .i64 0,.str [],.str [],.str [],.bool false,.bool false])::m) (.r []) ?_ ?_⟩<;>clear h
 rintro j3 _ n6 hnn6 _ _ h
 refine AB (.c (.q (.r []) .z) (.q (.r []) (.c (.q (.r []) .z) (.q .z (.c (.q (.r []) .z) .z))))) ?_
 rcases AC h with h|h
 exact tR
 rcases AC h with h|h
 obtain⟨y9,h⟩:=AA h
 have cy9:=h.1.1
 simp(disch:=omega) only[vm,seval,h.1]
 refine⟨BI [] (.take 0 (.take 1 (.take 3 (.take 4 (.take 5 (.alt 2 [5,4,3,0] (.take 6 (.alt 7 [5,4,3,1,0] (.done) (.stop))) (.stop))))))) Au (by kernel_rfl) ?_⟩
 simp(disch:=omega) only[vm,seval,h.1]
 refine⟨Cq cy9 tD fun n10 hn10=>?_⟩
 rcases AC h with h|h
 exact tR
 obtain⟨y11,h⟩:=AA h
 simp(disch:=omega) only[vm,seval,h.1]
 refine⟨Oz h.1.1 tD fun n12 hn12=>?_⟩
 rcases AC h with h|h
 exact tR
 obtain⟨y13,h⟩:=AA h
 simp(disch:=omega) only[vm,seval,h.1]
 refine⟨Gn h.1.1 tD fun n14 hn14=>?_⟩
 rcases AC h with h|h
 exact tR
 obtain⟨y15,h⟩:=AA h
 simp(disch:=omega) only[vm,seval,h.1]
 refine⟨Gn h.1.1 tD fun n16 hn16=>?_⟩
 rcases AC h with h|h
 exact tR
 obtain⟨y17,h⟩:=AA h
 simp(disch:=omega) only[vm,seval,h.1]
 refine⟨Gn h.1.1 tD fun n18 hn18=>?_⟩
 rcases AC h with h|h
 exact tR
 simp(disch:=omega) only[vm,seval,h.1]
 refine⟨AQ (γ:=Unit) h [89,90,91,92] [7] (fun j19 g=>[.str j19]) (fun j19 g=>(n12,[.str y11.1.host,.int .i64 y11.1.port])::(n2,[.str y1.1.scheme,.str y1.1.authority,.str y1.1.path,.str y1.1.query,.str y1.1.fragment,.bool y1.1.hasScheme,.bool y1.1.hasAuthority,.bool y1.1.hasQuery,.bool y1.1.hasFrag])::(n,[.str [],.int .i64 0,.str [],.str [],.str [],.bool false,.bool false])::m) (.q (.r []) (.q (.r []) (.c (.r []) .z))) ?_ ?_⟩<;>clear h
 rintro j19 _ n22 hnn22 _ _ h
 refine AB (.q (.r []) (.q (.q (.r []) (.c (.q (.r []) .z) .z)) (.q (.r []) .z))) ?_
 obtain⟨y25,h⟩:=AA h
 simp(disch:=omega) only[vm,seval,h.1]
 refine⟨G7 h.1.1 tD fun n26 hn26=>?_⟩
 rcases AC h with h|h
 exact tR
 exact tR
 intro k20 Jk20 hk20 h
 obtain⟨y23,h⟩:=AA h
 simp(disch:=omega) only[vm,seval,h.1]
 refine⟨PY h.1.1 tD fun n24 hn24=>?_⟩
 rcases AC h with h|h
 exact tJ (hk20 ([47]:List UInt8) ())
 exact tJ (hk20 y23 ())
 exact tR
 intro k4 Jk4 hk4 h
 rcases AC h with h|h
 obtain⟨y7,h⟩:=AA h
 simp(disch:=omega) only[vm,seval,h.1]
 refine⟨Lp h.1.1 tD fun n8 hn8=>?_⟩
 exact tJ (hk4 (!y7) ())
 exact tJ (hk4 true ())
theorem PI {a0 r} (h:Im N a0=some r) (ha:args=[EF a0]) (hQ: ∀n',n≤n'→Gl (Q (.tuple [.slice 1 (List.map AVal.str r.1) false,DY r.2.1,.int .i64 r.2.2]) ⟨m,n'⟩)):ACall vE 190 args ⟨m,n⟩ Q:=by
 rw[Im]at h
 subst ha
 refine AUq hQ Tryz.func190 rfl Tryz.ntmps190 Tryz.results190 (.q (.r []) (.q (.q (.r []) (.c (.q (.r []) .z) .z)) (.q (.q (.r []) (.q (.r []) (.c (.q (.r []) .z) .z))) (.q (.r []) (.q (.r []) (.q (.r []) (.q .z .z))))))) fun R hR=>?_
 replace h:=And.intro trivial h
 rcases AC h with h|h
 obtain⟨y1,h⟩:=AA h
 simp(disch:=omega) only[vm,seval,h.1]
 refine⟨JE h.1.1 tD fun n2 hn2=>?_⟩
 obtain⟨y3,h⟩:=AA h
 simp(disch:=omega) only[vm,seval,h.1]
 refine⟨MC h.1.1 tD fun n4 hn4=>?_⟩
 rcases AC h with h|h
 exact tR
 obtain⟨y5,h⟩:=AA h
 simp(disch:=omega) only[vm,seval,h.1]
 refine⟨Gb h.1.1 tD fun n6 hn6=>?_⟩
 obtain⟨x7,h⟩:=AA h
 obtain⟨y8,h⟩:=AA h
 simp(disch:=omega) only[vm,seval,h.1]
 refine⟨Fv h.1.1 tD fun n9 hn9=>?_⟩
 obtain⟨y10,h⟩:=AA h
 simp(disch:=omega) only[vm,seval,h.1]
 refine⟨Oz h.1.1 tD fun n11 hn11=>?_⟩
 simp(disch:=omega) only[vm,seval,h.1]
 refine⟨BI [] (.take 0 (.take 1 (.take 2 (.alt 3 [2,1] (.alt 4 [2] (.alt 5 [] (.done) (.stop)) (.stop)) (.stop))))) Au (by kernel_rfl) ?_⟩
 exact tR
 exact tR
end Go.Proofs.YtjgdhjpafjpjgaaGreatDoor
