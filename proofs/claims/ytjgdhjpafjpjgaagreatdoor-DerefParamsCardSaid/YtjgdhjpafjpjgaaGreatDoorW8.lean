import Derived.Test.YtjgdhjpafjpjgaaGreatDoorVmFacts
import Derived.Test.YtjgdhjpafjpjgaaGreatDoorDefs
import Derived.Test.YtjgdhjpafjpjgaaGreatDoorVM2
import Derived.Test.YtjgdhjpafjpjgaaGreatDoorW1
import Derived.Test.YtjgdhjpafjpjgaaGreatDoorW2
import Derived.Test.YtjgdhjpafjpjgaaGreatDoorW3
import Derived.Test.YtjgdhjpafjpjgaaGreatDoorW4
import Derived.Test.YtjgdhjpafjpjgaaGreatDoorW5
import Derived.Test.YtjgdhjpafjpjgaaGreatDoorW6
import Derived.Test.YtjgdhjpafjpjgaaGreatDoorVM5
set_option linter.unusedVariables false
set_option linter.unusedSimpArgs false
set_option maxHeartbeats 4000000
set_option maxRecDepth 100000
set_option linter.defProp false
namespace Go.Proofs.YtjgdhjpafjpjgaaGreatDoor
open Go.VM
variable{N n:Nat}{m:MS}{Q:PQ}{args:List AVal}
theorem Ky {a0 a1 a2 a3 r} (h:strings_genSplit N a0 a1 a2 a3=some r) (ha:args=[.str a0,.str a1,.int .i64 a2,.int .i64 a3]) (hQ: ∀n',n≤n'→Gl (Q (.slice 1 (List.map AVal.str r) false) ⟨m,n'⟩)):ACall vE 251 args ⟨m,n⟩ Q:=by
 rw[strings_genSplit]at h
 subst ha
 refine ACall.give (ALA Tryz.func251 rfl Tryz.ntmps251 Tryz.results251 (.q (.r []) (.q (.q (.r []) (.c (.q (.r []) .z) .z)) (.q (.q (.r []) (.c (.q (.r []) .z) .z)) .z))) (fun R hR=>?_))
 replace h:=And.intro trivial h
 rcases AC h with h|h
 cases h.2
 rcases AC h with h|h
 obtain⟨y1,h⟩:=AA h
 simp(disch:=omega) only[vm,seval,h.1]
 refine⟨Lt h.1.1 tD fun n2 hn2=>?_⟩
 cases h.2
 simp(disch:=omega) only[vm,seval,h.1]
 refine⟨AP (γ:=Unit) h [19,20,21,22,23,24] [3] (fun j3 g=>[.int .i64 j3]) (fun j3 g=>m) (.q (.r []) (.c (.r []) .z)) ?_ ?_⟩<;>clear h
 rintro j3 _ n6 hnn6 _ _ h
 refine AB (.q (.r []) (.q (.r []) (.q (.r []) (.q (.r []) .z)))) ?_
 obtain⟨c,h⟩:=AU h
 try simp only[liE,seval]at c
 replace h:=AQ c h
 simp(disch:=omega) only[vm,seval,h.1]
 refine⟨AP (γ:=Unit) h [11,34,35,36,37,38,39,40,41,42,43,44,45,46,47,48,49,50,51,52,53,54,55,56,57] [0,10] (fun j9 g=>[.str j9.1,.int .i64 j9.2.1]) (fun j9 g=>(n6,List.map AVal.str j9.2.2)::m) .z ?_ ?_⟩<;>clear h
 rintro j9 _ n12 hnn12 _ _ h
 refine AB (.q (.r []) (.q (.r []) .z)) ?_
 obtain⟨c,h⟩:=AU h
 try simp only[liE,seval]at c
 replace h:=AQ c h
 obtain⟨c,h⟩:=AU h
 try simp only[liE,seval]at c
 replace h:=AQ c h
 obtain⟨c,h⟩:=AU h
 try simp only[liE,seval]at c
 replace h:=AQ c h
 obtain⟨cg,h⟩:=AU h
 obtain⟨H,h⟩:=h
 cases h
 simp(disch:=omega) only[vm,seval,H]
 refine⟨(hR _ _ _ _ _ _ (by simp(disch:=omega) only[vm,seval,H];rfl) slr (by omega) ⟨[_],_,_,rfl,ADt (l:=(j9.2.2.set j9.2.1.toNat j9.1)) (by simpa only[List.length_set]using cg),rfl,(hQ _ (by first|omega|(dsimp only;omega))).go⟩).1⟩
 intro k10 Jk10 hk10 h
 obtain⟨hfk13,h⟩:=AU h
 simp(disch:=omega) only[vm,seval,h.1]
 refine⟨ML (σ:=(List UInt8)×(List (List UInt8))) (γ:=Unit) 0 (wr .i64 ((if(wr .i64 ((a0.length:Int)+1))<j3 then(wr .i64 ((a0.length:Int)+1))else j3)-1)) hfk13 (fun xs i s=>Bu N a0 a1 a2 j3 k10 xs i s.1 s.2) (fun i s g=>[.str s.1,.int .i64 i]) (fun i s g=>(n6,List.map AVal.str s.2)::m) [11,34,35,36,37,38,39,40,41,42,43,44,45,46,47,48,49,50,51,52,53,54,55,56,57] [0,10] (a0,(List.replicate (if(wr .i64 ((a0.length:Int)+1))<j3 then(wr .i64 ((a0.length:Int)+1))else j3).toNat ([]:List UInt8))) () h tD tD ?_ ?_⟩<;>clear h
 rintro s10 ⟨s0,bn6⟩ _ nL0_1 hnL0_1 _ h
 change _∧Bu N a0 a1 a2 j3 k10 0 s10 s0 bn6=_ at h
 rw[Bu]at h
 refine AB (.q (.q (.r []) (.c .z .z)) (.q (.r []) (.q (.q (.r []) (.c .z .z)) (.q (.r []) (.q (.r []) (.r [])))))) ?_
 exact tJ (hk10 (s0,s10,bn6) ())
 rintro xsk13 s10 ⟨s0,bn6⟩ _ nL0_1 hnL0_1 _ h Jk13 hk13
 change _∧Bu N a0 a1 a2 j3 k10 (xsk13+1) s10 s0 bn6=_ at h
 rw[Bu]at h
 refine AB (.q (.q (.r []) (.c .z .z)) (.q (.r []) (.q (.q (.r []) (.c .z .z)) (.q (.r []) (.q (.r []) (.r [])))))) ?_
 obtain⟨y14,h⟩:=AA h
 simp(disch:=omega) only[vm,seval,h.1]
 refine⟨FZ h.1.1 tD fun n15 hn15=>?_⟩
 rcases AC h with h|h
 exact tJ (hk10 (s0,s10,bn6) ())
 obtain⟨x16,h⟩:=AA h
 obtain⟨c,h⟩:=AU h
 try simp only[liE,seval]at c
 replace h:=AQ c h
 obtain⟨c,h⟩:=AU h
 try simp only[liE,seval]at c
 replace h:=AQ c h
 obtain⟨x17,h⟩:=AA h
 exact tJ (hk13 (x17,(bn6.set s10.toNat x16)) ())
 intro k4 Jk4 hk4 h
 rcases AC h with h|h
 obtain⟨y7,h⟩:=AA h
 simp(disch:=omega) only[vm,seval,h.1]
 refine⟨Jf h.1.1 tD fun n8 hn8=>?_⟩
 exact tJ (hk4 (wr .i64 (y7+1)) ())
 exact tJ (hk4 a3 ())
theorem Ym {a0 r} (h:Mm N a0=some r) (ha:args=[.str a0]) (hQ: ∀n',n≤n'→Gl (Q (.bool r) ⟨m,n'⟩)):ACall vE 209 args ⟨m,n⟩ Q:=by
 rw[Mm]at h
 subst ha
 refine ent hQ Tryz.func209 rfl Tryz.ntmps209 Tryz.results209 (.q (.r []) .z) fun R hR=>?_
 replace h:=And.intro trivial h
 simp(disch:=omega) only[vm,seval,h.1]
 refine⟨E8 (σ:=(List UInt8)) (γ:=Unit) (fun k s=>F4 N k s) (fun s g=>[.str s]) (fun s g=>m) [2,3,4,5,6,7,8,9,10,11,12,13,14,15,16,17,18,19,20] [0] a0 () h (fun _=>rfl) tD tD ?_⟩
 clear h
 rintro k1 s0 _ nL0_1 hnL0_1 _ h Jk1 hk1
 change _∧F4 N (k1+1) s0=_ at h
 rw[F4]at h
 refine AB (.q (.r []) (.q (.q (.r []) (.c (.q (.r []) .z) .z)) (.q (.q (.r []) (.c (.q (.r []) .z) .z)) (.r [])))) ?_
 obtain⟨y2,h⟩:=AA h
 simp(disch:=omega) only[vm,seval,h.1]
 refine⟨DV h.1.1 tD fun n3 hn3=>?_⟩
 obtain⟨y4,h⟩:=AA h
 simp(disch:=omega) only[vm,seval,h.1]
 refine⟨VW h.1.1 tD fun n5 hn5=>?_⟩
 rcases AC h with h|h
 rcases AC h with h|h
 exact tJ (hk1 y2.2.1 ())
 obtain⟨y6,h⟩:=AA h
 simp(disch:=omega) only[vm,seval,h.1]
 refine⟨J7 h.1.1 tD fun n7 hn7=>?_⟩
 exact tR
 exact tR
theorem OZ {a0 a1 r} (h:KP N a0 a1=some r) (ha:args=[Fv a0,Fv a1]) (hQ: ∀n',n≤n'→Gl (Q (Fv r) ⟨m,n'⟩)):ACall vE 112 args ⟨m,n⟩ Q:=by
 rw[KP]at h
 subst ha
 refine ent hQ Tryz.func112 rfl Tryz.ntmps112 Tryz.results112 (.q (.r []) (.q (.r []) .z)) fun R hR=>?_
 replace h:=And.intro trivial h
 simp(disch:=omega) only[vm,seval,h.1]
 refine⟨AP (γ:=Unit) h [7,8,9,10,11,12,13,14,15,16,17,18,19,20,21,22,23,24,25,26,27,28,29,30,31,32,33,34,35,36,37,38,39,40,41,42] [] (fun j1 g=>[]) (fun j1 g=>((n+3),[.str a1.scheme,.str a1.authority,.str j1.1,.str j1.2.1,.str a1.fragment,.bool a1.hasScheme,.bool a1.hasAuthority,.bool j1.2.2,.bool a1.hasFrag])::((n+2),[.str [],.str [],.str [],.str [],.str [],.bool false,.bool false,.bool false,.bool false])::((n+1),[.str a1.scheme,.str a1.authority,.str a1.path,.str a1.query,.str a1.fragment,.bool a1.hasScheme,.bool a1.hasAuthority,.bool a1.hasQuery,.bool a1.hasFrag])::(n,[.str a0.scheme,.str a0.authority,.str a0.path,.str a0.query,.str a0.fragment,.bool a0.hasScheme,.bool a0.hasAuthority,.bool a0.hasQuery,.bool a0.hasFrag])::m) (.q (.r []) (.c (.q (.r []) (.q (.r []) .z)) (.q (.r []) (.c (.r []) (.q (.r []) (.c (.q (.r []) (.q (.r []) (.c .z .z))) (.r []))))))) ?_ ?_⟩<;>clear h
 rintro j1 _ n4 hnn4 _ _ h
 refine AB (.q .z .z) ?_
 simp(disch:=omega) only[vm,seval,h.1]
 refine⟨BL [] (.take 0 (.take 1 (.take 2 (.take 3 (.take 4 (.alt 5 [3,2] (.take 6 (.alt 7 [] (.done) (.stop))) (.stop))))))) Ar (by kernel_rfl) ?_⟩
 simp(disch:=omega) only[vm,seval,h.1]
 refine⟨AP (γ:=Unit) h [49,50,51,52,53,54,55,56,57] [] (fun j13 g=>[]) (fun j13 g=>((n+3),[.str a0.scheme,.str j13.1,.str j1.1,.str j1.2.1,.str a1.fragment,.bool a0.hasScheme,.bool j13.2,.bool j1.2.2,.bool a1.hasFrag])::((n+2),[.str [],.str [],.str [],.str [],.str [],.bool false,.bool false,.bool false,.bool false])::((n+1),[.str a1.scheme,.str a1.authority,.str a1.path,.str a1.query,.str a1.fragment,.bool a1.hasScheme,.bool a1.hasAuthority,.bool a1.hasQuery,.bool a1.hasFrag])::(n,[.str a0.scheme,.str a0.authority,.str a0.path,.str a0.query,.str a0.fragment,.bool a0.hasScheme,.bool a0.hasAuthority,.bool a0.hasQuery,.bool a0.hasFrag])::m) (.q (.r []) (.c .z .z)) ?_ ?_⟩<;>clear h
 rintro j13 _ n16 hnn16 _ _ h
 refine AB (.q (.r []) .z) ?_
 exact tR
 intro k14 Jk14 hk14 h
 rcases AC h with h|h
 exact tJ (hk14 (a1.authority,a1.hasAuthority) ())
 simp(disch:=omega) only[vm,seval,h.1]
 refine⟨BL [] (.take 0 (.take 1 (.take 2 (.take 3 (.take 4 (.alt 5 [3,2] (.take 6 (.alt 7 [] (.done) (.stop))) (.stop))))))) Ar (by kernel_rfl) ?_⟩
 exact tJ (hk14 (a0.authority,a0.hasAuthority) ())
 intro k2 Jk2 hk2 h
 rcases AC h with h|h
 obtain⟨y5,h⟩:=AA h
 simp(disch:=omega) only[vm,seval,h.1]
 refine⟨FD h.1.1 tD fun n6 hn6=>?_⟩
 exact tR
 rcases AC h with h|h
 obtain⟨y7,h⟩:=AA h
 simp(disch:=omega) only[vm,seval,h.1]
 refine⟨FD h.1.1 tD fun n8 hn8=>?_⟩
 exact tJ (hk2 (y7,a1.query,a1.hasQuery) ())
 rcases AC h with h|h
 rcases AC h with h|h
 exact tJ (hk2 (a0.path,a1.query,a1.hasQuery) ())
 simp(disch:=omega) only[vm,seval,h.1]
 refine⟨BL [] (.take 0 (.take 1 (.take 2 (.take 3 (.take 4 (.alt 5 [3,2] (.take 6 (.alt 7 [] (.done) (.stop))) (.stop))))))) Ar (by kernel_rfl) ?_⟩
 exact tJ (hk2 (a0.path,a0.query,a0.hasQuery) ())
 obtain⟨y9,h⟩:=AA h
 simp(disch:=omega) only[vm,seval,h.1]
 refine⟨WK h.1.1 tD fun n10 hn10=>?_⟩
 obtain⟨y11,h⟩:=AA h
 simp(disch:=omega) only[vm,seval,h.1]
 refine⟨FD h.1.1 tD fun n12 hn12=>?_⟩
 exact tJ (hk2 (y11,a1.query,a1.hasQuery) ())
theorem OT {a0 r} (h:F3 N a0=some r) (ha:args=[.str a0]) (hQ: ∀n',n≤n'→Gl (Q (.slice 2 (List.map Bz r) false) ⟨m,n'⟩)):ACall vE 19 args ⟨m,n⟩ Q:=by
 rw[F3]at h
 subst ha
 refine ent hQ Tryz.func19 rfl Tryz.ntmps19 Tryz.results19 (.q (.r []) (.q (.r []) .z)) fun R hR=>?_
 replace h:=And.intro trivial h
 simp(disch:=omega) only[vm,seval,h.1]
 refine⟨AP (γ:=Unit) h [5,6,7,8,9,10,11,12,13,14,15,16,17,18,19,20,21,22,23,24,25,26,27,28,29,30,31,32,33,34,35,36,37,38,39,40] [3] (fun j1 g=>[.slice 2 (List.map Bz j1) true]) (fun j1 g=>m) (.q (.r []) .z) ?_ ?_⟩<;>clear h
 rintro j1 _ n4 hnn4 _ _ h
 refine AB (.q (.r []) .z) ?_
 exact tR
 intro k2 Jk2 hk2 h
 obtain⟨y5,h⟩:=AA h
 simp(disch:=omega) only[vm,seval,h.1]
 refine⟨O8 h.1.1 tD fun n6 hn6=>?_⟩
 obtain⟨hfk7,h⟩:=AU h
 simp(disch:=omega) only[vm,seval,h.1]
 refine⟨C9 (σ:=(List ApiField)) (γ:=Unit) y5 hfk7 (fun xs i s=>Bl N k2 xs s) (fun i s g=>[.slice 2 (List.map Bz s) true,.int .i64 i]) (fun i s g=>m) [5,6,7,8,13,14,15,16,17,18,19,20,21,22,23,24,25,26,27,28,29,30,31,32,33,34,35,36,37,38,39,40] [3,12] [] () h tD tD ?_ ?_⟩<;>clear h
 rintro s12 s3 _ nL0_1 hnL0_1 _ h
 change _∧Bl N k2 [] s3=_ at h
 rw[Bl]at h
 refine AB (.q (.r []) (.q (.c .z .z) .z)) ?_
 exact tJ (hk2 s3 ())
 rintro xk7 xsk7 s12 s3 _ nL0_1 hnL0_1 _ h Jk7 hk7
 change _∧Bl N k2 (xk7::xsk7) s3=_ at h
 rw[Bl]at h
 refine AB (.q (.r []) (.q (.c .z .z) .z)) ?_
 simp(disch:=omega) only[vm,seval,h.1]
 refine⟨AP (γ:=Unit) h [5,6,7,8,14,15,16,17,18,19,20,21,22,23,24,25,26,27,28,29,30,31,32,33,34,35,36,37,38,39] [3] (fun j8 g=>[.slice 2 (List.map Bz j8) true]) (fun j8 g=>m) (.q (.r []) (.q (.r []) (.q (.r []) .z))) ?_ ?_⟩<;>clear h
 rintro j8 _ n11 hnn11 _ _ h
 refine AB (.r []) ?_
 exact tJ (hk7 j8 ())
 intro k9 Jk9 hk9 h
 obtain⟨y12,h⟩:=AA h
 simp(disch:=omega) only[vm,seval,h.1]
 refine⟨Ir h.1.1 tD fun n13 hn13=>?_⟩
 obtain⟨y14,h⟩:=AA h
 simp(disch:=omega) only[vm,seval,h.1]
 refine⟨Sj h.1.1 tD fun n15 hn15=>?_⟩
 obtain⟨y16,h⟩:=AA h
 simp(disch:=omega) only[vm,seval,h.1]
 refine⟨Nu h.1.1 tD fun n17 hn17=>?_⟩
 simp(disch:=omega) only[vm,seval,h.1]
 refine⟨AP (γ:=Unit) h [26,27,28,29,30] [31] (fun j18 g=>[.bool j18]) (fun j18 g=>m) (.r []) ?_ ?_⟩<;>clear h
 rintro j18 _ n21 hnn21 _ _ h
 refine AB (.c (.r [32]) .z) ?_
 rcases AC h with h|h
 obtain⟨x22,h⟩:=AA h
 obtain⟨c,h⟩:=AU h
 try simp only[liE,seval]at c
 replace h:=AQ c h
 exact tJ (hk9 (s3++[(ApiField.mk x22 y16.1)]) ())
 exact tJ (hk9 s3 ())
 intro k19 Jk19 hk19 h
 rcases AC h with h|h
 exact tJ (hk19 false ())
 exact tJ (hk19 (y16.2==0) ())
end Go.Proofs.YtjgdhjpafjpjgaaGreatDoor
