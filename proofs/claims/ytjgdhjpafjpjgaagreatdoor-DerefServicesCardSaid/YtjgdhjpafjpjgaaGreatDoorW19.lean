import Derived.Test.YtjgdhjpafjpjgaaGreatDoorVmFacts
import Derived.Test.YtjgdhjpafjpjgaaGreatDoorDefs
import Derived.Test.YtjgdhjpafjpjgaaGreatDoorVM7
import Derived.Test.YtjgdhjpafjpjgaaGreatDoorW1
import Derived.Test.YtjgdhjpafjpjgaaGreatDoorW2
import Derived.Test.YtjgdhjpafjpjgaaGreatDoorW5
import Derived.Test.YtjgdhjpafjpjgaaGreatDoorW7
import Derived.Test.YtjgdhjpafjpjgaaGreatDoorW14
import Derived.Test.YtjgdhjpafjpjgaaGreatDoorW17
import Derived.Test.YtjgdhjpafjpjgaaGreatDoorW18
set_option linter.unusedVariables false
set_option linter.unusedSimpArgs false
set_option maxHeartbeats 4000000
set_option maxRecDepth 100000
set_option linter.defProp false
namespace Go.Proofs.YtjgdhjpafjpjgaaGreatDoor
open Go.VM
attribute [local irreducible] AA grd letL
variable{N n:Nat}{m:MS}{Q:PQ}{args:List AVal}
theorem Su {a0 r} (h:Gp N a0=some r) (ha:args=[AC a0]) (hQ: ∀n',n≤n'→Gl (Q (.tuple [K7 r.1,.int .i64 r.2]) ⟨m,n'⟩)):ACall vE 47 args ⟨m,n⟩ Q:=by
 rw[Gp]at h
 subst ha
 refine ARL hQ Tryz.func47 rfl Tryz.ntmps47 Tryz.results47 (.q (.r []) (.q (.q (.r []) (.c (.q (.r []) .z) .z)) (.q (.r []) (.q (.r []) (.q (.r []) (.q .z (.q .z (.q (.r []) .z)))))))) fun R hR=>?_
 replace h:=And.intro trivial h
 rcases D9 h with h|h
 exact tR
 · replace h:=Ad h
   obtain⟨y1,h⟩:=h
   simp(disch:=omega) only[vm,seval,h.1]
   refine⟨GI h.1.1 tD (i0:=(n+2)) (by simp(disch:=omega) only[vm,seval,h.1]) fun n2 hn2=>?_⟩
   obtain⟨y3,h⟩:=Ad h
   simp(disch:=omega) only[vm,seval,h.1]
   refine⟨UZ h.1.1 tD fun n4 hn4=>?_⟩
   simp(disch:=omega) only[vm,seval,h.1]
   refine⟨Gn (γ:=Unit) h [25,26,27,28,29,30] [31] (fun j5 g=>[.bool j5]) (fun j5 g=>(n4,[.str y3.1.method,.str y3.1.iD])::((n+3),[.str [],.slice 1 (List.map AVal.str []) true,.slice 1 (List.map AVal.str []) true,.slice 3 (List.map AU []) true,.slice 3 (List.map AP []) true])::((n+2),[.str y1.2.did.method,.str y1.2.did.iD,.int .i64 y1.2.e])::((n+1),[.str [],.slice 1 (List.map AVal.str []) true,.slice 1 (List.map AVal.str []) true,.slice 3 (List.map AU []) true,.slice 3 (List.map AP []) true])::(n,[.int .i64 a0.kind,.str a0.text,.slice 1 (List.map AVal.str a0.keys) false,.slice 4 (List.map AC a0.items) false])::m) (.r []) ?_ ?_⟩<;>clear h
   · rintro j5 _ n8 hnn8 _ _ h
     refine BI (.c (.q (.r []) .z) .z) ?_
     rcases D9 h with h|h
     exact tR
     · replace h:=Ad h
       obtain⟨y9,h⟩:=h
       have cy9:=h.1.1
       simp(disch:=omega) only[vm,seval,h.1]
       refine⟨Ji [] (.take 0 (.take 1 (.alt 2 [0] (.take 3 (.alt 4 [1] (.take 5 (.alt 6 [] (.done) (.stop))) (.stop))) (.stop)))) Gh (by kernel_rfl) ?_⟩
       simp(disch:=omega) only[vm,seval,h.1]
       refine⟨TB cy9 tD fun n10 hn10=>?_⟩
       obtain⟨y11,h⟩:=Ad h
       simp(disch:=omega) only[vm,seval,h.1]
       refine⟨G7 h.1.1 tD (i0:=(n+2)) (by simp(disch:=omega) only[vm,seval,h.1]) fun n12 hn12=>?_⟩
       obtain⟨y13,h⟩:=Ad h
       simp(disch:=omega) only[vm,seval,h.1]
       refine⟨NV h.1.1 tD (i0:=(n+2)) (by simp(disch:=omega) only[vm,seval,h.1]) fun n14 hn14=>?_⟩
       simp(disch:=omega) only[vm,seval,h.1]
       refine⟨Gn (γ:=Bool) h [8,9,42,43,44,45,46,47,48,49,50] [] (fun j15 g=>[]) (fun j15 g=>(n4,[.str y3.1.method,.str y3.1.iD])::((n+3),[.str y9,.slice 1 (List.map AVal.str y13.1) false,.slice 1 (List.map AVal.str j15.1) g,.slice 3 (List.map AU []) true,.slice 3 (List.map AP []) true])::((n+2),[.str j15.2.did.method,.str j15.2.did.iD,.int .i64 j15.2.e])::((n+1),[.str [],.slice 1 (List.map AVal.str []) true,.slice 1 (List.map AVal.str []) true,.slice 3 (List.map AU []) true,.slice 3 (List.map AP []) true])::(n,[.int .i64 a0.kind,.str a0.text,.slice 1 (List.map AVal.str a0.keys) false,.slice 4 (List.map AC a0.items) false])::m) (.q (.r []) (.q (.r []) (.c (.r []) .z))) ?_ ?_⟩<;>clear h
       · rintro j15 p1_2 n18 hnn18 _ _ h
         refine Lb [false,false,true,false,false] (i:=(n+3)) (by simp(disch:=omega) only[vm,seval,h.1];rfl) ?_
         refine BI .z ?_
         simp(disch:=omega) only[vm,seval,h.1]
         refine⟨Gn (γ:=Unit) h [11,12,51,52,53,54,55,56,57,58,59,60,61,62,63,64,65,66,67,68,69,70,71,72,73] [] (fun j23 g=>[]) (fun j23 g=>(n4,[.str y3.1.method,.str y3.1.iD])::((n+3),[.str y9,.slice 1 (List.map AVal.str y13.1) false,.slice 1 (List.map AVal.str j15.1) false,.slice 3 (List.map AU j23.1) true,.slice 3 (List.map AP []) true])::((n+2),[.str j23.2.did.method,.str j23.2.did.iD,.int .i64 j23.2.e])::((n+1),[.str [],.slice 1 (List.map AVal.str []) true,.slice 1 (List.map AVal.str []) true,.slice 3 (List.map AU []) true,.slice 3 (List.map AP []) true])::(n,[.int .i64 a0.kind,.str a0.text,.slice 1 (List.map AVal.str a0.keys) false,.slice 4 (List.map AC a0.items) false])::m) (.q (.r []) .z) ?_ ?_⟩<;>clear h
         · rintro j23 _ n26 hnn26 _ _ h
           refine BI .z ?_
           simp(disch:=omega) only[vm,seval,h.1]
           refine⟨Gn (γ:=Unit) h [14,74,75,76,77,78,79,80,81,82,83,84,85,86,87,88] [] (fun j36 g=>[]) (fun j36 g=>(n4,[.str y3.1.method,.str y3.1.iD])::((n+3),[.str y9,.slice 1 (List.map AVal.str y13.1) false,.slice 1 (List.map AVal.str j15.1) false,.slice 3 (List.map AU j23.1) true,.slice 3 (List.map AP j36.1) true])::((n+2),[.str j36.2.did.method,.str j36.2.did.iD,.int .i64 j36.2.e])::((n+1),[.str [],.slice 1 (List.map AVal.str []) true,.slice 1 (List.map AVal.str []) true,.slice 3 (List.map AU []) true,.slice 3 (List.map AP []) true])::(n,[.int .i64 a0.kind,.str a0.text,.slice 1 (List.map AVal.str a0.keys) false,.slice 4 (List.map AC a0.items) false])::m) (.q (.r []) .z) ?_ ?_⟩<;>clear h
           rintro j36 _ n39 hnn39 _ _ h
           refine BI (.q (.q (.r []) (.c (.q .z .z) .z)) (.q (.r []) .z)) ?_
           rcases D9 h with h|h
           simp(disch:=omega) only[vm,seval,h.1]
           refine⟨Ji [] (.take 1 (.take 2 (.alt 0 [2,1] (.alt 3 [2,1] (.alt 4 [] (.done) (.stop)) (.stop)) (.stop)))) Gh (by kernel_rfl) ?_⟩
           exact tR
           exact tR
           · intro k37 Jk37 hk37 h
             obtain⟨y40,h⟩:=Ad h
             simp(disch:=omega) only[vm,seval,h.1]
             refine⟨G7 h.1.1 tD (i0:=(n+2)) (by simp(disch:=omega) only[vm,seval,h.1]) fun n41 hn41=>?_⟩
             obtain⟨hfk42,h⟩:=GJ h
             simp(disch:=omega) only[vm,seval,h.1]
             refine⟨Ro (σ:=(List ApiService)×DiddocDecoder) (γ:=Unit) y40.1 hfk42 (fun xs i s=>Cr N y9 y13 j15 j23 k37 xs s.1 s.2) (fun i s g=>[.int .i64 i]) (fun i s g=>(n4,[.str y3.1.method,.str y3.1.iD])::((n+3),[.str y9,.slice 1 (List.map AVal.str y13.1) false,.slice 1 (List.map AVal.str j15.1) false,.slice 3 (List.map AU j23.1) true,.slice 3 (List.map AP s.1) true])::((n+2),[.str s.2.did.method,.str s.2.did.iD,.int .i64 s.2.e])::((n+1),[.str [],.slice 1 (List.map AVal.str []) true,.slice 1 (List.map AVal.str []) true,.slice 3 (List.map AU []) true,.slice 3 (List.map AP []) true])::(n,[.int .i64 a0.kind,.str a0.text,.slice 1 (List.map AVal.str a0.keys) false,.slice 4 (List.map AC a0.items) false])::m) [14,78,79,80,81,82,83,84,85,86,87,88] [77] ([],y40.2) () h tD tD ?_ ?_⟩<;>clear h
             rintro s77 ⟨bn3_services,bn2⟩ _ nL1_1 hnL1_1 _ h
             change _∧Cr N y9 y13 j15 j23 k37 [] bn3_services bn2=_ at h
             rw[Cr]at h
             refine BI (.q (.r []) (.q (.c .z .z) .z)) ?_
             exact tJ (hk37 (bn3_services,bn2) ())
             · rintro xk42 xsk42 s77 ⟨bn3_services,bn2⟩ _ nL1_1 hnL1_1 _ h Jk42 hk42
               change _∧Cr N y9 y13 j15 j23 k37 (xk42::xsk42) bn3_services bn2=_ at h
               rw[Cr]at h
               refine BI (.q (.r []) (.q (.c .z .z) .z)) ?_
               simp(disch:=omega) only[vm,seval,h.1]
               refine⟨Gn (γ:=Unit) h [14,79,80,81,82,83,84,85,86,87] [] (fun j43 g=>[]) (fun j43 g=>(n4,[.str y3.1.method,.str y3.1.iD])::((n+3),[.str y9,.slice 1 (List.map AVal.str y13.1) false,.slice 1 (List.map AVal.str j15.1) false,.slice 3 (List.map AU j23.1) true,.slice 3 (List.map AP j43.1) true])::((n+2),[.str j43.2.did.method,.str j43.2.did.iD,.int .i64 j43.2.e])::((n+1),[.str [],.slice 1 (List.map AVal.str []) true,.slice 1 (List.map AVal.str []) true,.slice 3 (List.map AU []) true,.slice 3 (List.map AP []) true])::(n,[.int .i64 a0.kind,.str a0.text,.slice 1 (List.map AVal.str a0.keys) false,.slice 4 (List.map AC a0.items) false])::m) (.q (.r []) .z) ?_ ?_⟩<;>clear h
               rintro j43 _ n46 hnn46 _ _ h
               refine BI (.r []) ?_
               exact tJ (hk42 (j43.1,j43.2) ())
               · intro k44 Jk44 hk44 h
                 obtain⟨y47,h⟩:=Ad h
                 have cy47:=h.1.1
                 obtain⟨c,h⟩:=GJ h
                 try simp only[liE,seval]at c
                 replace h:=G6 c h
                 simp(disch:=omega) only[vm,seval,h.1]
                 refine⟨Ji [82] (.take 0 (.take 2 (.alt 1 [2] (.alt 3 [0] (.take 4 (.alt 5 [2,0] (.take 6 (.alt 7 [] (.done) (.stop))) (.stop))) (.stop)) (.alt 3 [0] (.take 4 (.alt 1 [4,2] (.alt 5 [2,0] (.take 6 (.alt 7 [] (.done) (.stop))) (.stop)) (.stop))) (.stop))))) Gh (by kernel_rfl) ?_⟩
                 all_goals
                  simp(disch:=omega) only[vm,seval,h.1]
                  repeat' refine Pg ?_ ?_
                  all_goals
                   refine⟨IZ cy47 tD (i0:=(n+2)) (by simp(disch:=omega) only[vm,seval,h.1]) fun n48 hn48=>?_⟩
                   exact tJ (hk44 ((bn3_services++[y47.1]),y47.2) ())
         intro k24 Jk24 hk24 h
         obtain⟨y27,h⟩:=Ad h
         simp(disch:=omega) only[vm,seval,h.1]
         refine⟨G7 h.1.1 tD (i0:=(n+2)) (by simp(disch:=omega) only[vm,seval,h.1]) fun n28 hn28=>?_⟩
         obtain⟨hfk29,h⟩:=GJ h
         simp(disch:=omega) only[vm,seval,h.1]
         refine⟨Ro (σ:=(List ApiMethod)×DiddocDecoder) (γ:=Unit) y27.1 hfk29 (fun xs i s=>Ct N k24 xs s.1 s.2) (fun i s g=>[.int .i64 i]) (fun i s g=>(n4,[.str y3.1.method,.str y3.1.iD])::((n+3),[.str y9,.slice 1 (List.map AVal.str y13.1) false,.slice 1 (List.map AVal.str j15.1) false,.slice 3 (List.map AU s.1) true,.slice 3 (List.map AP []) true])::((n+2),[.str s.2.did.method,.str s.2.did.iD,.int .i64 s.2.e])::((n+1),[.str [],.slice 1 (List.map AVal.str []) true,.slice 1 (List.map AVal.str []) true,.slice 3 (List.map AU []) true,.slice 3 (List.map AP []) true])::(n,[.int .i64 a0.kind,.str a0.text,.slice 1 (List.map AVal.str a0.keys) false,.slice 4 (List.map AC a0.items) false])::m) [11,12,55,56,57,58,59,60,61,62,63,64,65,66,67,68,69,70,71,72,73] [54] ([],y27.2) () h tD tD ?_ ?_⟩<;>clear h
         rintro s54 ⟨bn3_methods,bn2⟩ _ nL0_1 hnL0_1 _ h
         change _∧Ct N k24 [] bn3_methods bn2=_ at h
         rw[Ct]at h
         refine BI (.q (.r []) (.q (.c .z .z) (.q (.q (.r []) (.q (.r []) (.q .z (.r [68])))) (.r [])))) ?_
         exact tJ (hk24 (bn3_methods,bn2) ())
         rintro xk29 xsk29 s54 ⟨bn3_methods,bn2⟩ _ nL0_1 hnL0_1 _ h Jk29 hk29
         change _∧Ct N k24 (xk29::xsk29) bn3_methods bn2=_ at h
         rw[Ct]at h
         refine BI (.q (.r []) (.q (.c .z .z) (.q (.q (.r []) (.q (.r []) (.q .z (.r [68])))) (.r [])))) ?_
         obtain⟨y30,h⟩:=Ad h
         simp(disch:=omega) only[vm,seval,h.1]
         refine⟨Kq h.1.1 tD (i0:=(n+2)) (by simp(disch:=omega) only[vm,seval,h.1]) fun n31 hn31=>?_⟩
         obtain⟨y32,h⟩:=Ad h
         have cy32:=h.1.1
         obtain⟨y34,h⟩:=Ad h
         have cy34:=h.1.1
         simp(disch:=omega) only[vm,seval,h.1]
         refine⟨Ji [] (.take 0 (.take 2 (.alt 1 [2] (.take 4 (.alt 3 [4,0] (.alt 5 [2] (.take 6 (.alt 7 [] (.done) (.stop))) (.stop)) (.stop))) (.stop)))) Gh (by kernel_rfl) ?_⟩
         simp(disch:=omega) only[vm,seval,h.1]
         refine⟨GI cy32 tD (i0:=(n+2)) (by simp(disch:=omega) only[vm,seval,h.1]) fun n33 hn33=>?_⟩
         simp(disch:=omega) only[vm,seval,h.1]
         refine⟨GI cy34 tD (i0:=(n+2)) (by simp(disch:=omega) only[vm,seval,h.1]) fun n35 hn35=>?_⟩
         obtain⟨c,h⟩:=GJ h
         try simp only[liE,seval]at c
         replace h:=G6 c h
         exact tJ (hk29 ((bn3_methods++[(ApiMethod.mk y30.1 y32.1 y34.1)]),y34.2) ())
       intro k16 Jk16 hk16 h
       obtain⟨y19,h⟩:=Ad h
       simp(disch:=omega) only[vm,seval,h.1]
       refine⟨MW h.1.1 tD fun n20 hn20=>?_⟩
       rcases D9 h with h|h
       obtain⟨y21,h⟩:=Ad h
       simp(disch:=omega) only[vm,seval,h.1]
       refine⟨Fh h.1.1 tD (i0:=(n+2)) (by simp(disch:=omega) only[vm,seval,h.1]) fun n22 hn22=>?_⟩
       simp(disch:=omega) only[vm,seval,h.1]
       refine⟨hk16 (y21.1,y21.2) false _ _ _ _ h.2 (.cons _ slr) ?_ ?_ ?_ (by omega)⟩<;>first|(simp(disch:=omega) only[vm,seval,h.1];done)|rfl
       simp(disch:=omega) only[vm,seval,h.1]
       refine⟨hk16 ([],y13.2) true _ _ _ _ h.2 (.cons _ slr) ?_ ?_ ?_ (by omega)⟩<;>first|(simp(disch:=omega) only[vm,seval,h.1];done)|rfl
   intro k6 Jk6 hk6 h
   rcases D9 h with h|h
   exact tJ (hk6 true ())
   exact tJ (hk6 (y3.2 !=0) ())
instance AOs {a0}:CF vE (Gp N a0) 47 [AC a0] (fun r=>.tuple [K7 r.1,.int .i64 r.2]):=⟨fun h hQ=>Su h rfl hQ⟩
end Go.Proofs.YtjgdhjpafjpjgaaGreatDoor
