import Derived.Test.YtjmejdocgdbklaaGreatDoorVmFacts
import Derived.Test.YtjmejdocgdbklaaGreatDoorDefs
import Derived.Test.YtjmejdocgdbklaaGreatDoorVM7
import Derived.Test.YtjmejdocgdbklaaGreatDoorW2
import Derived.Test.YtjmejdocgdbklaaGreatDoorW3
import Derived.Test.YtjmejdocgdbklaaGreatDoorW4
import Derived.Test.YtjmejdocgdbklaaGreatDoorW5
import Derived.Test.YtjmejdocgdbklaaGreatDoorW6
import Derived.Test.YtjmejdocgdbklaaGreatDoorW7
import Derived.Test.YtjmejdocgdbklaaGreatDoorW8
import Derived.Test.YtjmejdocgdbklaaGreatDoorW10
import Derived.Test.YtjmejdocgdbklaaGreatDoorW11
set_option linter.unusedVariables false
set_option linter.unusedSimpArgs false
set_option maxHeartbeats 4000000
set_option maxRecDepth 100000
set_option linter.defProp false
namespace Go.Proofs.YtjmejdocgdbklaaGreatDoor
open Go.VM
attribute [local irreducible] AB grd letL
variable{N n:Nat}{m:MS}{Q:PQ}{args:List AVal}
@[reducible,instance] def Aa0 {k2 xs s3} := LQ.mk (X := G8 N k2 xs s3) (G := λxs i (s : Bool) => G8 N k2 xs s) (s := s3) (js := [(2, 1), (4, 1), (8, 27)]) (cs := [3, 7]) (V := λi s => [.bool s, .int .i64 i]) (Ms := λi s => []) (λ_ => rfl) (λi s => G8.eq_1 ..) (λx xs i s => G8.eq_2 ..)
instance Aj6 {a0}:CF vE (Pm N a0) 248 [.str a0] (λr=>.bool r):=AZ (Pm.eq_1 ..) Tryz.func248 rfl Tryz.ntmps248 Tryz.results248 [(5,[],.stop),(9,[],.stop)]
def YH {a0 r} (h:Io N a0=some r) (ha:args=[.str a0]) (hQ: ∀n',n<=n'->Gl (Q (.str r) ⟨m,n'⟩)):ACall vE 253 args ⟨m,n⟩ Q:=by
 rw[Io]at h
 subst ha
 refine ent hQ Tryz.func253 rfl Tryz.ntmps253 Tryz.results253 (.q (.r []) (.q (.r [7]) (.q .z (.q (.r []) .z)))) λR hR=>?_
 replace h:=ac trivial h
 obtain⟨c,h⟩:=LV h
 try simp only[liE,seval]at c
 replace h:=I5 c h
 simp(disch:=omega) only[vm,seval,h.1,CQ,Bv,IK,Ar,BV,Aq]
 refine⟨ANT (σ:=(B8)×Nat×(List Int)) (γ:=Nat) (λk s=>Ap N k s.1 s.2.1 s.2.2) (λs g=>[.str s.1,.gsl 1 g s.2.1]) (λs g=>(g,List.map (AVal.int .u8) s.2.2)::m) [4,8,9,10,11,12,13,14,15,16,17,18,19,20,21,22,23,24,25,26,27,28,29,30,31,32,33,34,35,36,37,38,39,40,41,42,43,44,45,46,47,48,49,50,51,52,53,54,55,56,57,58,59,60,61,62,63,64,65,66,67] [0,3] (a0,(0:Int).toNat,(List.replicate (0:Int).toNat 0)) n h (λ_=>rfl) (by first|(simp(disch:=omega) only[vm,seval,h.1,CQ,Bv,IK,Ar,BV,Aq];done)|rfl) (by first|(simp(disch:=omega) only[vm,seval,h.1,CQ,Bv,IK,Ar,BV,Aq];done)|rfl) ?_⟩
 clear h
 rintro k1 ⟨s0,s3_len,bq3⟩ q3 nL0_1 hnL0_1 _ h Jk1 hk1
 change _/\Ap N (k1+1) s0 s3_len bq3=_ at h
 rw[Ap]at h
 refine ET (.q (.q (.r []) (.c .z .z)) (.q (.r []) (.c (.r []) (.q (.r []) (.c (.r []) (.q (.r []) (.c (.r []) (.q (.r []) (.c (.r []) .z))))))))) ?_
 rcases Jq h with h|h
 obtain⟨c,h⟩:=LV h
 try simp only[liE,seval]at c
 replace h:=I5 c h
 obtain⟨H,h⟩:=h
 cases h
 simp(disch:=omega) only[vm,seval,H,CQ,Bv,IK,Ar,BV,Aq]
 refine⟨(hR _ _ _ _ _ _ (by simp(disch:=omega) only[vm,seval,H,CQ,Bv,IK,Ar,BV,Aq];rfl) (.cons _ slr) ?_ fy ?_).1⟩<;>first|(simp(disch:=omega) only[vm,seval,H,CQ,Bv,IK,Ar,BV,Aq];done)|rfl
 obtain⟨y2,h⟩:=Fg h
 simp(disch:=omega) only[vm,seval,h.1,CQ,Bv,IK,Ar,BV,Aq]
 refine⟨Js h.1.1 (by first|(simp(disch:=omega) only[vm,seval,h.1,CQ,Bv,IK,Ar,BV,Aq];done)|rfl) λn3 hn3=>?_⟩
 rcases Jq h with h|h
 obtain⟨x4,h⟩:=Fg h
 simp(disch:=omega) only[vm,seval,h.1,CQ,Bv,IK,Ar,BV,Aq]
 refine⟨hk1 (x4,s3_len,bq3) q3 _ _ _ _ h.2 slr ?_ ?_ ?_ fy⟩<;>first|(simp(disch:=omega) only[vm,seval,h.1,CQ,Bv,IK,Ar,BV,Aq];done)|rfl
 obtain⟨y5,h⟩:=Fg h
 simp(disch:=omega) only[vm,seval,h.1,CQ,Bv,IK,Ar,BV,Aq]
 refine⟨Js h.1.1 (by first|(simp(disch:=omega) only[vm,seval,h.1,CQ,Bv,IK,Ar,BV,Aq];done)|rfl) λn6 hn6=>?_⟩
 rcases Jq h with h|h
 obtain⟨x7,h⟩:=Fg h
 simp(disch:=omega) only[vm,seval,h.1,CQ,Bv,IK,Ar,BV,Aq]
 refine⟨hk1 (x7,s3_len,bq3) q3 _ _ _ _ h.2 slr ?_ ?_ ?_ fy⟩<;>first|(simp(disch:=omega) only[vm,seval,h.1,CQ,Bv,IK,Ar,BV,Aq];done)|rfl
 obtain⟨y8,h⟩:=Fg h
 simp(disch:=omega) only[vm,seval,h.1,CQ,Bv,IK,Ar,BV,Aq]
 refine⟨Js h.1.1 (by first|(simp(disch:=omega) only[vm,seval,h.1,CQ,Bv,IK,Ar,BV,Aq];done)|rfl) λn9 hn9=>?_⟩
 rcases Jq h with h|h
 obtain⟨x10,h⟩:=Fg h
 simp(disch:=omega) only[vm,seval,h.1,CQ,Bv,IK,Ar,BV,Aq]
 refine⟨hk1 (x10,s3_len,bq3) q3 _ _ _ _ h.2 slr ?_ ?_ ?_ fy⟩<;>first|(simp(disch:=omega) only[vm,seval,h.1,CQ,Bv,IK,Ar,BV,Aq];done)|rfl
 rcases Jq h with h|h
 simp(disch:=omega) only[vm,seval,h.1,CQ,Bv,IK,Ar,BV,Aq]
 refine⟨hk1 (([47]:B8),s3_len,bq3) q3 _ _ _ _ h.2 slr ?_ ?_ ?_ fy⟩<;>first|(simp(disch:=omega) only[vm,seval,h.1,CQ,Bv,IK,Ar,BV,Aq];done)|rfl
 simp(disch:=omega) only[vm,seval,h.1,CQ,Bv,IK,Ar,BV,Aq]
 refine⟨Qq (γ:=Unit) h [45,46,47,48,49,50] [44] (λj11 g=>[.bool j11]) (λj11 g=>(q3,List.map (AVal.int .u8) bq3)::m) (.r []) ?_ ?_⟩<;>clear h
 rintro j11 _ n14 hnn14 _ _ h
 refine ET (.c (.q (.r []) (.r [])) .z) ?_
 rcases Jq h with h|h
 obtain⟨x17,h⟩:=Fg h
 obtain⟨y18,h⟩:=Fg h
 simp(disch:=omega) only[vm,seval,h.1,CQ,Bv,IK,Ar,BV,Aq]
 refine⟨TA h.1.1 (by first|(simp(disch:=omega) only[vm,seval,h.1,CQ,Bv,IK,Ar,BV,Aq];done)|rfl) λn19 hn19=>?_⟩
 obtain⟨c,h⟩:=LV h
 try simp only[liE,seval]at c
 replace h:=I5 c h
 obtain⟨c,h⟩:=LV h
 try simp only[liE,seval]at c
 replace h:=I5 c h
 obtain⟨y20,h⟩:=Fg h
 simp(disch:=omega) only[vm,seval,h.1,CQ,Bv,IK,Ar,BV,Aq]
 refine⟨RX h.1.1 (by first|(simp(disch:=omega) only[vm,seval,h.1,CQ,Bv,IK,Ar,BV,Aq];done)|rfl) λn21 hn21=>?_⟩
 obtain⟨c,h⟩:=LV h
 try simp only[liE,seval]at c
 replace h:=I5 c h
 simp(disch:=omega) only[vm,seval,h.1,CQ,Bv,IK,Ar,BV,Aq]
 refine⟨hk1 ((([47]:B8)++y18),(if y20>0 then y20 else 0).toNat,bq3) q3 _ _ _ _ h.2 slr ?_ ?_ ?_ fy⟩<;>first|(simp(disch:=omega) only[vm,seval,h.1,CQ,Bv,IK,Ar,BV,Aq];done)|rfl
 simp(disch:=omega) only[vm,seval,h.1,CQ,Bv,IK,Ar,BV,Aq]
 refine⟨Qq (γ:=Unit) h [62,63,64,65,66,67] [61] (λj22 g=>[.bool j22]) (λj22 g=>(q3,List.map (AVal.int .u8) bq3)::m) (.r []) ?_ ?_⟩<;>clear h
 rintro j22 _ n25 hnn25 _ _ h
 refine ET (.c (.r []) (.q (.r []) .z)) ?_
 rcases Jq h with h|h
 simp(disch:=omega) only[vm,seval,h.1,CQ,Bv,IK,Ar,BV,Aq]
 refine⟨hk1 ([],s3_len,bq3) q3 _ _ _ _ h.2 slr ?_ ?_ ?_ fy⟩<;>first|(simp(disch:=omega) only[vm,seval,h.1,CQ,Bv,IK,Ar,BV,Aq];done)|rfl
 obtain⟨x26,h⟩:=Fg h
 obtain⟨y27,h⟩:=Fg h
 simp(disch:=omega) only[vm,seval,h.1,CQ,Bv,IK,Ar,BV,Aq]
 refine⟨VD h.1.1 (by first|(simp(disch:=omega) only[vm,seval,h.1,CQ,Bv,IK,Ar,BV,Aq];done)|rfl) λn28 hn28=>?_⟩
 simp(disch:=omega) only[vm,seval,h.1,CQ,Bv,IK,Ar,BV,Aq]
 refine⟨Qq (γ:=Unit) h [14,15,16,17] [4] (λj29 g=>[.int .i64 j29]) (λj29 g=>(q3,List.map (AVal.int .u8) bq3)::m) (.q (.r []) (.c (.r []) .z)) ?_ ?_⟩<;>clear h
 rintro j29 _ n32 hnn32 _ _ h
 refine ET (.q (.r [18]) (.r [])) ?_
 obtain⟨x33,h⟩:=Fg h
 obtain⟨c,h⟩:=LV h
 try simp only[liE,seval]at c
 replace h:=I5 c h
 simp(disch:=omega) only[vm,seval,h.1,CQ,Bv,IK,Ar,BV,Aq]
 refine⟨AkO λi34 hi34=>Gl.go ?_⟩
 obtain⟨x35,h⟩:=Fg h
 simp(disch:=omega) only[vm,seval,h.1,CQ,Bv,IK,Ar,BV,Aq]
 refine⟨hk1 (x35,(s3_len+x33.length),(List.take s3_len bq3++List.map AC x33)) i34 _ _ _ _ h.2 slr ?_ ?_ ?_ fy⟩<;>first|(simp(disch:=omega) only[vm,seval,h.1,CQ,Bv,IK,Ar,BV,Aq];done)|rfl
 intro k30 Jk30 hk30 h
 rcases Jq h with h|h
 simp(disch:=omega) only[vm,seval,h.1,CQ,Bv,IK,Ar,BV,Aq]
 refine⟨hk30 (s0.length:Int) () _ _ _ _ h.2 slr ?_ ?_ ?_ fy⟩<;>first|(simp(disch:=omega) only[vm,seval,h.1,CQ,Bv,IK,Ar,BV,Aq];done)|rfl
 simp(disch:=omega) only[vm,seval,h.1,CQ,Bv,IK,Ar,BV,Aq]
 refine⟨hk30 (wr .i64 (1+y27)) () _ _ _ _ h.2 slr ?_ ?_ ?_ fy⟩<;>first|(simp(disch:=omega) only[vm,seval,h.1,CQ,Bv,IK,Ar,BV,Aq];done)|rfl
 intro k23 Jk23 hk23 h
 rcases Jq h with h|h
 simp(disch:=omega) only[vm,seval,h.1,CQ,Bv,IK,Ar,BV,Aq]
 refine⟨hk23 true () _ _ _ _ h.2 slr ?_ ?_ ?_ fy⟩<;>first|(simp(disch:=omega) only[vm,seval,h.1,CQ,Bv,IK,Ar,BV,Aq];done)|rfl
 simp(disch:=omega) only[vm,seval,h.1,CQ,Bv,IK,Ar,BV,Aq]
 refine⟨hk23 (s0==([46,46]:B8)) () _ _ _ _ h.2 slr ?_ ?_ ?_ fy⟩<;>first|(simp(disch:=omega) only[vm,seval,h.1,CQ,Bv,IK,Ar,BV,Aq];done)|rfl
 intro k12 Jk12 hk12 h
 obtain⟨y15,h⟩:=Fg h
 simp(disch:=omega) only[vm,seval,h.1,CQ,Bv,IK,Ar,BV,Aq]
 refine⟨Js h.1.1 (by first|(simp(disch:=omega) only[vm,seval,h.1,CQ,Bv,IK,Ar,BV,Aq];done)|rfl) λn16 hn16=>?_⟩
 rcases Jq h with h|h
 simp(disch:=omega) only[vm,seval,h.1,CQ,Bv,IK,Ar,BV,Aq]
 refine⟨hk12 true () _ _ _ _ h.2 slr ?_ ?_ ?_ fy⟩<;>first|(simp(disch:=omega) only[vm,seval,h.1,CQ,Bv,IK,Ar,BV,Aq];done)|rfl
 simp(disch:=omega) only[vm,seval,h.1,CQ,Bv,IK,Ar,BV,Aq]
 refine⟨hk12 (s0==([47,46,46]:B8)) () _ _ _ _ h.2 slr ?_ ?_ ?_ fy⟩<;>first|(simp(disch:=omega) only[vm,seval,h.1,CQ,Bv,IK,Ar,BV,Aq];done)|rfl
instance AWd {a0}:CF vE (Io N a0) 253 [.str a0] (λr=>.str r):=⟨λh hQ=>YH h rfl hQ⟩
@[reducible,instance] def APQ {a0 a1 k2 k s6 s7} := LF.mk (X := DR N a0 a1 k2 k s6 s7) (G := λk (s : (List Int) × Int) => DR N a0 a1 k2 k s.1 s.2) (s := (s6, s7)) (js := [(4, 2), (8, 2), (13, 49)]) (cs := [6, 7]) (V := λs => [.slice 1 (List.map (AVal.int .u8) s.1) true, .int .i64 s.2]) (Ms := λs => []) rfl (λs => DR.eq_1 ..) (λk s => DR.eq_2 ..)
instance AVz {a0 a1}:CF vE (EC N a0 a1) 81 [.str a0,.str a1] (λr=>.tuple [.str r.1,.int .i64 r.2]):=AZ (EC.eq_1 ..) Tryz.func81 rfl Tryz.ntmps81 Tryz.results81 [(8,[],.stop),(10,[36],.done),(15,[52],.done),(16,[56],.done)]
instance Adz {a0 a1}:CF vE (Ll N a0 a1) 135 [.str a0,.int .u64 a1] (λr=>.tuple [.int .u64 r.1,.int .i64 r.2]):=AZ (Ll.eq_1 ..) Tryz.func135 rfl Tryz.ntmps135 Tryz.results135 [(2,[],.stop)]
@[reducible,instance] def AUx {a0 k2 k s4 s5} := LF.mk (X := FV N a0 k2 k s4 s5) (G := λk (s : (List Int) × Int) => FV N a0 k2 k s.1 s.2) (s := (s4, s5)) (js := [(2, 2), (6, 3), (12, 26)]) (cs := [4, 5]) (V := λs => [.slice 1 (List.map (AVal.int .u8) s.1) true, .int .i64 s.2]) (Ms := λs => []) rfl (λs => FV.eq_1 ..) (λk s => FV.eq_2 ..)
instance Aft {a0}:CF vE (G7 N a0) 43 [.str a0] (λr=>.tuple [.str r.1,.int .i64 r.2]):=AZ (G7.eq_1 ..) Tryz.func43 rfl Tryz.ntmps43 Tryz.results43 [(13,[34],.done)]
instance Acb {a0}:CF vE (Nn N a0) 34 [QB a0] (λr=>.str r):=AZ (Nn.eq_1 ..) Tryz.func34 rfl Tryz.ntmps34 Tryz.results34 [(1,[],.take 0 (.take 1 (.take 5 (.take 6 (.alt 2 [6,5,0] (.take 3 (.take 4 (.take 7 (.alt 8 [] (.done) (.stop))))) (.stop))))))]
instance Aga {a0}:CF vE (GG N a0) 88 [Gv a0] (λr=>.str r):=AZ (GG.eq_1 ..) Tryz.func88 rfl Tryz.ntmps88 Tryz.results88 [(1,[],.take 0 (.take 4 (.alt 1 [4] (.alt 2 [4,0] (.take 3 (.alt 5 [3,0] (.take 6 (.alt 7 [] (.done) (.stop))) (.stop))) (.stop)) (.stop))))]
instance Al2 {a0}:CB vE (RG N a0) 12 (λi0=>[.ptr i0 0]) (λi0=>[.slice 1 (List.map (AVal.int .u8) a0.l) false]) (λr=>.str r.1) (λi0 r=>[.slice 1 (List.map (AVal.int .u8) r.2.l) false]):=G5 (RG.eq_1 ..) Tryz.func12 rfl Tryz.ntmps12 Tryz.results12
@[reducible,instance] def AcN {k4 xs s15 s7} := LR.mk (X := GX N k4 xs s15 s7) (G := λxs i (s : B8) => GX N k4 xs i s) (i := s15) (s := s7) (js := [(8, 2), (16, 12)]) (cs := [7, 15]) (V := λi s => [.str s, .int .i64 i]) (Ms := λi s => []) rfl (λi s => GX.eq_1 ..) (λx xs i s => GX.eq_2 ..)
instance AmB {a0 a1}:CF vE (RV N a0 a1) 22 [OD a0,.str a1] (λr=>.tuple [.str r.1,.bool r.2]):=AZ (RV.eq_1 ..) Tryz.func22 rfl Tryz.ntmps22 Tryz.results22
instance Ahr {a0 a1}:CF vE (Oq N a0 a1) 123 [.str a0,.int .i64 a1] (λr=>.tuple [.str r.1,.int .i64 r.2.1,.bool r.2.2]):=AZ (Oq.eq_1 ..) Tryz.func123 rfl Tryz.ntmps123 Tryz.results123 [(1,[],.stop)]
instance Ahw {a0}:CF vE (Ow N a0) 24 [JM a0] (λr=>.bool r):=AZ (Ow.eq_1 ..) Tryz.func24 rfl Tryz.ntmps24 Tryz.results24 [(1,[],.stop)]
@[reducible,instance] def AVi {k29 k s7} := LF.mk (X := EB N k29 k s7) (G := λk (s : B8) => EB N k29 k s) (s := s7) (js := [(54, 10)]) (cs := [7]) (V := λs => [.str s]) (Ms := λs => []) rfl (λs => EB.eq_1 ..) (λk s => EB.eq_2 ..)
@[reducible,instance] def AVd {k40 k s6 s7} := LF.mk (X := Em N k40 k s6 s7) (G := λk (s : Int × B8) => Em N k40 k s.1 s.2) (s := (s6, s7)) (js := [(66, 13)]) (cs := [6, 7]) (V := λs => [.int .i64 s.1, .str s.2]) (Ms := λs => []) rfl (λs => Em.eq_1 ..) (λk s => Em.eq_2 ..)
instance Agn {a0}:CF vE (JP N a0) 125 [.str a0] (λr=>.tuple [.str r.1,.int .i64 r.2]):=AZ (JP.eq_1 ..) Tryz.func125 rfl Tryz.ntmps125 Tryz.results125 [(1,[],.stop),(5,[],.take 0 (.take 1 (.alt 2 [1,0] (.alt 3 [] (.done) (.stop)) (.stop)))),(7,[],.take 0 (.take 1 (.take 2 (.take 5 (.take 6 (.take 7 (.alt 3 [7,6,5,1] (.alt 4 [7,6,5,2,1,0] (.alt 8 [7,6,5] (.alt 9 [] (.done) (.stop)) (.stop)) (.stop)) (.stop)))))))),(10,[],.take 0 (.take 1 (.take 2 (.take 3 (.take 4 (.take 5 (.take 6 (.take 7 (.take 8 (.take 9 (.take 10 (.take 11 (.take 12 (.take 13 (.take 14 (.alt 15 [14,13,12,11,10,9,8,7] (.alt 16 [] (.done) (.stop)) (.stop))))))))))))))))),(11,[],.stop),(17,[],.stop)]
instance Alm {a0 a1}:CF vE (Ny N a0 a1) 285 [.str a0,.int .u64 a1] (λr=>.tuple [.int .u64 r.1,.int .i64 r.2]):=AZ (Ny.eq_1 ..) Tryz.func285 rfl Tryz.ntmps285 Tryz.results285
end Go.Proofs.YtjmejdocgdbklaaGreatDoor
