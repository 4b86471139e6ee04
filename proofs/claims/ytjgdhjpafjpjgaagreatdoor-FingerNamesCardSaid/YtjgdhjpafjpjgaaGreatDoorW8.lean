import Derived.Test.YtjgdhjpafjpjgaaGreatDoorVmFacts
import Derived.Test.YtjgdhjpafjpjgaaGreatDoorDefs
import Derived.Test.YtjgdhjpafjpjgaaGreatDoorVM2
import Derived.Test.YtjgdhjpafjpjgaaGreatDoorW0
import Derived.Test.YtjgdhjpafjpjgaaGreatDoorW1
import Derived.Test.YtjgdhjpafjpjgaaGreatDoorW2
import Derived.Test.YtjgdhjpafjpjgaaGreatDoorW4
import Derived.Test.YtjgdhjpafjpjgaaGreatDoorW6
import Derived.Test.YtjgdhjpafjpjgaaGreatDoorVM5
set_option linter.unusedVariables false
set_option linter.unusedSimpArgs false
set_option maxHeartbeats 4000000
set_option maxRecDepth 100000
set_option linter.defProp false
namespace Go.Proofs.YtjgdhjpafjpjgaaGreatDoor
open Go.VM
variable{N n:Nat}{m:MS}{Q:PQ}{args:List AVal}
theorem Ej {a0 a1 r} (h:Ce N a0 a1=some r) (ha:args=[.str a0,.str a1]) (hQ: ∀n',n≤n'→Gl (Q (.tuple [.str r.1,.int .i64 r.2]) ⟨m,n'⟩)):ACall vE 109 args ⟨m,n⟩ Q:=by
 rw[Ce]at h
 subst ha
 refine ent hQ Tryz.func109 rfl Tryz.ntmps109 Tryz.results109 (.q (.r []) (.q (.q (.r []) (.c (.q (.r []) .z) .z)) (.q (.r []) .z))) fun R hR=>?_
 replace h:=And.intro trivial h
 rcases AC h with h|h
 exact tR
 simp(disch:=omega) only[vm,seval,h.1]
 refine⟨AQ (γ:=Unit) h [4,5,7,8,9,10,14,15,16,17,18,19,20,21,22,23,24,25,26,27,28,29,30,31,32,33,34,35,36,37,38,39,40,41,42,43,44,45,46,47,48,49,50,51,52,53,54,55,56] [] (fun j1 g=>[]) (fun j1 g=>(n,[.slice 1 (List.map (AVal.int .u8) j1) true])::m) (.q (.r []) .z) ?_ ?_⟩<;>clear h
 rintro j1 _ n4 hnn4 _ _ h
 refine AB (.q (.r []) .z) ?_
 exact tR
 intro k2 Jk2 hk2 h
 simp(disch:=omega) only[vm,seval,h.1]
 refine⟨Kq (σ:=Int×(List Int)) (γ:=Unit) (fun k s=>Bg N a0 a1 k2 k s.1 s.2) (fun s g=>[.int .i64 s.1]) (fun s g=>(n,[.slice 1 (List.map (AVal.int .u8) s.2) true])::m) [4,5,8,9,10,14,15,16,17,18,19,20,21,22,23,24,25,26,27,28,29,30,31,32,33,34,35,36,37,38,39,40,41,42,43,44,45,46,47,48,49,50,51,52,53,54,55,56] [7] (0,[]) () h (fun _=>rfl) tD tD ?_⟩
 clear h
 rintro k5 ⟨s7,bn⟩ _ nL0_1 hnL0_1 _ h Jk5 hk5
 change _∧Bg N a0 a1 k2 (k5+1) s7 bn=_ at h
 rw[Bg]at h
 refine AB (.q (.q (.r []) (.c .z .z)) .z) ?_
 rcases AC h with h|h
 simp(disch:=omega) only[vm,seval,h.1]
 refine⟨AQ (γ:=Unit) h [4,5,8,9,10,20,21,22,23,24,25,26,27,28,29,30,31,32,33,34,35,36,37,38,39,40,41,42,43,44,45,46,47,48,49,50,51,52,53,54,55,56] [7] (fun j6 g=>[.int .i64 j6.1]) (fun j6 g=>(n,[.slice 1 (List.map (AVal.int .u8) j6.2) true])::m) (.q (.r []) (.q (.r []) (.c (.q (.r []) (.q (.q (.r []) (.c (.q (.r []) .z) .z)) (.q (.r []) (.q (.r []) (.c (.r [38]) (.r [])))))) .z))) ?_ ?_⟩<;>clear h
 rintro j6 _ n9 hnn9 _ _ h
 refine AB (.r []) ?_
 exact tJ (hk5 ((wr .i64 (j6.1+1)),j6.2) ())
 intro k7 Jk7 hk7 h
 obtain⟨x10,h⟩:=AA h
 rcases AC h with h|h
 obtain⟨y11,h⟩:=AA h
 simp(disch:=omega) only[vm,seval,h.1]
 refine⟨Le h.1.1 tD fun n12 hn12=>?_⟩
 rcases AC h with h|h
 obtain⟨y13,h⟩:=AA h
 simp(disch:=omega) only[vm,seval,h.1]
 refine⟨Ee h.1.1 tD fun n14 hn14=>?_⟩
 rcases AC h with h|h
 obtain⟨c,h⟩:=AR h
 try simp only[liE,seval]at c
 replace h:=AP c h
 exact tJ (hk7 ((wr .i64 (s7+2)),(bn++[y11.1])) ())
 obtain⟨y15,h⟩:=AA h
 simp(disch:=omega) only[vm,seval,h.1]
 refine⟨JZ h.1.1 tD (i0:=n) (by simp(disch:=omega) only[vm,seval,h.1]) fun n16 hn16=>?_⟩
 exact tJ (hk7 ((wr .i64 (s7+2)),y15) ())
 exact tR
 simp(disch:=omega) only[vm,seval,h.1]
 refine⟨AQ (γ:=Unit) h [45,46,47,48,49,50,51,52] [44] (fun j17 g=>[.bool j17]) (fun j17 g=>(n,[.slice 1 (List.map (AVal.int .u8) bn) true])::m) (.r []) ?_ ?_⟩<;>clear h
 rintro j17 _ n20 hnn20 _ _ h
 refine AB (.c (.r [53]) (.q (.r []) .z)) ?_
 rcases AC h with h|h
 obtain⟨c,h⟩:=AR h
 try simp only[liE,seval]at c
 replace h:=AP c h
 exact tJ (hk7 (s7,(bn++[(AL x10)])) ())
 exact tR
 intro k18 Jk18 hk18 h
 obtain⟨y21,h⟩:=AA h
 simp(disch:=omega) only[vm,seval,h.1]
 refine⟨Ee h.1.1 tD fun n22 hn22=>?_⟩
 rcases AC h with h|h
 exact tJ (hk18 true ())
 obtain⟨y23,h⟩:=AA h
 simp(disch:=omega) only[vm,seval,h.1]
 refine⟨Bq h.1.1 tD fun n24 hn24=>?_⟩
 exact tJ (hk18 (decide (y23≥0)) ())
 exact tJ (hk2 bn ())
theorem M9 {a0 a1 r} (h:Ga N a0 a1=some r) (ha:args=[.str a0,.int .u64 a1]) (hQ: ∀n',n≤n'→Gl (Q (.tuple [.int .u64 r.1,.int .i64 r.2]) ⟨m,n'⟩)):ACall vE 210 args ⟨m,n⟩ Q:=by
 rw[Ga]at h
 subst ha
 refine ent hQ Tryz.func210 rfl Tryz.ntmps210 Tryz.results210 (.q (.r []) (.q .z (.q (.r []) .z))) fun R hR=>?_
 replace h:=And.intro trivial h
 simp(disch:=omega) only[vm,seval,h.1]
 refine⟨AQ (γ:=Unit) h [6,7,8,9,10,11,12,13,14,15,16] [17] (fun j1 g=>[.bool j1]) (fun j1 g=>m) (.r []) ?_ ?_⟩<;>clear h
 rintro j1 _ n4 hnn4 _ _ h
 refine AB (.c (.q (.r []) .z) .z) ?_
 rcases AC h with h|h
 exact tR
 obtain⟨y8,h⟩:=AA h
 simp(disch:=omega) only[vm,seval,h.1]
 refine⟨Tg h.1.1 tD fun n9 hn9=>?_⟩
 exact tR
 intro k2 Jk2 hk2 h
 obtain⟨y5,h⟩:=AA h
 simp(disch:=omega) only[vm,seval,h.1]
 refine⟨Nz h.1.1 tD fun n6 hn6=>?_⟩
 rcases AC h with h|h
 rcases AC h with h|h
 obtain⟨x7,h⟩:=AA h
 exact tJ (hk2 ((AL x7)==48) ())
 exact tJ (hk2 false ())
 exact tJ (hk2 false ())
theorem PX {a0 a1 a2 a3 r} (h:strings_genSplit N a0 a1 a2 a3=some r) (ha:args=[.str a0,.str a1,.int .i64 a2,.int .i64 a3]) (hQ: ∀n',n≤n'→Gl (Q (.slice 1 (List.map AVal.str r) false) ⟨m,n'⟩)):ACall vE 251 args ⟨m,n⟩ Q:=by
 rw[strings_genSplit]at h
 subst ha
 refine ACall.give (AL9 Tryz.func251 rfl Tryz.ntmps251 Tryz.results251 (.q (.r []) (.q (.q (.r []) (.c (.q (.r []) .z) .z)) (.q (.q (.r []) (.c (.q (.r []) .z) .z)) .z))) (fun R hR=>?_))
 replace h:=And.intro trivial h
 rcases AC h with h|h
 cases h.2
 rcases AC h with h|h
 obtain⟨y1,h⟩:=AA h
 simp(disch:=omega) only[vm,seval,h.1]
 refine⟨QN h.1.1 tD fun n2 hn2=>?_⟩
 cases h.2
 simp(disch:=omega) only[vm,seval,h.1]
 refine⟨AQ (γ:=Unit) h [19,20,21,22,23,24] [3] (fun j3 g=>[.int .i64 j3]) (fun j3 g=>m) (.q (.r []) (.c (.r []) .z)) ?_ ?_⟩<;>clear h
 rintro j3 _ n6 hnn6 _ _ h
 refine AB (.q (.r []) (.q (.r []) (.q (.r []) (.q (.r []) .z)))) ?_
 obtain⟨c,h⟩:=AR h
 try simp only[liE,seval]at c
 replace h:=AP c h
 simp(disch:=omega) only[vm,seval,h.1]
 refine⟨AQ (γ:=Unit) h [11,34,35,36,37,38,39,40,41,42,43,44,45,46,47,48,49,50,51,52,53,54,55,56,57] [0,10] (fun j9 g=>[.str j9.1,.int .i64 j9.2.1]) (fun j9 g=>(n6,List.map AVal.str j9.2.2)::m) .z ?_ ?_⟩<;>clear h
 rintro j9 _ n12 hnn12 _ _ h
 refine AB (.q (.r []) (.q (.r []) .z)) ?_
 obtain⟨c,h⟩:=AR h
 try simp only[liE,seval]at c
 replace h:=AP c h
 obtain⟨c,h⟩:=AR h
 try simp only[liE,seval]at c
 replace h:=AP c h
 obtain⟨c,h⟩:=AR h
 try simp only[liE,seval]at c
 replace h:=AP c h
 obtain⟨cg,h⟩:=AR h
 obtain⟨H,h⟩:=h
 cases h
 simp(disch:=omega) only[vm,seval,H]
 refine⟨(hR _ _ _ _ _ _ (by simp(disch:=omega) only[vm,seval,H];rfl) slr (by omega) ⟨[_],_,_,rfl,AIs (l:=(j9.2.2.set j9.2.1.toNat j9.1)) (by simpa only[List.length_set]using cg),rfl,(hQ _ (by first|omega|(dsimp only;omega))).go⟩).1⟩
 intro k10 Jk10 hk10 h
 obtain⟨hfk13,h⟩:=AR h
 simp(disch:=omega) only[vm,seval,h.1]
 refine⟨UN (σ:=(List UInt8)×(List (List UInt8))) (γ:=Unit) 0 (wr .i64 ((if(wr .i64 ((a0.length:Int)+1))<j3 then(wr .i64 ((a0.length:Int)+1))else j3)-1)) hfk13 (fun xs i s=>BZ N a0 a1 a2 j3 k10 xs i s.1 s.2) (fun i s g=>[.str s.1,.int .i64 i]) (fun i s g=>(n6,List.map AVal.str s.2)::m) [11,34,35,36,37,38,39,40,41,42,43,44,45,46,47,48,49,50,51,52,53,54,55,56,57] [0,10] (a0,(List.replicate (if(wr .i64 ((a0.length:Int)+1))<j3 then(wr .i64 ((a0.length:Int)+1))else j3).toNat ([]:List UInt8))) () h tD tD ?_ ?_⟩<;>clear h
 rintro s10 ⟨s0,bn6⟩ _ nL0_1 hnL0_1 _ h
 change _∧BZ N a0 a1 a2 j3 k10 0 s10 s0 bn6=_ at h
 rw[BZ]at h
 refine AB (.q (.q (.r []) (.c .z .z)) (.q (.r []) (.q (.q (.r []) (.c .z .z)) (.q (.r []) (.q (.r []) (.r [])))))) ?_
 exact tJ (hk10 (s0,s10,bn6) ())
 rintro xsk13 s10 ⟨s0,bn6⟩ _ nL0_1 hnL0_1 _ h Jk13 hk13
 change _∧BZ N a0 a1 a2 j3 k10 (xsk13+1) s10 s0 bn6=_ at h
 rw[BZ]at h
 refine AB (.q (.q (.r []) (.c .z .z)) (.q (.r []) (.q (.q (.r []) (.c .z .z)) (.q (.r []) (.q (.r []) (.r [])))))) ?_
 obtain⟨y14,h⟩:=AA h
 simp(disch:=omega) only[vm,seval,h.1]
 refine⟨IU h.1.1 tD fun n15 hn15=>?_⟩
 rcases AC h with h|h
 exact tJ (hk10 (s0,s10,bn6) ())
 obtain⟨x16,h⟩:=AA h
 obtain⟨c,h⟩:=AR h
 try simp only[liE,seval]at c
 replace h:=AP c h
 obtain⟨c,h⟩:=AR h
 try simp only[liE,seval]at c
 replace h:=AP c h
 obtain⟨x17,h⟩:=AA h
 exact tJ (hk13 (x17,(bn6.set s10.toNat x16)) ())
 intro k4 Jk4 hk4 h
 rcases AC h with h|h
 obtain⟨y7,h⟩:=AA h
 simp(disch:=omega) only[vm,seval,h.1]
 refine⟨NL h.1.1 tD fun n8 hn8=>?_⟩
 exact tJ (hk4 (wr .i64 (y7+1)) ())
 exact tJ (hk4 a3 ())
theorem AFL {a0 r} (h:OV N a0=some r) (ha:args=[.str a0]) (hQ: ∀n',n≤n'→Gl (Q (.bool r) ⟨m,n'⟩)):ACall vE 209 args ⟨m,n⟩ Q:=by
 rw[OV]at h
 subst ha
 refine ent hQ Tryz.func209 rfl Tryz.ntmps209 Tryz.results209 (.q (.r []) .z) fun R hR=>?_
 replace h:=And.intro trivial h
 simp(disch:=omega) only[vm,seval,h.1]
 refine⟨Kq (σ:=(List UInt8)) (γ:=Unit) (fun k s=>GH N k s) (fun s g=>[.str s]) (fun s g=>m) [2,3,4,5,6,7,8,9,10,11,12,13,14,15,16,17,18,19,20] [0] a0 () h (fun _=>rfl) tD tD ?_⟩
 clear h
 rintro k1 s0 _ nL0_1 hnL0_1 _ h Jk1 hk1
 change _∧GH N (k1+1) s0=_ at h
 rw[GH]at h
 refine AB (.q (.r []) (.q (.q (.r []) (.c (.q (.r []) .z) .z)) (.q (.q (.r []) (.c (.q (.r []) .z) .z)) (.r [])))) ?_
 obtain⟨y2,h⟩:=AA h
 simp(disch:=omega) only[vm,seval,h.1]
 refine⟨ET h.1.1 tD fun n3 hn3=>?_⟩
 obtain⟨y4,h⟩:=AA h
 simp(disch:=omega) only[vm,seval,h.1]
 refine⟨ABF h.1.1 tD fun n5 hn5=>?_⟩
 rcases AC h with h|h
 rcases AC h with h|h
 exact tJ (hk1 y2.2.1 ())
 obtain⟨y6,h⟩:=AA h
 simp(disch:=omega) only[vm,seval,h.1]
 refine⟨Nz h.1.1 tD fun n7 hn7=>?_⟩
 exact tR
 exact tR
theorem AFt {a0 r} (h:Ps N a0=some r) (ha:args=[.str a0]) (hQ: ∀n',n≤n'→Gl (Q (.tuple [.str r.1,.str r.2.1,.int .i64 r.2.2]) ⟨m,n'⟩)):ACall vE 254 args ⟨m,n⟩ Q:=by
 rw[Ps]at h
 subst ha
 refine ent hQ Tryz.func254 rfl Tryz.ntmps254 Tryz.results254 (.q (.r []) (.q (.q (.r []) (.c (.q (.r []) .z) .z)) (.q .z (.q (.r []) (.q (.q (.r []) (.c (.q (.r []) .z) .z)) (.q (.r []) .z)))))) fun R hR=>?_
 replace h:=And.intro trivial h
 rcases AC h with h|h
 exact tR
 simp(disch:=omega) only[vm,seval,h.1]
 refine⟨AQ (γ:=Unit) h [9,10,11,12,13,14,15,16] [17] (fun j1 g=>[.bool j1]) (fun j1 g=>m) (.r []) ?_ ?_⟩<;>clear h
 rintro j1 _ n4 hnn4 _ _ h
 refine AB (.c (.q (.r []) .z) .z) ?_
 rcases AC h with h|h
 exact tR
 obtain⟨x8,h⟩:=AA h
 obtain⟨y9,h⟩:=AA h
 simp(disch:=omega) only[vm,seval,h.1]
 refine⟨ET h.1.1 tD fun n10 hn10=>?_⟩
 rcases AC h with h|h
 exact tR
 exact tR
 intro k2 Jk2 hk2 h
 rcases AC h with h|h
 exact tJ (hk2 true ())
 obtain⟨x5,h⟩:=AA h
 obtain⟨y6,h⟩:=AA h
 simp(disch:=omega) only[vm,seval,h.1]
 refine⟨Lj h.1.1 tD fun n7 hn7=>?_⟩
 exact tJ (hk2 (!y6) ())
theorem NM {a0 a1 r} (h:strings_ContainsAny N a0 a1=some r) (ha:args=[.str a0,.str a1]) (hQ: ∀n',n≤n'→Gl (Q (.bool r) ⟨m,n'⟩)):ACall vE 255 args ⟨m,n⟩ Q:=by
 rw[strings_ContainsAny]at h
 subst ha
 refine ent hQ Tryz.func255 rfl Tryz.ntmps255 Tryz.results255 (.q (.r []) (.q (.r []) .z)) fun R hR=>?_
 replace h:=And.intro trivial h
 obtain⟨y1,h⟩:=AA h
 simp(disch:=omega) only[vm,seval,h.1]
 refine⟨Kv h.1.1 tD fun n2 hn2=>?_⟩
 exact tR
theorem Hz {a0 a1 r} (h:EY N a0 a1=some r) (ha:args=[.str a0,.str a1]) (hQ: ∀n',n≤n'→Gl (Q (.str r) ⟨m,n'⟩)):ACall vE 33 args ⟨m,n⟩ Q:=by
 rw[EY]at h
 subst ha
 refine ent hQ Tryz.func33 rfl Tryz.ntmps33 Tryz.results33 (.q (.r []) (.q (.r []) .z)) fun R hR=>?_
 replace h:=And.intro trivial h
 simp(disch:=omega) only[vm,seval,h.1]
 refine⟨AQ (γ:=Unit) h [6,7,8,9,10,11,12,13,14,15,16,17,18,19,20,21,22,23,24,25,26,27,28,29,30,31,32,33,34] [] (fun j1 g=>[]) (fun j1 g=>(n,[.slice 1 (List.map (AVal.int .u8) j1) true])::m) (.q (.r []) .z) ?_ ?_⟩<;>clear h
 rintro j1 _ n4 hnn4 _ _ h
 refine AB (.q (.r []) .z) ?_
 exact tR
 intro k2 Jk2 hk2 h
 obtain⟨hfk5,h⟩:=AR h
 simp(disch:=omega) only[vm,seval,h.1]
 refine⟨BM (σ:=(List Int)) (γ:=Unit) a0 hfk5 (fun xs i s=>Bd N a1 k2 xs s) (fun i s g=>[.int .i64 i]) (fun i s g=>(n,[.slice 1 (List.map (AVal.int .u8) s) true])::m) [6,7,11,12,13,14,15,16,17,18,19,20,21,22,23,24,25,26,27,28,29,30,31,32,33,34] [10] [] () h tD tD ?_ ?_⟩<;>clear h
 rintro s10 bn _ nL0_1 hnL0_1 _ h
 change _∧Bd N a1 k2 [] bn=_ at h
 rw[Bd]at h
 refine AB (.q (.r []) (.q (.c .z .z) .z)) ?_
 exact tJ (hk2 bn ())
 rintro xk5 xsk5 s10 bn _ nL0_1 hnL0_1 _ h Jk5 hk5
 change _∧Bd N a1 k2 (xk5::xsk5) bn=_ at h
 rw[Bd]at h
 refine AB (.q (.r []) (.q (.c .z .z) .z)) ?_
 simp(disch:=omega) only[vm,seval,h.1]
 refine⟨AQ (γ:=Unit) h [6,7,12,13,14,15,16,17,18,19,20,21,22,23,24,25,26,27,28,29,30,31,32,33] [] (fun j6 g=>[]) (fun j6 g=>(n,[.slice 1 (List.map (AVal.int .u8) j6) true])::m) (.q (.r []) (.q (.r []) .z)) ?_ ?_⟩<;>clear h
 rintro j6 _ n9 hnn9 _ _ h
 refine AB (.r []) ?_
 exact tJ (hk5 j6 ())
 intro k7 Jk7 hk7 h
 simp(disch:=omega) only[vm,seval,h.1]
 refine⟨AQ (γ:=Unit) h [16,17,18,19,20,21,22,23,24,25,26] [27] (fun j10 g=>[.bool j10]) (fun j10 g=>(n,[.slice 1 (List.map (AVal.int .u8) bn) true])::m) (.r []) ?_ ?_⟩<;>clear h
 rintro j10 _ n13 hnn13 _ _ h
 refine AB (.c (.r [28]) (.r [])) ?_
 rcases AC h with h|h
 obtain⟨c,h⟩:=AR h
 try simp only[liE,seval]at c
 replace h:=AP c h
 exact tJ (hk7 (bn++[(AL xk5)]) ())
 obtain⟨y18,h⟩:=AA h
 simp(disch:=omega) only[vm,seval,h.1]
 refine⟨JZ h.1.1 tD (i0:=n) (by simp(disch:=omega) only[vm,seval,h.1]) fun n19 hn19=>?_⟩
 exact tJ (hk7 y18 ())
 intro k11 Jk11 hk11 h
 obtain⟨y14,h⟩:=AA h
 simp(disch:=omega) only[vm,seval,h.1]
 refine⟨Ee h.1.1 tD fun n15 hn15=>?_⟩
 rcases AC h with h|h
 exact tJ (hk11 true ())
 rcases AC h with h|h
 obtain⟨y16,h⟩:=AA h
 simp(disch:=omega) only[vm,seval,h.1]
 refine⟨Bq h.1.1 tD fun n17 hn17=>?_⟩
 exact tJ (hk11 (decide (y16≥0)) ())
 exact tJ (hk11 false ())
theorem ABh {a0 r} (h:MJ N a0=some r) (ha:args=[.str a0]) (hQ: ∀n',n≤n'→Gl (Q (.tuple [RH r.1,.int .i64 r.2]) ⟨m,n'⟩)):ACall vE 105 args ⟨m,n⟩ Q:=by
 rw[MJ]at h
 subst ha
 refine ent hQ Tryz.func105 rfl Tryz.ntmps105 Tryz.results105 (.q (.r []) (.q (.q (.r []) (.c (.q (.r []) .z) .z)) (.q (.r []) (.q (.r []) (.q (.r []) .z))))) fun R hR=>?_
 replace h:=And.intro trivial h
 rcases AC h with h|h
 exact tR
 obtain⟨y1,h⟩:=AA h
 simp(disch:=omega) only[vm,seval,h.1]
 refine⟨ET h.1.1 tD fun n2 hn2=>?_⟩
 obtain⟨y3,h⟩:=AA h
 simp(disch:=omega) only[vm,seval,h.1]
 refine⟨ET h.1.1 tD fun n4 hn4=>?_⟩
 simp(disch:=omega) only[vm,seval,h.1]
 refine⟨AQ (γ:=Unit) h [3,5,29,30,31,32,33,34,35,36,37,38,39,40,41,42,43,44,45,46,47,48,49,50,51,52,53] [0] (fun j5 g=>[.str j5.1]) (fun j5 g=>((n+1),[.str j5.2.1,.str [],.str [],.str y3.2.1,.str y1.2.1,.bool j5.2.2,.bool false,.bool y3.2.2,.bool y1.2.2])::(n,[.str [],.str [],.str [],.str [],.str [],.bool false,.bool false,.bool false,.bool false])::m) (.q (.r []) .z) ?_ ?_⟩<;>clear h
 rintro j5 _ n8 hnn8 _ _ h
 refine AB .z ?_
 simp(disch:=omega) only[vm,seval,h.1]
 refine⟨AQ (γ:=Unit) h [6,7,8,54,55,56,57,58,59,60,61,62,63,64,65,66,67,68,69,70,71,72,73] [0] (fun j20 g=>[.str j20.1]) (fun j20 g=>((n+1),[.str j5.2.1,.str j20.2.1,.str [],.str y3.2.1,.str y1.2.1,.bool j5.2.2,.bool j20.2.2,.bool y3.2.2,.bool y1.2.2])::(n,[.str [],.str [],.str [],.str [],.str [],.bool false,.bool false,.bool false,.bool false])::m) (.q (.r []) (.q (.r []) (.c (.q (.r []) (.q (.r []) .z)) .z))) ?_ ?_⟩<;>clear h
 rintro j20 _ n23 hnn23 _ _ h
 refine AB (.q (.r []) (.q (.r []) .z)) ?_
 exact tR
 intro k21 Jk21 hk21 h
 obtain⟨y24,h⟩:=AA h
 simp(disch:=omega) only[vm,seval,h.1]
 refine⟨KS h.1.1 tD fun n25 hn25=>?_⟩
 rcases AC h with h|h
 obtain⟨y26,h⟩:=AA h
 simp(disch:=omega) only[vm,seval,h.1]
 refine⟨Bq h.1.1 tD fun n27 hn27=>?_⟩
 simp(disch:=omega) only[vm,seval,h.1]
 refine⟨AQ (γ:=Unit) h [63,64,65,66] [8] (fun j28 g=>[.int .i64 j28]) (fun j28 g=>((n+1),[.str j5.2.1,.str [],.str [],.str y3.2.1,.str y1.2.1,.bool j5.2.2,.bool true,.bool y3.2.2,.bool y1.2.2])::(n,[.str [],.str [],.str [],.str [],.str [],.bool false,.bool false,.bool false,.bool false])::m) (.q (.r []) (.c (.r []) .z)) ?_ ?_⟩<;>clear h
 rintro j28 _ n31 hnn31 _ _ h
 refine AB .z ?_
 obtain⟨x32,h⟩:=AA h
 obtain⟨x33,h⟩:=AA h
 simp(disch:=omega) only[vm,seval,h.1]
 refine⟨BI [] (.take 0 (.take 1 (.take 2 (.take 3 (.take 4 (.take 5 (.take 6 (.alt 7 [5,4,3] (.alt 8 [] (.done) (.stop)) (.stop))))))))) Au (by kernel_rfl) ?_⟩
 exact tJ (hk21 (x33,x32,true) ())
 intro k29 Jk29 hk29 h
 rcases AC h with h|h
 exact tJ (hk29 (y24.1.length:Int) ())
 exact tJ (hk29 y26 ())
 exact tJ (hk21 (j5.1,[],false) ())
 intro k6 Jk6 hk6 h
 obtain⟨y9,h⟩:=AA h
 simp(disch:=omega) only[vm,seval,h.1]
 refine⟨Kv h.1.1 tD fun n10 hn10=>?_⟩
 simp(disch:=omega) only[vm,seval,h.1]
 refine⟨AQ (γ:=Unit) h [31,32,33,34,35,36,37] [38] (fun j11 g=>[.bool j11]) (fun j11 g=>((n+1),[.str [],.str [],.str [],.str y3.2.1,.str y1.2.1,.bool false,.bool false,.bool y3.2.2,.bool y1.2.2])::(n,[.str [],.str [],.str [],.str [],.str [],.bool false,.bool false,.bool false,.bool false])::m) (.r []) ?_ ?_⟩<;>clear h
 rintro j11 _ n14 hnn14 _ _ h
 refine AB (.c (.q (.q (.r []) (.c (.q (.r []) .z) .z)) .z) .z) ?_
 rcases AC h with h|h
 obtain⟨x16,h⟩:=AA h
 obtain⟨y17,h⟩:=AA h
 simp(disch:=omega) only[vm,seval,h.1]
 refine⟨ZQ h.1.1 tD fun n18 hn18=>?_⟩
 rcases AC h with h|h
 obtain⟨x19,h⟩:=AA h
 simp(disch:=omega) only[vm,seval,h.1]
 refine⟨BI [] (.take 0 (.take 1 (.take 2 (.take 3 (.take 4 (.take 5 (.take 6 (.take 7 (.alt 8 [6,5,4,3] (.take 9 (.alt 10 [6,5,4,3] (.alt 11 [] (.done) (.stop)) (.stop))) (.stop)))))))))) Au (by kernel_rfl) ?_⟩
 exact tJ (hk6 (x19,x16,true) ())
 exact tR
 exact tJ (hk6 (y3.1,[],false) ())
 intro k12 Jk12 hk12 h
 rcases AC h with h|h
 obtain⟨x15,h⟩:=AA h
 exact tJ (hk12 ((AL x15)==58) ())
 exact tJ (hk12 false ())
theorem QZ {a0 a1 a2 a3 r} (h:strings_Replace N a0 a1 a2 a3=some r) (ha:args=[.str a0,.str a1,.str a2,.int .i64 a3]) (hQ: ∀n',n≤n'→Gl (Q (.str r) ⟨m,n'⟩)):ACall vE 232 args ⟨m,n⟩ Q:=by
 rw[strings_Replace]at h
 subst ha
 refine ent hQ Tryz.func232 rfl Tryz.ntmps232 Tryz.results232 (.q (.r []) (.q .z .z)) fun R hR=>?_
 replace h:=And.intro trivial h
 simp(disch:=omega) only[vm,seval,h.1]
 refine⟨AQ (γ:=Unit) h [16,17,18,19,20,21] [22] (fun j1 g=>[.bool j1]) (fun j1 g=>m) (.r []) ?_ ?_⟩<;>clear h
 rintro j1 _ n4 hnn4 _ _ h
 refine AB (.c (.q (.r []) .z) .z) ?_
 rcases AC h with h|h
 exact tR
 simp(disch:=omega) only[vm,seval,h.1]
 refine⟨AQ (γ:=Unit) h [8,9,24,25,26,27,28,29,30,31,32,33,34,35,36,37] [3] (fun j5 g=>[.int .i64 j5]) (fun j5 g=>m) (.q (.r []) (.q (.r []) (.c (.q (.r []) .z) .z))) ?_ ?_⟩<;>clear h
 rintro j5 _ n8 hnn8 _ _ h
 refine AB (.q (.r [10]) (.q (.r []) (.q (.r []) .z))) ?_
 obtain⟨y15,h⟩:=AA h
 simp(disch:=omega) only[vm,seval,h.1]
 refine⟨Me h.1.1 tD (i0:=n8) (by simp(disch:=omega) only[vm,seval,h.1]) fun n16 hn16=>?_⟩
 try dsimp only at hn16
 simp(disch:=omega) only[vm,seval,h.1]
 refine⟨AQ (γ:=Unit) h [12,13,14,15,49,50,51,52,53,54,55,56,57,58,59,60,61,62,63,64,65,66,67,68,69,70,71,72,73,74,75,76,77,78,79,80,81,82,83,84,85,86,87,88,89,90,91,92,93,94,95,96,97,98] [11] (fun j17 g=>[.int .i64 j17.1]) (fun j17 g=>(n8,[H7 n8 196 2 j17.2.1,.buf 5 j17.2.2 true])::m) (.q (.r []) (.c (.q (.r []) .z) (.q (.r []) (.q (.r []) .z)))) ?_ ?_⟩<;>clear h
 rintro j17 _ n20 hnn20 _ _ h
 refine AB (.q (.r []) (.q (.r []) .z)) ?_
 obtain⟨x41,h⟩:=AA h
 obtain⟨y42,h⟩:=AA h
 simp(disch:=omega) only[vm,seval,h.1]
 refine⟨BB h.1.1 tD (i0:=n8) (by simp(disch:=omega) only[vm,seval,h.1]) fun n43 hn43=>?_⟩
 obtain⟨y44,h⟩:=AA h
 simp(disch:=omega) only[vm,seval,h.1]
 refine⟨FY h.1.1 tD (i0:=n8) (by simp(disch:=omega) only[vm,seval,h.1]) fun n45 hn45=>?_⟩
 exact tR
 intro k18 Jk18 hk18 h
 rcases AC h with h|h
 obtain⟨hfk21,h⟩:=AR h
 simp(disch:=omega) only[vm,seval,h.1]
 refine⟨UN (σ:=Int×Bool×(List UInt8)) (γ:=Unit) 0 j5 hfk21 (fun xs i s=>Bn N a0 a1 a2 k18 xs s.1 s.2.1 s.2.2) (fun i s g=>[.int .i64 s.1,.int .i64 i]) (fun i s g=>(n8,[H7 n8 196 2 s.2.1,.buf 5 s.2.2 true])::m) [12,54,55,56,57,58,59,60,61,62,63,64,65,66,67,68,69,70,71,72,73] [11,53] (0,true,[]) () h tD tD ?_ ?_⟩<;>clear h
 rintro s53 ⟨s11,bn8_addr,bn8_buf⟩ _ nL0_1 hnL0_1 _ h
 change _∧Bn N a0 a1 a2 k18 0 s11 bn8_addr bn8_buf=_ at h
 rw[Bn]at h
 refine AB (.q (.r []) (.q (.c .z .z) (.q (.q (.r []) (.q (.r []) (.q (.r []) (.r [])))) (.r [])))) ?_
 exact tJ (hk18 (s11,bn8_addr,bn8_buf) ())
 rintro xsk21 s53 ⟨s11,bn8_addr,bn8_buf⟩ _ nL0_1 hnL0_1 _ h Jk21 hk21
 change _∧Bn N a0 a1 a2 k18 (xsk21+1) s11 bn8_addr bn8_buf=_ at h
 rw[Bn]at h
 refine AB (.q (.r []) (.q (.c .z .z) (.q (.q (.r []) (.q (.r []) (.q (.r []) (.r [])))) (.r [])))) ?_
 obtain⟨x22,h⟩:=AA h
 obtain⟨y23,h⟩:=AA h
 simp(disch:=omega) only[vm,seval,h.1]
 refine⟨IU h.1.1 tD fun n24 hn24=>?_⟩
 obtain⟨x25,h⟩:=AA h
 obtain⟨y26,h⟩:=AA h
 simp(disch:=omega) only[vm,seval,h.1]
 refine⟨BB h.1.1 tD (i0:=n8) (by simp(disch:=omega) only[vm,seval,h.1]) fun n27 hn27=>?_⟩
 obtain⟨y28,h⟩:=AA h
 simp(disch:=omega) only[vm,seval,h.1]
 refine⟨BB h.1.1 tD (i0:=n8) (by simp(disch:=omega) only[vm,seval,h.1]) fun n29 hn29=>?_⟩
 exact tJ (hk21 ((wr .i64 ((wr .i64 (s11+y23))+(a1.length:Int))),y28.2.2.addr,y28.2.2.buf) ())
 obtain⟨y30,h⟩:=AA h
 simp(disch:=omega) only[vm,seval,h.1]
 refine⟨BB h.1.1 tD (i0:=n8) (by simp(disch:=omega) only[vm,seval,h.1]) fun n31 hn31=>?_⟩
 obtain⟨hfk32,h⟩:=AR h
 simp(disch:=omega) only[vm,seval,h.1]
 refine⟨UN (σ:=Int×StringsBuilder) (γ:=Unit) 0 (wr .i64 (j5-1)) hfk32 (fun xs i s=>Dm N a0 a2 k18 xs s.1 s.2) (fun i s g=>[.int .i64 s.1,.int .i64 i]) (fun i s g=>(n8,[H7 n8 196 2 s.2.addr,.buf 5 s.2.buf true])::m) [13,14,15,79,80,81,82,83,84,85,86,87,88,89,90,91,92,93,94,95,96,97,98] [11,78] (0,y30.2.2) () h tD tD ?_ ?_⟩<;>clear h
 rintro s78 ⟨s11,bn8⟩ _ nL1_1 hnL1_1 _ h
 change _∧Dm N a0 a2 k18 0 s11 bn8=_ at h
 rw[Dm]at h
 refine AB (.q (.r []) (.q (.c .z .z) (.q (.q (.r []) (.q (.r []) (.q (.r []) (.q (.r []) (.r []))))) (.r [])))) ?_
 exact tJ (hk18 (s11,bn8.addr,bn8.buf) ())
 rintro xsk32 s78 ⟨s11,bn8⟩ _ nL1_1 hnL1_1 _ h Jk32 hk32
 change _∧Dm N a0 a2 k18 (xsk32+1) s11 bn8=_ at h
 rw[Dm]at h
 refine AB (.q (.r []) (.q (.c .z .z) (.q (.q (.r []) (.q (.r []) (.q (.r []) (.q (.r []) (.r []))))) (.r [])))) ?_
 obtain⟨x33,h⟩:=AA h
 obtain⟨y34,h⟩:=AA h
 simp(disch:=omega) only[vm,seval,h.1]
 refine⟨FC h.1.1 tD fun n35 hn35=>?_⟩
 obtain⟨x36,h⟩:=AA h
 obtain⟨y37,h⟩:=AA h
 simp(disch:=omega) only[vm,seval,h.1]
 refine⟨BB h.1.1 tD (i0:=n8) (by simp(disch:=omega) only[vm,seval,h.1]) fun n38 hn38=>?_⟩
 obtain⟨y39,h⟩:=AA h
 simp(disch:=omega) only[vm,seval,h.1]
 refine⟨BB h.1.1 tD (i0:=n8) (by simp(disch:=omega) only[vm,seval,h.1]) fun n40 hn40=>?_⟩
 exact tJ (hk32 ((wr .i64 (s11+y34.2)),y39.2.2) ())
 intro k6 Jk6 hk6 h
 obtain⟨y9,h⟩:=AA h
 simp(disch:=omega) only[vm,seval,h.1]
 refine⟨NL h.1.1 tD fun n10 hn10=>?_⟩
 rcases AC h with h|h
 exact tR
 simp(disch:=omega) only[vm,seval,h.1]
 refine⟨AQ (γ:=Unit) h [30,31,32,33,34,35] [36] (fun j11 g=>[.bool j11]) (fun j11 g=>m) (.r []) ?_ ?_⟩<;>clear h
 rintro j11 _ n14 hnn14 _ _ h
 refine AB (.c (.r []) .z) ?_
 rcases AC h with h|h
 exact tJ (hk6 y9 ())
 exact tJ (hk6 a3 ())
 intro k12 Jk12 hk12 h
 rcases AC h with h|h
 exact tJ (hk12 true ())
 exact tJ (hk12 (decide (y9<a3)) ())
 intro k2 Jk2 hk2 h
 rcases AC h with h|h
 exact tJ (hk2 true ())
 exact tJ (hk2 (a3==0) ())
theorem OJ {a0 r} (h:Hg N a0=some r) (ha:args=[.str a0]) (hQ: ∀n',n≤n'→Gl (Q (.bool r) ⟨m,n'⟩)):ACall vE 129 args ⟨m,n⟩ Q:=by
 rw[Hg]at h
 subst ha
 refine ent hQ Tryz.func129 rfl Tryz.ntmps129 Tryz.results129 (.q (.r []) (.q (.r []) .z)) fun R hR=>?_
 replace h:=And.intro trivial h
 obtain⟨y1,h⟩:=AA h
 simp(disch:=omega) only[vm,seval,h.1]
 refine⟨Gb h.1.1 tD fun n2 hn2=>?_⟩
 simp(disch:=omega) only[vm,seval,h.1]
 refine⟨AQ (γ:=Unit) h [2,5,6,7,10,11,12,13,14,15,16,17,18,19,20,21,22,23] [] (fun j3 g=>[]) (fun j3 g=>m) (.q (.r []) .z) ?_ ?_⟩<;>clear h
 rintro j3 _ n6 hnn6 _ _ h
 refine AB (.q (.r []) .z) ?_
 exact tR
 intro k4 Jk4 hk4 h
 obtain⟨hfk7,h⟩:=AR h
 simp(disch:=omega) only[vm,seval,h.1]
 refine⟨BM (σ:=Unit) (γ:=Unit) y1 hfk7 (fun xs i s=>Cm N k4 xs) (fun i s g=>[.int .i64 i]) (fun i s g=>m) [2,5,6,7,13,14,15,16,17,18,19,20,21,22,23] [12] () () h tD tD ?_ ?_⟩<;>clear h
 rintro s12 _ _ nL0_1 hnL0_1 _ h
 change _∧Cm N k4 []=_ at h
 rw[Cm]at h
 refine AB (.q (.r []) (.q (.c .z .z) (.q (.q (.r []) (.q (.r []) (.q (.r []) (.c (.q (.r []) .z) .z)))) (.r [])))) ?_
 exact tJ (hk4 () ())
 rintro xk7 xsk7 s12 _ _ nL0_1 hnL0_1 _ h Jk7 hk7
 change _∧Cm N k4 (xk7::xsk7)=_ at h
 rw[Cm]at h
 refine AB (.q (.r []) (.q (.c .z .z) (.q (.q (.r []) (.q (.r []) (.q (.r []) (.c (.q (.r []) .z) .z)))) (.r [])))) ?_
 obtain⟨y8,h⟩:=AA h
 simp(disch:=omega) only[vm,seval,h.1]
 refine⟨Nc h.1.1 tD fun n9 hn9=>?_⟩
 rcases AC h with h|h
 exact tR
 exact tJ (hk7 () ())
theorem ABS {a0 r} (h:Ko N a0=some r) (ha:args=[.str a0]) (hQ: ∀n',n≤n'→Gl (Q (.tuple [.int .i64 r.1,.int .i64 r.2]) ⟨m,n'⟩)):ACall vE 218 args ⟨m,n⟩ Q:=by
 rw[Ko]at h
 subst ha
 refine ent hQ Tryz.func218 rfl Tryz.ntmps218 Tryz.results218 (.q (.r []) (.q (.r []) (.q .z (.q (.r []) .z)))) fun R hR=>?_
 replace h:=And.intro trivial h
 obtain⟨y1,h⟩:=AA h
 simp(disch:=omega) only[vm,seval,h.1]
 refine⟨Nc h.1.1 tD fun n2 hn2=>?_⟩
 simp(disch:=omega) only[vm,seval,h.1]
 refine⟨AQ (γ:=Unit) h [11,12,13,14,15] [16] (fun j3 g=>[.bool j3]) (fun j3 g=>m) (.r []) ?_ ?_⟩<;>clear h
 rintro j3 _ n6 hnn6 _ _ h
 refine AB (.c (.q (.r []) .z) .z) ?_
 rcases AC h with h|h
 exact tR
 exact tR
 intro k4 Jk4 hk4 h
 rcases AC h with h|h
 exact tJ (hk4 true ())
 exact tJ (hk4 (y1.1==0) ())
end Go.Proofs.YtjgdhjpafjpjgaaGreatDoor
