import Derived.Test.YtjgdhjpafjpjgaaGreatDoorVmFacts
import Derived.Test.YtjgdhjpafjpjgaaGreatDoorDefs
import Derived.Test.YtjgdhjpafjpjgaaGreatDoorVM2
import Derived.Test.YtjgdhjpafjpjgaaGreatDoorW0
import Derived.Test.YtjgdhjpafjpjgaaGreatDoorW2
import Derived.Test.YtjgdhjpafjpjgaaGreatDoorW4
import Derived.Test.YtjgdhjpafjpjgaaGreatDoorW5
set_option linter.unusedVariables false
set_option linter.unusedSimpArgs false
set_option maxHeartbeats 4000000
set_option maxRecDepth 100000
set_option linter.defProp false
namespace Go.Proofs.YtjgdhjpafjpjgaaGreatDoor
open Go.VM
variable{N n:Nat}{m:MS}{Q:PQ}{args:List AVal}
theorem ET {a0 a1 r} (h:strings_Cut N a0 a1=some r) (ha:args=[.str a0,.str a1]) (hQ: ∀n',n≤n'→Gl (Q (.tuple [.str r.1,.str r.2.1,.bool r.2.2]) ⟨m,n'⟩)):ACall vE 38 args ⟨m,n⟩ Q:=by
 rw[strings_Cut]at h
 subst ha
 refine ent hQ Tryz.func38 rfl Tryz.ntmps38 Tryz.results38 (.q (.r []) (.q (.r []) .z)) fun R hR=>?_
 replace h:=And.intro trivial h
 obtain⟨y1,h⟩:=AA h
 simp(disch:=omega) only[vm,seval,h.1]
 refine⟨Kr h.1.1 tD fun n2 hn2=>?_⟩
 exact tR
theorem Ee {a0 r} (h:CK N a0=some r) (ha:args=[.int .u8 a0]) (hQ: ∀n',n≤n'→Gl (Q (.bool r) ⟨m,n'⟩)):ACall vE 77 args ⟨m,n⟩ Q:=by
 rw[CK]at h
 subst ha
 refine ent hQ Tryz.func77 rfl Tryz.ntmps77 Tryz.results77 (.q (.r []) (.q (.r []) .z)) fun R hR=>?_
 replace h:=And.intro trivial h
 obtain⟨y1,h⟩:=AA h
 simp(disch:=omega) only[vm,seval,h.1]
 refine⟨VE h.1.1 tD fun n2 hn2=>?_⟩
 rcases AC h with h|h
 exact tR
 obtain⟨y3,h⟩:=AA h
 simp(disch:=omega) only[vm,seval,h.1]
 refine⟨U5 h.1.1 tD fun n4 hn4=>?_⟩
 exact tR
theorem Tg {a0 a1 r} (h:JF N a0 a1=some r) (ha:args=[.str a0,.int .u64 a1]) (hQ: ∀n',n≤n'→Gl (Q (.tuple [.int .u64 r.1,.int .i64 r.2]) ⟨m,n'⟩)):ACall vE 237 args ⟨m,n⟩ Q:=by
 rw[JF]at h
 subst ha
 refine ent hQ Tryz.func237 rfl Tryz.ntmps237 Tryz.results237 (.q (.r []) (.q (.r []) .z)) fun R hR=>?_
 replace h:=And.intro trivial h
 obtain⟨y1,h⟩:=AA h
 simp(disch:=omega) only[vm,seval,h.1]
 refine⟨KE h.1.1 tD fun n2 hn2=>?_⟩
 exact tR
theorem NL {a0 a1 r} (h:strings_Count N a0 a1=some r) (ha:args=[.str a0,.str a1]) (hQ: ∀n',n≤n'→Gl (Q (.int .i64 r) ⟨m,n'⟩)):ACall vE 248 args ⟨m,n⟩ Q:=by
 rw[strings_Count]at h
 subst ha
 refine ent hQ Tryz.func248 rfl Tryz.ntmps248 Tryz.results248 (.q (.r []) (.q (.q (.r []) (.c (.q (.r []) .z) .z)) (.q (.q (.r []) (.c (.q (.r []) .z) .z)) (.q (.r []) .z)))) fun R hR=>?_
 replace h:=And.intro trivial h
 rcases AC h with h|h
 obtain⟨y1,h⟩:=AA h
 simp(disch:=omega) only[vm,seval,h.1]
 refine⟨FO h.1.1 tD fun n2 hn2=>?_⟩
 exact tR
 rcases AC h with h|h
 obtain⟨x3,h⟩:=AA h
 simp(disch:=omega) only[vm,seval,h.1]
 refine⟨ASE ?_⟩
 exact tR
 simp(disch:=omega) only[vm,seval,h.1]
 refine⟨Kq (σ:=(List UInt8)×Int) (γ:=Unit) (fun k s=>Fx N a1 k s.1 s.2) (fun s g=>[.str s.1,.int .i64 s.2]) (fun s g=>m) [4,6,20,21,22,23,24,25,26,27,28,29,30,31,32,33] [0,5] (a0,0) () h (fun _=>rfl) tD tD ?_⟩
 clear h
 rintro k4 ⟨s0,s5⟩ _ nL0_1 hnL0_1 _ h Jk4 hk4
 change _∧Fx N a1 (k4+1) s0 s5=_ at h
 rw[Fx]at h
 refine AB (.q (.r []) (.q (.q (.r []) (.c (.q (.r []) .z) .z)) (.q (.r []) (.r [])))) ?_
 obtain⟨y5,h⟩:=AA h
 simp(disch:=omega) only[vm,seval,h.1]
 refine⟨IU h.1.1 tD fun n6 hn6=>?_⟩
 rcases AC h with h|h
 exact tR
 obtain⟨x7,h⟩:=AA h
 exact tJ (hk4 (x7,(wr .i64 (s5+1))) ())
theorem Fp {a0 r} (h:EA N a0=some r) (ha:args=[.str a0]) (hQ: ∀n',n≤n'→Gl (Q (.tuple [.str r.1,.int .i64 r.2]) ⟨m,n'⟩)):ACall vE 39 args ⟨m,n⟩ Q:=by
 rw[EA]at h
 subst ha
 refine ent hQ Tryz.func39 rfl Tryz.ntmps39 Tryz.results39 (.q (.r []) (.q (.q (.r []) (.c (.q (.r []) .z) .z)) (.q (.r []) .z))) fun R hR=>?_
 replace h:=And.intro trivial h
 rcases AC h with h|h
 exact tR
 simp(disch:=omega) only[vm,seval,h.1]
 refine⟨AQ (γ:=Unit) h [2,3,5,6,7,8,12,13,14,15,16,17,18,19,20,21,22,23,24,25,26,27,28,29,30,31,32,33,34,35,36,37] [4] (fun j1 g=>[.slice 1 (List.map (AVal.int .u8) j1) true]) (fun j1 g=>m) (.q (.r []) .z) ?_ ?_⟩<;>clear h
 rintro j1 _ n4 hnn4 _ _ h
 refine AB (.q (.r []) .z) ?_
 exact tR
 intro k2 Jk2 hk2 h
 simp(disch:=omega) only[vm,seval,h.1]
 refine⟨Kq (σ:=(List Int)×Int) (γ:=Unit) (fun k s=>C9 N a0 k2 k s.1 s.2) (fun s g=>[.slice 1 (List.map (AVal.int .u8) s.1) true,.int .i64 s.2]) (fun s g=>m) [2,3,6,7,8,12,13,14,15,16,17,18,19,20,21,22,23,24,25,26,27,28,29,30,31,32,33,34,35,36,37] [4,5] ([],0) () h (fun _=>rfl) tD tD ?_⟩
 clear h
 rintro k5 ⟨s4,s5⟩ _ nL0_1 hnL0_1 _ h Jk5 hk5
 change _∧C9 N a0 k2 (k5+1) s4 s5=_ at h
 rw[C9]at h
 refine AB (.q (.q (.r []) (.c .z .z)) (.q (.q (.r []) .z) (.r []))) ?_
 rcases AC h with h|h
 obtain⟨x6,h⟩:=AA h
 simp(disch:=omega) only[vm,seval,h.1]
 refine⟨AQ (γ:=Unit) h [2,3,7,8,21,22,23,24,25,26,27,28,29,30,31,32,33] [5,6] (fun j7 g=>[.int .i64 j7.1,.int .u8 j7.2]) (fun j7 g=>m) (.q (.r []) (.c (.q (.r []) (.q (.q (.r []) (.c (.q (.r []) .z) .z)) (.q (.r []) (.r [])))) .z)) ?_ ?_⟩<;>clear h
 rintro j7 _ n10 hnn10 _ _ h
 refine AB (.r [34]) ?_
 obtain⟨c,h⟩:=AR h
 try simp only[liE,seval]at c
 replace h:=AP c h
 exact tJ (hk5 ((s4++[j7.2]),(wr .i64 (j7.1+1))) ())
 intro k8 Jk8 hk8 h
 rcases AC h with h|h
 obtain⟨y11,h⟩:=AA h
 simp(disch:=omega) only[vm,seval,h.1]
 refine⟨Le h.1.1 tD fun n12 hn12=>?_⟩
 rcases AC h with h|h
 exact tJ (hk8 ((wr .i64 (s5+2)),y11.1) ())
 exact tR
 exact tJ (hk8 (s5,(AL x6)) ())
 exact tJ (hk2 s4 ())
theorem Kv {a0 a1 r} (h:strings_IndexAny N a0 a1=some r) (ha:args=[.str a0,.str a1]) (hQ: ∀n',n≤n'→Gl (Q (.int .i64 r) ⟨m,n'⟩)):ACall vE 158 args ⟨m,n⟩ Q:=by
 rw[strings_IndexAny]at h
 subst ha
 refine ent hQ Tryz.func158 rfl Tryz.ntmps158 Tryz.results158 (.q (.r []) (.q (.q (.r []) (.c (.q (.r []) .z) .z)) (.q (.q (.r []) (.c (.q (.r []) .z) .z)) .z))) fun R hR=>?_
 replace h:=And.intro trivial h
 rcases AC h with h|h
 exact tR
 rcases AC h with h|h
 obtain⟨x1,h⟩:=AA h
 simp(disch:=omega) only[vm,seval,h.1]
 refine⟨AQ (γ:=Unit) h [19,20] [5] (fun j2 g=>[.int .i32 j2]) (fun j2 g=>m) (.q (.r []) (.c (.r []) .z)) ?_ ?_⟩<;>clear h
 rintro j2 _ n5 hnn5 _ _ h
 refine AB (.q (.r []) .z) ?_
 obtain⟨y6,h⟩:=AA h
 simp(disch:=omega) only[vm,seval,h.1]
 refine⟨KU h.1.1 tD fun n7 hn7=>?_⟩
 exact tR
 intro k3 Jk3 hk3 h
 rcases AC h with h|h
 exact tJ (hk3 65533 ())
 exact tJ (hk3 (wr .i32 (AL x1)) ())
 simp(disch:=omega) only[vm,seval,h.1]
 refine⟨AQ (γ:=Unit) h [4,6,7,8,24,25,26,27,28,29,30,31,32,33,34,35,36,37,38,39,40,41,42,43] [] (fun j8 g=>[]) (fun j8 g=>m) (.q (.r []) (.c (.q (.r []) (.q (.r []) (.c .z .z))) .z)) ?_ ?_⟩<;>clear h
 rintro j8 _ n11 hnn11 _ _ h
 refine AB .z ?_
 simp(disch:=omega) only[vm,seval,h.1]
 refine⟨AQ (γ:=Unit) h [4,9,10,44,45,46,47,48,49,50,51,52,53,54] [] (fun j23 g=>[]) (fun j23 g=>m) (.q (.r []) .z) ?_ ?_⟩<;>clear h
 rintro j23 _ n26 hnn26 _ _ h
 refine AB (.q (.r []) .z) ?_
 exact tR
 intro k24 Jk24 hk24 h
 simp(disch:=omega) only[vm,seval,h.1]
 refine⟨Kq (σ:=Nat) (γ:=Unit) (fun k s=>Ca N a0 a1 k24 k s) (fun s g=>[.iter a0 s]) (fun s g=>m) [4,9,10,46,47,48,49,50,51,52,53,54] [45] 0 () h (fun _=>rfl) tD tD ?_⟩
 clear h
 rintro k27 s45 _ nL1_1 hnL1_1 _ h Jk27 hk27
 change _∧Ca N a0 a1 k24 (k27+1) s45=_ at h
 rw[Ca]at h
 refine AB (.q (.r []) (.q (.c .z .z) (.q (.r []) (.q (.r []) (.c (.q (.r []) .z) .z))))) ?_
 rcases AC h with h|h
 obtain⟨y28,h⟩:=AA h
 simp(disch:=omega) only[vm,seval,h.1]
 refine⟨KU h.1.1 tD fun n29 hn29=>?_⟩
 rcases AC h with h|h
 exact tR
 exact tJ (hk27 (s45+(Cx a0 s45).2) ())
 exact tJ (hk24 () ())
 intro k9 Jk9 hk9 h
 obtain⟨y12,h⟩:=AA h
 simp(disch:=omega) only[vm,seval,h.1]
 refine⟨Kg h.1.1 tD fun n13 hn13=>?_⟩
 rcases AC h with h|h
 obtain⟨y14,h⟩:=AA h
 simp(disch:=omega) only[vm,seval,h.1]
 refine⟨Mj h.1.1 tD fun n15 hn15=>?_⟩
 obtain⟨c,h⟩:=AR h
 try simp only[liE,seval]at c
 replace h:=AP c h
 obtain⟨c,h⟩:=AR h
 try simp only[liE,seval]at c
 replace h:=AP c h
 rcases AC h with h|h
 simp(disch:=omega) only[vm,seval,h.1]
 refine⟨AQ (γ:=Unit) h [4,8,33,34,35,36,37,38,39,40,41,42,43] [] (fun j16 g=>[]) (fun j16 g=>(n15,List.map AVal.bool j16)::m) (.q (.r []) .z) ?_ ?_⟩<;>clear h
 rintro j16 _ n19 hnn19 _ _ h
 refine AB (.q (.r []) .z) ?_
 exact tR
 intro k17 Jk17 hk17 h
 obtain⟨hfk20,h⟩:=AR h
 simp(disch:=omega) only[vm,seval,h.1]
 refine⟨BM (σ:=(List Bool)) (γ:=Unit) a0 hfk20 (fun xs i s=>Ba N k17 xs i s) (fun i s g=>[.int .i64 i]) (fun i s g=>(n15,List.map AVal.bool s)::m) [4,33,34,35,36,37,38,39,40,41,42,43] [8] y14.1 () h tD tD ?_ ?_⟩<;>clear h
 rintro s8 AAF _ nL0_1 hnL0_1 _ h
 change _∧Ba N k17 [] s8 AAF=_ at h
 rw[Ba]at h
 refine AB (.q (.q (.r []) (.c .z .z)) (.q (.q (.r []) (.c (.q (.r []) .z) .z)) (.r []))) ?_
 exact tJ (hk17 AAF ())
 rintro xk20 xsk20 s8 AAF _ nL0_1 hnL0_1 _ h Jk20 hk20
 change _∧Ba N k17 (xk20::xsk20) s8 AAF=_ at h
 rw[Ba]at h
 refine AB (.q (.q (.r []) (.c .z .z)) (.q (.q (.r []) (.c (.q (.r []) .z) .z)) (.r []))) ?_
 obtain⟨y21,h⟩:=AA h
 simp(disch:=omega) only[vm,seval,h.1]
 refine⟨Ki h.1.1 tD (i0:=n15) (by simp(disch:=omega) only[vm,seval,h.1]) fun n22 hn22=>?_⟩
 rcases AC h with h|h
 exact tR
 exact tJ (hk20 y21.2 ())
 exact tJ (hk9 () ())
 exact tJ (hk9 () ())
theorem ZV {a0 r} (h:Kt N a0=some r) (ha:args=[.str a0]) (hQ: ∀n',n≤n'→Gl (Q (.bool r) ⟨m,n'⟩)):ACall vE 256 args ⟨m,n⟩ Q:=by
 rw[Kt]at h
 subst ha
 refine ent hQ Tryz.func256 rfl Tryz.ntmps256 Tryz.results256 (.q (.r []) (.q (.r []) .z)) fun R hR=>?_
 replace h:=And.intro trivial h
 simp(disch:=omega) only[vm,seval,h.1]
 refine⟨AQ (γ:=Unit) h [2,4,5,6,7,8,9,10,11,12,13,14,15,16,17,18,19,20,21,22,23,24,25,26,27,28,29,30,31,32,33,34] [3] (fun j1 g=>[.bool j1]) (fun j1 g=>m) (.q (.r []) .z) ?_ ?_⟩<;>clear h
 rintro j1 _ n4 hnn4 _ _ h
 refine AB (.q (.r []) .z) ?_
 rcases AC h with h|h
 exact tR
 exact tR
 intro k2 Jk2 hk2 h
 obtain⟨hfk5,h⟩:=AR h
 simp(disch:=omega) only[vm,seval,h.1]
 refine⟨BM (σ:=Bool) (γ:=Unit) a0 hfk5 (fun xs i s=>D6 N k2 xs s) (fun i s g=>[.bool s,.int .i64 i]) (fun i s g=>m) [2,4,8,9,10,11,12,13,14,15,16,17,18,19,20,21,22,23,24,25,26,27,28,29,30,31,32,33,34] [3,7] true () h tD tD ?_ ?_⟩<;>clear h
 rintro s7 s3 _ nL0_1 hnL0_1 _ h
 change _∧D6 N k2 [] s3=_ at h
 rw[D6]at h
 refine AB (.q (.r []) (.q (.c .z .z) (.q (.q (.r []) (.q .z (.r []))) (.r [])))) ?_
 exact tJ (hk2 s3 ())
 rintro xk5 xsk5 s7 s3 _ nL0_1 hnL0_1 _ h Jk5 hk5
 change _∧D6 N k2 (xk5::xsk5) s3=_ at h
 rw[D6]at h
 refine AB (.q (.r []) (.q (.c .z .z) (.q (.q (.r []) (.q .z (.r []))) (.r [])))) ?_
 simp(disch:=omega) only[vm,seval,h.1]
 refine⟨AQ (γ:=Unit) h [10,11,12,13,14,15,16,17,18,19,20,21,22,23,24,25,26,27,28] [29] (fun j6 g=>[.bool j6]) (fun j6 g=>m) (.r []) ?_ ?_⟩<;>clear h
 rintro j6 _ n9 hnn9 _ _ h
 refine AB (.c (.q (.r []) .z) .z) ?_
 rcases AC h with h|h
 exact tR
 exact tJ (hk5 ((AL xk5)==46) ())
 intro k7 Jk7 hk7 h
 rcases AC h with h|h
 obtain⟨y10,h⟩:=AA h
 simp(disch:=omega) only[vm,seval,h.1]
 refine⟨AFe h.1.1 tD fun n11 hn11=>?_⟩
 rcases AC h with h|h
 rcases AC h with h|h
 exact tJ (hk7 s3 ())
 exact tJ (hk7 false ())
 exact tJ (hk7 true ())
 rcases AC h with h|h
 exact tJ (hk7 s3 ())
 exact tJ (hk7 false ())
theorem LK {a0 a1 r} (h:strings_Contains N a0 a1=some r) (ha:args=[.str a0,.str a1]) (hQ: ∀n',n≤n'→Gl (Q (.bool r) ⟨m,n'⟩)):ACall vE 107 args ⟨m,n⟩ Q:=by
 rw[strings_Contains]at h
 subst ha
 refine ent hQ Tryz.func107 rfl Tryz.ntmps107 Tryz.results107 (.q (.r []) (.q (.r []) .z)) fun R hR=>?_
 replace h:=And.intro trivial h
 obtain⟨y1,h⟩:=AA h
 simp(disch:=omega) only[vm,seval,h.1]
 refine⟨IU h.1.1 tD fun n2 hn2=>?_⟩
 exact tR
theorem Q7 {a0 r} (h:Fe N a0=some r) (ha:args=[.str a0]) (hQ: ∀n',n≤n'→Gl (Q (.str r) ⟨m,n'⟩)):ACall vE 110 args ⟨m,n⟩ Q:=by
 rw[Fe]at h
 subst ha
 refine ent hQ Tryz.func110 rfl Tryz.ntmps110 Tryz.results110 (.q (.r []) (.q (.r [7]) (.q .z (.q (.r []) .z)))) fun R hR=>?_
 replace h:=And.intro trivial h
 obtain⟨c,h⟩:=AR h
 try simp only[liE,seval]at c
 replace h:=AP c h
 simp(disch:=omega) only[vm,seval,h.1,BN,BP,Ei,Ao,Ay,Am]
 refine⟨Kq (σ:=(List UInt8)×Nat×(List Int)) (γ:=Nat) (fun k s=>Aj N k s.1 s.2.1 s.2.2) (fun s g=>[.str s.1,.gsl 1 g s.2.1]) (fun s g=>(g,List.map (AVal.int .u8) s.2.2)::m) [4,8,9,10,11,12,13,14,15,16,17,18,19,20,21,22,23,24,25,26,27,28,29,30,31,32,33,34,35,36,37,38,39,40,41,42,43,44,45,46,47,48,49,50,51,52,53,54,55,56,57,58,59,60,61,62,63,64,65,66,67] [0,3] (a0,(0:Int).toNat,(List.replicate (0:Int).toNat 0)) n h (fun _=>rfl) (by first|(simp(disch:=omega) only[vm,seval,h.1,BN,BP,Ei,Ao,Ay,Am];done)|rfl) (by first|(simp(disch:=omega) only[vm,seval,h.1,BN,BP,Ei,Ao,Ay,Am];done)|rfl) ?_⟩
 clear h
 rintro k1 ⟨s0,s3_len,bq3⟩ q3 nL0_1 hnL0_1 _ h Jk1 hk1
 change _∧Aj N (k1+1) s0 s3_len bq3=_ at h
 rw[Aj]at h
 refine AB (.q (.q (.r []) (.c .z .z)) (.q (.r []) (.c (.r []) (.q (.r []) (.c (.r []) (.q (.r []) (.c (.r []) (.q (.r []) (.c (.r []) .z))))))))) ?_
 rcases AC h with h|h
 obtain⟨c,h⟩:=AR h
 try simp only[liE,seval]at c
 replace h:=AP c h
 obtain⟨H,h⟩:=h
 cases h
 simp(disch:=omega) only[vm,seval,H,BN,BP,Ei,Ao,Ay,Am]
 refine⟨(hR _ _ _ _ _ _ (by simp(disch:=omega) only[vm,seval,H,BN,BP,Ei,Ao,Ay,Am];rfl) (.cons _ slr) ?_ (by omega) ?_).1⟩<;>first|(simp(disch:=omega) only[vm,seval,H,BN,BP,Ei,Ao,Ay,Am];done)|rfl
 obtain⟨y2,h⟩:=AA h
 simp(disch:=omega) only[vm,seval,h.1,BN,BP,Ei,Ao,Ay,Am]
 refine⟨Fa h.1.1 (by first|(simp(disch:=omega) only[vm,seval,h.1,BN,BP,Ei,Ao,Ay,Am];done)|rfl) fun n3 hn3=>?_⟩
 rcases AC h with h|h
 obtain⟨x4,h⟩:=AA h
 simp(disch:=omega) only[vm,seval,h.1,BN,BP,Ei,Ao,Ay,Am]
 refine⟨hk1 (x4,s3_len,bq3) q3 _ _ _ _ h.2 slr ?_ ?_ ?_ (by omega)⟩<;>first|(simp(disch:=omega) only[vm,seval,h.1,BN,BP,Ei,Ao,Ay,Am];done)|rfl
 obtain⟨y5,h⟩:=AA h
 simp(disch:=omega) only[vm,seval,h.1,BN,BP,Ei,Ao,Ay,Am]
 refine⟨Fa h.1.1 (by first|(simp(disch:=omega) only[vm,seval,h.1,BN,BP,Ei,Ao,Ay,Am];done)|rfl) fun n6 hn6=>?_⟩
 rcases AC h with h|h
 obtain⟨x7,h⟩:=AA h
 simp(disch:=omega) only[vm,seval,h.1,BN,BP,Ei,Ao,Ay,Am]
 refine⟨hk1 (x7,s3_len,bq3) q3 _ _ _ _ h.2 slr ?_ ?_ ?_ (by omega)⟩<;>first|(simp(disch:=omega) only[vm,seval,h.1,BN,BP,Ei,Ao,Ay,Am];done)|rfl
 obtain⟨y8,h⟩:=AA h
 simp(disch:=omega) only[vm,seval,h.1,BN,BP,Ei,Ao,Ay,Am]
 refine⟨Fa h.1.1 (by first|(simp(disch:=omega) only[vm,seval,h.1,BN,BP,Ei,Ao,Ay,Am];done)|rfl) fun n9 hn9=>?_⟩
 rcases AC h with h|h
 obtain⟨x10,h⟩:=AA h
 simp(disch:=omega) only[vm,seval,h.1,BN,BP,Ei,Ao,Ay,Am]
 refine⟨hk1 (x10,s3_len,bq3) q3 _ _ _ _ h.2 slr ?_ ?_ ?_ (by omega)⟩<;>first|(simp(disch:=omega) only[vm,seval,h.1,BN,BP,Ei,Ao,Ay,Am];done)|rfl
 rcases AC h with h|h
 simp(disch:=omega) only[vm,seval,h.1,BN,BP,Ei,Ao,Ay,Am]
 refine⟨hk1 (([47]:List UInt8),s3_len,bq3) q3 _ _ _ _ h.2 slr ?_ ?_ ?_ (by omega)⟩<;>first|(simp(disch:=omega) only[vm,seval,h.1,BN,BP,Ei,Ao,Ay,Am];done)|rfl
 simp(disch:=omega) only[vm,seval,h.1,BN,BP,Ei,Ao,Ay,Am]
 refine⟨AQ (γ:=Unit) h [45,46,47,48,49,50] [44] (fun j11 g=>[.bool j11]) (fun j11 g=>(q3,List.map (AVal.int .u8) bq3)::m) (.r []) ?_ ?_⟩<;>clear h
 rintro j11 _ n14 hnn14 _ _ h
 refine AB (.c (.q (.r []) (.r [])) .z) ?_
 rcases AC h with h|h
 obtain⟨x17,h⟩:=AA h
 obtain⟨y18,h⟩:=AA h
 simp(disch:=omega) only[vm,seval,h.1,BN,BP,Ei,Ao,Ay,Am]
 refine⟨Nb h.1.1 (by first|(simp(disch:=omega) only[vm,seval,h.1,BN,BP,Ei,Ao,Ay,Am];done)|rfl) fun n19 hn19=>?_⟩
 obtain⟨c,h⟩:=AR h
 try simp only[liE,seval]at c
 replace h:=AP c h
 obtain⟨c,h⟩:=AR h
 try simp only[liE,seval]at c
 replace h:=AP c h
 obtain⟨y20,h⟩:=AA h
 simp(disch:=omega) only[vm,seval,h.1,BN,BP,Ei,Ao,Ay,Am]
 refine⟨MN h.1.1 (by first|(simp(disch:=omega) only[vm,seval,h.1,BN,BP,Ei,Ao,Ay,Am];done)|rfl) fun n21 hn21=>?_⟩
 obtain⟨c,h⟩:=AR h
 try simp only[liE,seval]at c
 replace h:=AP c h
 simp(disch:=omega) only[vm,seval,h.1,BN,BP,Ei,Ao,Ay,Am]
 refine⟨hk1 ((([47]:List UInt8)++y18),(if y20>0 then y20 else 0).toNat,bq3) q3 _ _ _ _ h.2 slr ?_ ?_ ?_ (by omega)⟩<;>first|(simp(disch:=omega) only[vm,seval,h.1,BN,BP,Ei,Ao,Ay,Am];done)|rfl
 simp(disch:=omega) only[vm,seval,h.1,BN,BP,Ei,Ao,Ay,Am]
 refine⟨AQ (γ:=Unit) h [62,63,64,65,66,67] [61] (fun j22 g=>[.bool j22]) (fun j22 g=>(q3,List.map (AVal.int .u8) bq3)::m) (.r []) ?_ ?_⟩<;>clear h
 rintro j22 _ n25 hnn25 _ _ h
 refine AB (.c (.r []) (.q (.r []) .z)) ?_
 rcases AC h with h|h
 simp(disch:=omega) only[vm,seval,h.1,BN,BP,Ei,Ao,Ay,Am]
 refine⟨hk1 ([],s3_len,bq3) q3 _ _ _ _ h.2 slr ?_ ?_ ?_ (by omega)⟩<;>first|(simp(disch:=omega) only[vm,seval,h.1,BN,BP,Ei,Ao,Ay,Am];done)|rfl
 obtain⟨x26,h⟩:=AA h
 obtain⟨y27,h⟩:=AA h
 simp(disch:=omega) only[vm,seval,h.1,BN,BP,Ei,Ao,Ay,Am]
 refine⟨Bq h.1.1 (by first|(simp(disch:=omega) only[vm,seval,h.1,BN,BP,Ei,Ao,Ay,Am];done)|rfl) fun n28 hn28=>?_⟩
 simp(disch:=omega) only[vm,seval,h.1,BN,BP,Ei,Ao,Ay,Am]
 refine⟨AQ (γ:=Unit) h [14,15,16,17] [4] (fun j29 g=>[.int .i64 j29]) (fun j29 g=>(q3,List.map (AVal.int .u8) bq3)::m) (.q (.r []) (.c (.r []) .z)) ?_ ?_⟩<;>clear h
 rintro j29 _ n32 hnn32 _ _ h
 refine AB (.q (.r [18]) (.r [])) ?_
 obtain⟨x33,h⟩:=AA h
 obtain⟨c,h⟩:=AR h
 try simp only[liE,seval]at c
 replace h:=AP c h
 simp(disch:=omega) only[vm,seval,h.1,BN,BP,Ei,Ao,Ay,Am]
 refine⟨AQp fun i34 hi34=>Gl.go ?_⟩
 obtain⟨x35,h⟩:=AA h
 simp(disch:=omega) only[vm,seval,h.1,BN,BP,Ei,Ao,Ay,Am]
 refine⟨hk1 (x35,(s3_len+x33.length),(List.take s3_len bq3++List.map AL x33)) i34 _ _ _ _ h.2 slr ?_ ?_ ?_ (by omega)⟩<;>first|(simp(disch:=omega) only[vm,seval,h.1,BN,BP,Ei,Ao,Ay,Am];done)|rfl
 intro k30 Jk30 hk30 h
 rcases AC h with h|h
 simp(disch:=omega) only[vm,seval,h.1,BN,BP,Ei,Ao,Ay,Am]
 refine⟨hk30 (s0.length:Int) () _ _ _ _ h.2 slr ?_ ?_ ?_ (by omega)⟩<;>first|(simp(disch:=omega) only[vm,seval,h.1,BN,BP,Ei,Ao,Ay,Am];done)|rfl
 simp(disch:=omega) only[vm,seval,h.1,BN,BP,Ei,Ao,Ay,Am]
 refine⟨hk30 (wr .i64 (1+y27)) () _ _ _ _ h.2 slr ?_ ?_ ?_ (by omega)⟩<;>first|(simp(disch:=omega) only[vm,seval,h.1,BN,BP,Ei,Ao,Ay,Am];done)|rfl
 intro k23 Jk23 hk23 h
 rcases AC h with h|h
 simp(disch:=omega) only[vm,seval,h.1,BN,BP,Ei,Ao,Ay,Am]
 refine⟨hk23 true () _ _ _ _ h.2 slr ?_ ?_ ?_ (by omega)⟩<;>first|(simp(disch:=omega) only[vm,seval,h.1,BN,BP,Ei,Ao,Ay,Am];done)|rfl
 simp(disch:=omega) only[vm,seval,h.1,BN,BP,Ei,Ao,Ay,Am]
 refine⟨hk23 (s0==([46,46]:List UInt8)) () _ _ _ _ h.2 slr ?_ ?_ ?_ (by omega)⟩<;>first|(simp(disch:=omega) only[vm,seval,h.1,BN,BP,Ei,Ao,Ay,Am];done)|rfl
 intro k12 Jk12 hk12 h
 obtain⟨y15,h⟩:=AA h
 simp(disch:=omega) only[vm,seval,h.1,BN,BP,Ei,Ao,Ay,Am]
 refine⟨Fa h.1.1 (by first|(simp(disch:=omega) only[vm,seval,h.1,BN,BP,Ei,Ao,Ay,Am];done)|rfl) fun n16 hn16=>?_⟩
 rcases AC h with h|h
 simp(disch:=omega) only[vm,seval,h.1,BN,BP,Ei,Ao,Ay,Am]
 refine⟨hk12 true () _ _ _ _ h.2 slr ?_ ?_ ?_ (by omega)⟩<;>first|(simp(disch:=omega) only[vm,seval,h.1,BN,BP,Ei,Ao,Ay,Am];done)|rfl
 simp(disch:=omega) only[vm,seval,h.1,BN,BP,Ei,Ao,Ay,Am]
 refine⟨hk12 (s0==([47,46,46]:List UInt8)) () _ _ _ _ h.2 slr ?_ ?_ ?_ (by omega)⟩<;>first|(simp(disch:=omega) only[vm,seval,h.1,BN,BP,Ei,Ao,Ay,Am];done)|rfl
theorem G7 {a0 r} (h:Df N a0=some r) (ha:args=[Dt a0]) (hQ: ∀n',n≤n'→Gl (Q (.str r) ⟨m,n'⟩)):ACall vE 28 args ⟨m,n⟩ Q:=by
 rw[Df]at h
 subst ha
 refine ent hQ Tryz.func28 rfl Tryz.ntmps28 Tryz.results28 (.q (.r []) (.q .z .z)) fun R hR=>?_
 replace h:=And.intro trivial h
 obtain⟨y1,h⟩:=AA h
 have cy1:=h.1.1
 obtain⟨y3,h⟩:=AA h
 have cy3:=h.1.1
 obtain⟨c,h⟩:=AR h
 try simp only[liE,seval]at c
 replace h:=AP c h
 obtain⟨y5,h⟩:=AA h
 have cy5:=h.1.1
 obtain⟨c,h⟩:=AR h
 try simp only[liE,seval]at c
 replace h:=AP c h
 simp(disch:=omega) only[vm,seval,h.1]
 refine⟨BI [] (.take 0 (.take 4 (.alt 1 [4] (.alt 2 [4,0] (.take 3 (.alt 5 [3,0] (.take 6 (.alt 7 [] (.done) (.stop))) (.stop))) (.stop)) (.stop)))) Au (by kernel_rfl) ?_⟩
 simp(disch:=omega) only[vm,seval,h.1]
 refine⟨Si cy1 tD fun n2 hn2=>?_⟩
 simp(disch:=omega) only[vm,seval,h.1]
 refine⟨UD cy3 tD fun n4 hn4=>?_⟩
 simp(disch:=omega) only[vm,seval,h.1]
 refine⟨Sb cy5 tD fun n6 hn6=>?_⟩
 simp(disch:=omega) only[vm,seval,h.1]
 refine⟨AQ (γ:=Unit) h [11,12,13,14,15,16,17] [3] (fun j7 g=>[.str j7]) (fun j7 g=>(n,[.str a0.host,.int .i64 a0.port,.str a0.path,.str a0.query,.str a0.fragment,.bool a0.hasQuery,.bool a0.hasFrag])::m) (.q (.r []) (.c (.r []) .z)) ?_ ?_⟩<;>clear h
 rintro j7 _ n10 hnn10 _ _ h
 refine AB (.q (.r []) .z) ?_
 exact tR
 intro k8 Jk8 hk8 h
 rcases AC h with h|h
 obtain⟨c,h⟩:=AR h
 try simp only[liE,seval]at c
 replace h:=AP c h
 obtain⟨c,h⟩:=AR h
 try simp only[liE,seval]at c
 replace h:=AP c h
 exact tJ (hk8 (((([104,116,116,112,115,58,47,47]:List UInt8)++y3)++y5)++(([35]:List UInt8)++a0.fragment)) ())
 exact tJ (hk8 ((([104,116,116,112,115,58,47,47]:List UInt8)++y3)++y5) ())
theorem Gn {a0 a1 r} (h:EJ N a0 a1=some r) (ha:args=[.str a0,.str a1]) (hQ: ∀n',n≤n'→Gl (Q (.tuple [.str r.1,.int .i64 r.2]) ⟨m,n'⟩)):ACall vE 126 args ⟨m,n⟩ Q:=by
 rw[EJ]at h
 subst ha
 refine ent hQ Tryz.func126 rfl Tryz.ntmps126 Tryz.results126 (.q (.r []) (.q (.q (.r []) (.c (.q (.r []) .z) .z)) (.q (.r []) .z))) fun R hR=>?_
 replace h:=And.intro trivial h
 rcases AC h with h|h
 exact tR
 simp(disch:=omega) only[vm,seval,h.1]
 refine⟨AQ (γ:=Unit) h [4,5,7,8,9,13,14,15,16,17,18,19,20,21,22,23,24,25,26,27,28,29,30,31,32,33,34,35,36,37,38,39,40,41,42,43,44,45,46,47,48,49,50,51,52,53,54,55,56,57,58,59,60,61] [6] (fun j1 g=>[.slice 1 (List.map (AVal.int .u8) j1) true]) (fun j1 g=>m) (.q (.r []) .z) ?_ ?_⟩<;>clear h
 rintro j1 _ n4 hnn4 _ _ h
 refine AB (.q (.r []) .z) ?_
 exact tR
 intro k2 Jk2 hk2 h
 simp(disch:=omega) only[vm,seval,h.1]
 refine⟨Kq (σ:=(List Int)×Int) (γ:=Unit) (fun k s=>CP N a0 a1 k2 k s.1 s.2) (fun s g=>[.slice 1 (List.map (AVal.int .u8) s.1) true,.int .i64 s.2]) (fun s g=>m) [4,5,8,9,13,14,15,16,17,18,19,20,21,22,23,24,25,26,27,28,29,30,31,32,33,34,35,36,37,38,39,40,41,42,43,44,45,46,47,48,49,50,51,52,53,54,55,56,57,58,59,60,61] [6,7] ([],0) () h (fun _=>rfl) tD tD ?_⟩
 clear h
 rintro k5 ⟨s6,s7⟩ _ nL0_1 hnL0_1 _ h Jk5 hk5
 change _∧CP N a0 a1 k2 (k5+1) s6 s7=_ at h
 rw[CP]at h
 refine AB (.q (.q (.r []) (.c .z .z)) .z) ?_
 rcases AC h with h|h
 simp(disch:=omega) only[vm,seval,h.1]
 refine⟨AQ (γ:=Unit) h [4,5,8,9,19,20,21,22,23,24,25,26,27,28,29,30,31,32,33,34,35,36,37,38,39,40,41,42,43,44,45,46,47,48,49,50,51,52,53,54,55,56,57,58,59,60,61] [6,7] (fun j6 g=>[.slice 1 (List.map (AVal.int .u8) j6.1) true,.int .i64 j6.2]) (fun j6 g=>m) (.q (.q (.r []) (.c (.q .z (.q (.r [36]) .z)) .z)) (.q (.r []) (.q (.q (.r []) (.c (.q (.r []) .z) .z)) .z))) ?_ ?_⟩<;>clear h
 rintro j6 _ n9 hnn9 _ _ h
 refine AB (.r []) ?_
 exact tJ (hk5 (j6.1,(wr .i64 (j6.2+1))) ())
 intro k7 Jk7 hk7 h
 obtain⟨x10,h⟩:=AA h
 rcases AC h with h|h
 simp(disch:=omega) only[vm,seval,h.1]
 refine⟨AQ (γ:=Unit) h [23,24,25,26,27,28,29,30,31,32,33,34] [35] (fun j11 g=>[.bool j11]) (fun j11 g=>m) (.r []) ?_ ?_⟩<;>clear h
 rintro j11 _ n14 hnn14 _ _ h
 refine AB (.c (.q (.r []) .z) .z) ?_
 rcases AC h with h|h
 exact tR
 obtain⟨c,h⟩:=AR h
 try simp only[liE,seval]at c
 replace h:=AP c h
 exact tJ (hk7 ((s6++[(AL x10)]),s7) ())
 intro k12 Jk12 hk12 h
 obtain⟨y15,h⟩:=AA h
 simp(disch:=omega) only[vm,seval,h.1]
 refine⟨Eb h.1.1 tD fun n16 hn16=>?_⟩
 rcases AC h with h|h
 exact tJ (hk12 false ())
 obtain⟨y17,h⟩:=AA h
 simp(disch:=omega) only[vm,seval,h.1]
 refine⟨Gz h.1.1 tD fun n18 hn18=>?_⟩
 exact tJ (hk12 (!y17) ())
 obtain⟨y19,h⟩:=AA h
 simp(disch:=omega) only[vm,seval,h.1]
 refine⟨OH h.1.1 tD fun n20 hn20=>?_⟩
 rcases AC h with h|h
 simp(disch:=omega) only[vm,seval,h.1]
 refine⟨AQ (γ:=Unit) h [50,51,52,53,54,55,56,57,58,59] [6] (fun j21 g=>[.slice 1 (List.map (AVal.int .u8) j21) true]) (fun j21 g=>m) (.q (.r []) (.c (.r [52]) (.r [56]))) ?_ ?_⟩<;>clear h
 rintro j21 _ n24 hnn24 _ _ h
 refine AB (.r []) ?_
 exact tJ (hk7 (j21,(wr .i64 (s7+2))) ())
 intro k22 Jk22 hk22 h
 obtain⟨y25,h⟩:=AA h
 simp(disch:=omega) only[vm,seval,h.1]
 refine⟨Eb h.1.1 tD fun n26 hn26=>?_⟩
 rcases AC h with h|h
 obtain⟨c,h⟩:=AR h
 try simp only[liE,seval]at c
 replace h:=AP c h
 exact tJ (hk22 (s6++[y19.1]) ())
 obtain⟨y27,h⟩:=AA h
 simp(disch:=omega) only[vm,seval,h.1]
 refine⟨K5 h.1.1 tD fun n28 hn28=>?_⟩
 obtain⟨c,h⟩:=AR h
 try simp only[liE,seval]at c
 replace h:=AP c h
 exact tJ (hk22 (s6++(List.map AL y27)) ())
 exact tR
 exact tJ (hk2 s6 ())
theorem Nc {a0 a1 r} (h:Ha N a0 a1=some r) (ha:args=[.str a0,.int .u64 a1]) (hQ: ∀n',n≤n'→Gl (Q (.tuple [.int .u64 r.1,.int .i64 r.2]) ⟨m,n'⟩)):ACall vE 187 args ⟨m,n⟩ Q:=by
 rw[Ha]at h
 subst ha
 refine ent hQ Tryz.func187 rfl Tryz.ntmps187 Tryz.results187 (.q (.r []) (.q (.r []) (.q .z (.q (.r []) .z)))) fun R hR=>?_
 replace h:=And.intro trivial h
 obtain⟨y1,h⟩:=AA h
 simp(disch:=omega) only[vm,seval,h.1]
 refine⟨U0 h.1.1 tD fun n2 hn2=>?_⟩
 simp(disch:=omega) only[vm,seval,h.1]
 refine⟨AQ (γ:=Unit) h [14,15,16,17,18,19,20,21,22,23,24,25,26,27,28] [29] (fun j3 g=>[.bool j3]) (fun j3 g=>m) (.r []) ?_ ?_⟩<;>clear h
 rintro j3 _ n6 hnn6 _ _ h
 refine AB (.c (.q (.r []) .z) .z) ?_
 rcases AC h with h|h
 exact tR
 exact tR
 intro k4 Jk4 hk4 h
 rcases AC h with h|h
 rcases AC h with h|h
 obtain⟨x7,h⟩:=AA h
 exact tJ (hk4 ((AL x7)==48) ())
 exact tJ (hk4 false ())
 rcases AC h with h|h
 rcases AC h with h|h
 obtain⟨x8,h⟩:=AA h
 exact tJ (hk4 ((AL x8)==48) ())
 exact tJ (hk4 false ())
 exact tJ (hk4 false ())
theorem Fv {a0 r} (h:EW N a0=some r) (ha:args=[.str a0]) (hQ: ∀n',n≤n'→Gl (Q (.tuple [.str r.1,.int .i64 r.2]) ⟨m,n'⟩)):ACall vE 42 args ⟨m,n⟩ Q:=by
 rw[EW]at h
 subst ha
 refine ent hQ Tryz.func42 rfl Tryz.ntmps42 Tryz.results42 (.q (.r []) (.q (.q (.r []) (.c (.q (.r []) .z) .z)) (.q (.r []) .z))) fun R hR=>?_
 replace h:=And.intro trivial h
 rcases AC h with h|h
 exact tR
 simp(disch:=omega) only[vm,seval,h.1]
 refine⟨AQ (γ:=Unit) h [2,3,5,6,7,8,12,13,14,15,16,17,18,19,20,21,22,23,24,25,26,27,28,29,30,31,32,33,34,35,36,37] [4] (fun j1 g=>[.slice 1 (List.map (AVal.int .u8) j1) true]) (fun j1 g=>m) (.q (.r []) .z) ?_ ?_⟩<;>clear h
 rintro j1 _ n4 hnn4 _ _ h
 refine AB (.q (.r []) .z) ?_
 exact tR
 intro k2 Jk2 hk2 h
 simp(disch:=omega) only[vm,seval,h.1]
 refine⟨Kq (σ:=(List Int)×Int) (γ:=Unit) (fun k s=>EI N a0 k2 k s.1 s.2) (fun s g=>[.slice 1 (List.map (AVal.int .u8) s.1) true,.int .i64 s.2]) (fun s g=>m) [2,3,6,7,8,12,13,14,15,16,17,18,19,20,21,22,23,24,25,26,27,28,29,30,31,32,33,34,35,36,37] [4,5] ([],0) () h (fun _=>rfl) tD tD ?_⟩
 clear h
 rintro k5 ⟨s4,s5⟩ _ nL0_1 hnL0_1 _ h Jk5 hk5
 change _∧EI N a0 k2 (k5+1) s4 s5=_ at h
 rw[EI]at h
 refine AB (.q (.q (.r []) (.c .z .z)) (.q (.q (.r []) .z) (.r []))) ?_
 rcases AC h with h|h
 obtain⟨x6,h⟩:=AA h
 simp(disch:=omega) only[vm,seval,h.1]
 refine⟨AQ (γ:=Unit) h [2,3,7,8,21,22,23,24,25,26,27,28,29,30,31,32,33] [5,6] (fun j7 g=>[.int .i64 j7.1,.int .u8 j7.2]) (fun j7 g=>m) (.q (.r []) (.c (.q (.r []) (.q (.q (.r []) (.c (.q (.r []) .z) .z)) (.r []))) .z)) ?_ ?_⟩<;>clear h
 rintro j7 _ n10 hnn10 _ _ h
 refine AB (.r [34]) ?_
 obtain⟨c,h⟩:=AR h
 try simp only[liE,seval]at c
 replace h:=AP c h
 exact tJ (hk5 ((s4++[j7.2]),(wr .i64 (j7.1+1))) ())
 intro k8 Jk8 hk8 h
 rcases AC h with h|h
 obtain⟨y11,h⟩:=AA h
 simp(disch:=omega) only[vm,seval,h.1]
 refine⟨OH h.1.1 tD fun n12 hn12=>?_⟩
 rcases AC h with h|h
 exact tJ (hk8 ((wr .i64 (s5+2)),y11.1) ())
 exact tR
 exact tJ (hk8 (s5,(AL x6)) ())
 exact tJ (hk2 s4 ())
theorem UL {a0 r} (h:JR N a0=some r) (ha:args=[K6 a0]) (hQ: ∀n',n≤n'→Gl (Q (.str r) ⟨m,n'⟩)):ACall vE 70 args ⟨m,n⟩ Q:=by
 rw[JR]at h
 subst ha
 refine ent hQ Tryz.func70 rfl Tryz.ntmps70 Tryz.results70 (.q (.r []) (.q .z .z)) fun R hR=>?_
 replace h:=And.intro trivial h
 obtain⟨y1,h⟩:=AA h
 have cy1:=h.1.1
 obtain⟨c,h⟩:=AR h
 try simp only[liE,seval]at c
 replace h:=AP c h
 obtain⟨c,h⟩:=AR h
 try simp only[liE,seval]at c
 replace h:=AP c h
 obtain⟨c,h⟩:=AR h
 try simp only[liE,seval]at c
 replace h:=AP c h
 simp(disch:=omega) only[vm,seval,h.1]
 refine⟨BI [] (.take 0 (.take 1 (.take 5 (.take 6 (.alt 2 [6,5,0] (.take 3 (.take 4 (.take 7 (.alt 8 [] (.done) (.stop))))) (.stop)))))) Au (by kernel_rfl) ?_⟩
 simp(disch:=omega) only[vm,seval,h.1]
 refine⟨Ni cy1 tD fun n2 hn2=>?_⟩
 exact tR
end Go.Proofs.YtjgdhjpafjpjgaaGreatDoor
