import Derived.Test.YtjgdhjpafjpjgaaGreatDoorVmFacts
import Derived.Test.YtjgdhjpafjpjgaaGreatDoorDefs
import Derived.Test.YtjgdhjpafjpjgaaGreatDoorVM2
import Derived.Test.YtjgdhjpafjpjgaaGreatDoorW0
import Derived.Test.YtjgdhjpafjpjgaaGreatDoorW1
import Derived.Test.YtjgdhjpafjpjgaaGreatDoorW2
import Derived.Test.YtjgdhjpafjpjgaaGreatDoorW3
set_option linter.unusedVariables false
set_option linter.unusedSimpArgs false
set_option maxHeartbeats 4000000
set_option maxRecDepth 100000
set_option linter.defProp false
namespace Go.Proofs.YtjgdhjpafjpjgaaGreatDoor
open Go.VM
variable{N n:Nat}{m:MS}{Q:PQ}{args:List AVal}
theorem Gs {a0 a1 a2 r} (h:DK N a0 a1 a2=some r) (ha:args=[.str a0,.int .u64 a1,.int .u64 a2,.fn (.func 192) [] []]) (hQ: ∀n',n≤n'→Gl (Q (.tuple [.int .u64 r.1,.int .i64 r.2]) ⟨m,n'⟩)):ACall vE 253 args ⟨m,n⟩ Q:=by
 rw[DK]at h
 subst ha
 refine ent hQ Tryz.func253 rfl Tryz.ntmps253 Tryz.results253 (.q (.r []) (.q (.q (.r []) (.c (.q (.r []) .z) .z)) .z)) fun R hR=>?_
 replace h:=And.intro trivial h
 rcases AC h with h|h
 exact tR
 simp(disch:=omega) only[vm,seval,h.1]
 refine⟨AP (γ:=Unit) h [8,9,10,16,17,18,19,20,21,22,23,24,25,26,27] [] (fun j1 g=>[]) (fun j1 g=>m) (.q (.r []) .z) ?_ ?_⟩<;>clear h
 rintro j1 _ n4 hnn4 _ _ h
 refine AB (.q (.r []) .z) ?_
 simp(disch:=omega) only[vm,seval,h.1]
 refine⟨AP (γ:=Unit) h [8,9,12,13,28,29,30,31,32,33,34,35,36,37,38,39,40,41,42,43,44,45,46,47,48,49,50,51,52,53,54,55,56,57] [11] (fun j8 g=>[.int .u64 j8]) (fun j8 g=>m) (.q (.r []) .z) ?_ ?_⟩<;>clear h
 rintro j8 _ n11 hnn11 _ _ h
 refine AB (.q (.r []) .z) ?_
 exact tR
 intro k9 Jk9 hk9 h
 obtain⟨hfk12,h⟩:=AU h
 simp(disch:=omega) only[vm,seval,h.1]
 refine⟨C9 (σ:=Int) (γ:=Unit) a0 hfk12 (fun xs i s=>Ao N a1 a2 k9 xs s) (fun i s g=>[.int .u64 s,.int .i64 i]) (fun i s g=>m) [8,9,12,13,31,32,33,34,35,36,37,38,39,40,41,42,43,44,45,46,47,48,49,50,51,52,53,54,55,56,57] [11,30] 0 () h tD tD ?_ ?_⟩<;>clear h
 rintro s30 s11 _ nL1_1 hnL1_1 _ h
 change _∧Ao N a1 a2 k9 [] s11=_ at h
 rw[Ao]at h
 refine AB (.q (.r []) (.q (.c .z .z) (.q (.q (.r []) (.q (.r []) (.q .z (.r [])))) (.r [])))) ?_
 exact tJ (hk9 s11 ())
 rintro xk12 xsk12 s30 s11 _ nL1_1 hnL1_1 _ h Jk12 hk12
 change _∧Ao N a1 a2 k9 (xk12::xsk12) s11=_ at h
 rw[Ao]at h
 refine AB (.q (.r []) (.q (.c .z .z) (.q (.q (.r []) (.q (.r []) (.q .z (.r [])))) (.r [])))) ?_
 obtain⟨y13,h⟩:=AA h
 simp(disch:=omega) only[vm,seval,h.1]
 refine⟨OC h.1.1 tD fun n14 hn14=>?_⟩
 simp(disch:=omega) only[vm,seval,h.1]
 refine⟨AP (γ:=Unit) h [37,38,39,40,41,42,43,44,45,46,47,48,49,50] [51] (fun j15 g=>[.bool j15]) (fun j15 g=>m) (.r []) ?_ ?_⟩<;>clear h
 rintro j15 _ n18 hnn18 _ _ h
 refine AB (.c (.q (.r []) .z) .z) ?_
 rcases AC h with h|h
 exact tR
 exact tJ (hk12 (wr .u64 ((wr .u64 (s11 * a1))+y13)) ())
 intro k16 Jk16 hk16 h
 obtain⟨c,h⟩:=AU h
 try simp only[liE,seval]at c
 replace h:=AQ c h
 rcases AC h with h|h
 exact tJ (hk16 true ())
 exact tJ (hk16 (decide ((wr .u64 ((wr .u64 (s11 * a1))+y13))>a2)) ())
 intro k2 Jk2 hk2 h
 obtain⟨hfk5,h⟩:=AU h
 simp(disch:=omega) only[vm,seval,h.1]
 refine⟨C9 (σ:=Unit) (γ:=Unit) a0 hfk5 (fun xs i s=>Ap N k2 xs) (fun i s g=>[.int .i64 i]) (fun i s g=>m) [8,9,10,19,20,21,22,23,24,25,26,27] [18] () () h tD tD ?_ ?_⟩<;>clear h
 rintro s18 _ _ nL0_1 hnL0_1 _ h
 change _∧Ap N k2 []=_ at h
 rw[Ap]at h
 refine AB (.q (.r []) (.q (.c .z .z) (.q (.q (.r []) (.q (.r []) (.c (.q (.r []) .z) .z))) (.r [])))) ?_
 exact tJ (hk2 () ())
 rintro xk5 xsk5 s18 _ _ nL0_1 hnL0_1 _ h Jk5 hk5
 change _∧Ap N k2 (xk5::xsk5)=_ at h
 rw[Ap]at h
 refine AB (.q (.r []) (.q (.c .z .z) (.q (.q (.r []) (.q (.r []) (.c (.q (.r []) .z) .z))) (.r [])))) ?_
 obtain⟨y6,h⟩:=AA h
 simp(disch:=omega) only[vm,seval,h.1]
 refine⟨CQ h.1.1 tD fun n7 hn7=>?_⟩
 rcases AC h with h|h
 exact tJ (hk5 () ())
 exact tR
theorem Lt {a0 a1 r} (h:Gv N a0 a1=some r) (ha:args=[.str a0,.int .i64 a1]) (hQ: ∀n',n≤n'→Gl (Q (.slice 1 (List.map AVal.str r) false) ⟨m,n'⟩)):ACall vE 263 args ⟨m,n⟩ Q:=by
 rw[Gv]at h
 subst ha
 refine ent hQ Tryz.func263 rfl Tryz.ntmps263 Tryz.results263 (.q (.r []) (.q (.r []) .z)) fun R hR=>?_
 replace h:=And.intro trivial h
 obtain⟨y1,h⟩:=AA h
 simp(disch:=omega) only[vm,seval,h.1]
 refine⟨D5 h.1.1 tD fun n2 hn2=>?_⟩
 simp(disch:=omega) only[vm,seval,h.1]
 refine⟨AP (γ:=Unit) h [12,13,14,15,16,17,18,19] [1] (fun j3 g=>[.int .i64 j3]) (fun j3 g=>m) .z ?_ ?_⟩<;>clear h
 rintro j3 _ n6 hnn6 _ _ h
 refine AB (.q (.r []) .z) ?_
 obtain⟨c,h⟩:=AU h
 try simp only[liE,seval]at c
 replace h:=AQ c h
 simp(disch:=omega) only[vm,seval,h.1]
 refine⟨AP (γ:=Unit) h [7,8,9,22,23,24,25,26,27,28,29,30,31,32,33,34,35,36,37,38,39,40,41] [0] (fun j11 g=>[.str j11.1]) (fun j11 g=>(n6,List.map AVal.str j11.2)::m) (.q (.r []) .z) ?_ ?_⟩<;>clear h
 rintro j11 _ n14 hnn14 _ _ h
 refine AB .z ?_
 simp(disch:=omega) only[vm,seval,h.1]
 refine⟨AP (γ:=Unit) h [42,43,44,45,46,47,48] [] (fun j20 g=>[]) (fun j20 g=>(n6,List.map AVal.str j20)::m) (.q (.r []) (.c (.r []) .z)) ?_ ?_⟩<;>clear h
 rintro j20 _ n23 hnn23 _ _ h
 refine AB (.q (.r []) .z) ?_
 cases h.2
 intro k21 Jk21 hk21 h
 rcases AC h with h|h
 obtain⟨c,h⟩:=AU h
 try simp only[liE,seval]at c
 replace h:=AQ c h
 obtain⟨c,h⟩:=AU h
 try simp only[liE,seval]at c
 replace h:=AQ c h
 exact tJ (hk21 (j11.2.set ((wr .i64 (j3-1)).toNat) j11.1) ())
 exact tJ (hk21 j11.2 ())
 intro k12 Jk12 hk12 h
 obtain⟨hfk15,h⟩:=AU h
 simp(disch:=omega) only[vm,seval,h.1]
 refine⟨ML (σ:=(List UInt8)×(List (List UInt8))) (γ:=Unit) 0 (wr .i64 (j3-1)) hfk15 (fun xs i s=>CW N j3 k12 xs i s.1 s.2) (fun i s g=>[.str s.1,.int .i64 i]) (fun i s g=>(n6,List.map AVal.str s.2)::m) [8,9,22,23,24,25,26,27,28,29,30,31,32,33,34,35,36,37,38,39,40,41] [0,7] (a0,(List.replicate j3.toNat ([]:List UInt8))) () h tD tD ?_ ?_⟩<;>clear h
 rintro s7 ⟨s0,bn6⟩ _ nL0_1 hnL0_1 _ h
 change _∧CW N j3 k12 0 s7 s0 bn6=_ at h
 rw[CW]at h
 refine AB (.q (.q (.r []) (.c .z .z)) (.q (.q (.r []) (.q (.r []) (.r []))) (.r []))) ?_
 exact tJ (hk12 (s0,bn6) ())
 rintro xsk15 s7 ⟨s0,bn6⟩ _ nL0_1 hnL0_1 _ h Jk15 hk15
 change _∧CW N j3 k12 (xsk15+1) s7 s0 bn6=_ at h
 rw[CW]at h
 refine AB (.q (.q (.r []) (.c .z .z)) (.q (.q (.r []) (.q (.r []) (.r []))) (.r []))) ?_
 obtain⟨y16,h⟩:=AA h
 simp(disch:=omega) only[vm,seval,h.1]
 refine⟨Dn h.1.1 tD fun n17 hn17=>?_⟩
 obtain⟨x18,h⟩:=AA h
 obtain⟨c,h⟩:=AU h
 try simp only[liE,seval]at c
 replace h:=AQ c h
 obtain⟨c,h⟩:=AU h
 try simp only[liE,seval]at c
 replace h:=AQ c h
 obtain⟨x19,h⟩:=AA h
 exact tJ (hk15 (x19,(bn6.set s7.toNat x18)) ())
 intro k4 Jk4 hk4 h
 simp(disch:=omega) only[vm,seval,h.1]
 refine⟨AP (γ:=Unit) h [12,13,14,15,16,17] [18] (fun j7 g=>[.bool j7]) (fun j7 g=>m) (.r []) ?_ ?_⟩<;>clear h
 rintro j7 _ n10 hnn10 _ _ h
 refine AB (.c (.r []) .z) ?_
 rcases AC h with h|h
 exact tJ (hk4 y1 ())
 exact tJ (hk4 a1 ())
 intro k8 Jk8 hk8 h
 rcases AC h with h|h
 exact tJ (hk8 true ())
 exact tJ (hk8 (decide (a1>y1)) ())
theorem KE {a0 a1 r} (h:strings_TrimPrefix N a0 a1=some r) (ha:args=[.str a0,.str a1]) (hQ: ∀n',n≤n'→Gl (Q (.str r) ⟨m,n'⟩)):ACall vE 165 args ⟨m,n⟩ Q:=by
 rw[strings_TrimPrefix]at h
 subst ha
 refine ent hQ Tryz.func165 rfl Tryz.ntmps165 Tryz.results165 (.q (.r []) (.q (.r []) .z)) fun R hR=>?_
 replace h:=And.intro trivial h
 obtain⟨y1,h⟩:=AA h
 simp(disch:=omega) only[vm,seval,h.1]
 refine⟨Fz h.1.1 tD fun n2 hn2=>?_⟩
 exact tR
theorem WK {a0 a1 r} (h:MP N a0 a1=some r) (ha:args=[Fv a0,Fv a1]) (hQ: ∀n',n≤n'→Gl (Q (.str r) ⟨m,n'⟩)):ACall vE 167 args ⟨m,n⟩ Q:=by
 rw[MP]at h
 subst ha
 refine ent hQ Tryz.func167 rfl Tryz.ntmps167 Tryz.results167 (.q (.r []) (.q (.q (.r []) (.c (.q (.r []) .z) .z)) (.q .z (.q .z .z)))) fun R hR=>?_
 replace h:=And.intro trivial h
 obtain⟨y1,h⟩:=AA h
 simp(disch:=omega) only[vm,seval,h.1]
 refine⟨Ci h.1.1 tD fun n2 hn2=>?_⟩
 rcases AC h with h|h
 exact tR
 simp(disch:=omega) only[vm,seval,h.1]
 refine⟨AP (γ:=Unit) h [10,11,12,13,14,15] [16] (fun j3 g=>[.bool j3]) (fun j3 g=>((n+1),[.str a1.scheme,.str a1.authority,.str a1.path,.str a1.query,.str a1.fragment,.bool a1.hasScheme,.bool a1.hasAuthority,.bool a1.hasQuery,.bool a1.hasFrag])::(n,[.str a0.scheme,.str a0.authority,.str a0.path,.str a0.query,.str a0.fragment,.bool a0.hasScheme,.bool a0.hasAuthority,.bool a0.hasQuery,.bool a0.hasFrag])::m) (.r []) ?_ ?_⟩<;>clear h
 rintro j3 _ n6 hnn6 _ _ h
 refine AB (.c (.q (.r []) .z) .z) ?_
 rcases AC h with h|h
 obtain⟨c,h⟩:=AU h
 try simp only[liE,seval]at c
 replace h:=AQ c h
 exact tR
 obtain⟨y7,h⟩:=AA h
 have cy7:=h.1.1
 obtain⟨x9,h⟩:=AA h
 obtain⟨c,h⟩:=AU h
 try simp only[liE,seval]at c
 replace h:=AQ c h
 simp(disch:=omega) only[vm,seval,h.1]
 refine⟨BL [] (.take 0 (.take 1 (.take 2 (.take 3 (.take 7 (.take 8 (.alt 4 [8,7,2,1,0] (.take 5 (.take 6 (.take 9 (.alt 10 [] (.done) (.stop))))) (.stop)))))))) Ar (by kernel_rfl) ?_⟩
 simp(disch:=omega) only[vm,seval,h.1]
 refine⟨Fu cy7 tD fun n8 hn8=>?_⟩
 exact tR
 intro k4 Jk4 hk4 h
 rcases AC h with h|h
 exact tJ (hk4 (a0.path==[]) ())
 exact tJ (hk4 false ())
theorem GM {a0 a1 a2 r}{i2:Nat} (h:Fe N a0 a1 a2=some r) (ha:args=[.bool a0,.slice 1 (List.map AVal.str a1) false,.ptr i2 0]) (hi2:BD m i2=some ([FJ i2 196 2 a2.addr,.buf 5 a2.buf true])) (hQ: ∀n',n≤n'→Gl (Q (.tuple []) ⟨BQ m i2 ([FJ i2 196 2 r.addr,.buf 5 r.buf true]),n'⟩)):ACall vE 168 args ⟨m,n⟩ Q:=by
 rw[Fe]at h
 subst ha
 refine ACall.front hi2 fun hin=>ent (fun n' k=>⟨_,rfl,(hQ n' k).go⟩) Tryz.func168 rfl Tryz.ntmps168 Tryz.results168 (.q (.r []) .z) fun R hR=>?_
 replace h:=And.intro trivial h
 obtain⟨hfk1,h⟩:=AU h
 simp(disch:=omega) only[vm,seval,h.1]
 refine⟨C9 (σ:=StringsBuilder) (γ:=Unit) a1 hfk1 (fun xs i s=>EA N a0 xs s) (fun i s g=>[.int .i64 i]) (fun i s g=>(i2,[FJ i2 196 2 s.addr,.buf 5 s.buf true])::Bd m i2) [6,10,11,12,13,14,15,16] [9] a2 () h tD tD ?_ ?_⟩<;>clear h
 rintro s9 bi2 _ nL0_1 hnL0_1 _ h
 change _∧EA N a0 [] bi2=_ at h
 rw[EA]at h
 refine AB (.q (.r []) (.q (.c .z .z) .z)) ?_
 obtain⟨H,h⟩:=h
 cases h
 simp(disch:=omega) only[vm,seval,H]
 refine⟨(hR _ _ _ _ _ _ (by simp(disch:=omega) only[vm,seval,H];rfl) slr ?_ (by omega) ?_).2⟩<;>first|(simp(disch:=omega) only[vm,seval,H];done)|rfl
 rintro xk1 xsk1 s9 bi2 _ nL0_1 hnL0_1 _ h Jk1 hk1
 change _∧EA N a0 (xk1::xsk1) bi2=_ at h
 rw[EA]at h
 refine AB (.q (.r []) (.q (.c .z .z) .z)) ?_
 simp(disch:=omega) only[vm,seval,h.1]
 refine⟨AP (γ:=Unit) h [6,11,12,13,14,15] [] (fun j2 g=>[]) (fun j2 g=>(i2,[FJ i2 196 2 j2.addr,.buf 5 j2.buf true])::Bd m i2) (.q (.r []) (.q (.r []) (.c (.r []) .z))) ?_ ?_⟩<;>clear h
 rintro j2 _ n5 hnn5 _ _ h
 refine AB (.r []) ?_
 exact tJ (hk1 j2 ())
 intro k3 Jk3 hk3 h
 rcases AC h with h|h
 obtain⟨y6,h⟩:=AA h
 simp(disch:=omega) only[vm,seval,h.1]
 refine⟨Aw h.1.1 tD (i0:=i2) (by simp(disch:=omega) only[vm,seval,h.1]) fun n7 hn7=>?_⟩
 exact tJ (hk3 y6.2.2 ())
 exact tJ (hk3 bi2 ())
theorem OV {a0 a1 r} (h:GL N a0 a1=some r) (ha:args=[.str a0,.int .i64 a1]) (hQ: ∀n',n≤n'→Gl (Q (.tuple [.int .u8 r.1,.bool r.2]) ⟨m,n'⟩)):ACall vE 90 args ⟨m,n⟩ Q:=by
 rw[GL]at h
 subst ha
 refine ent hQ Tryz.func90 rfl Tryz.ntmps90 Tryz.results90 (.q (.r []) (.q .z (.q .z .z))) fun R hR=>?_
 replace h:=And.intro trivial h
 simp(disch:=omega) only[vm,seval,h.1]
 refine⟨AP (γ:=Unit) h [6,7,8,9,10,11,12,13,14,15,16,17,18,19,20,21,22,23,24,25,26,27,28,29,30,31] [32] (fun j1 g=>[.bool j1]) (fun j1 g=>m) (.r []) ?_ ?_⟩<;>clear h
 rintro j1 _ n4 hnn4 _ _ h
 refine AB (.c (.q (.r []) .z) .z) ?_
 rcases AC h with h|h
 exact tR
 obtain⟨x12,h⟩:=AA h
 obtain⟨y13,h⟩:=AA h
 have cy13:=h.1.1
 obtain⟨x15,h⟩:=AA h
 obtain⟨y16,h⟩:=AA h
 have cy16:=h.1.1
 simp(disch:=omega) only[vm,seval,h.1]
 refine⟨BL [] (.take 0 (.take 1 (.take 2 (.take 3 (.take 6 (.take 7 (.take 8 (.take 9 (.alt 4 [9,8,7,6,2,1,0] (.take 5 (.alt 10 [5,8,7,6,3,2,1,0] (.take 11 (.alt 12 [] (.alt 13 [] (.done) (.stop)) (.stop))) (.stop))) (.stop)))))))))) Ar (by kernel_rfl) ?_⟩
 simp(disch:=omega) only[vm,seval,h.1]
 refine⟨Kq cy13 tD fun n14 hn14=>?_⟩
 simp(disch:=omega) only[vm,seval,h.1]
 refine⟨Kq cy16 tD fun n17 hn17=>?_⟩
 exact tR
 intro k2 Jk2 hk2 h
 rcases AC h with h|h
 exact tJ (hk2 true ())
 obtain⟨x5,h⟩:=AA h
 rcases AC h with h|h
 exact tJ (hk2 true ())
 obtain⟨x6,h⟩:=AA h
 obtain⟨y7,h⟩:=AA h
 simp(disch:=omega) only[vm,seval,h.1]
 refine⟨Gi h.1.1 tD fun n8 hn8=>?_⟩
 rcases AC h with h|h
 obtain⟨x9,h⟩:=AA h
 obtain⟨y10,h⟩:=AA h
 simp(disch:=omega) only[vm,seval,h.1]
 refine⟨Gi h.1.1 tD fun n11 hn11=>?_⟩
 exact tJ (hk2 (!y10) ())
 exact tJ (hk2 true ())
end Go.Proofs.YtjgdhjpafjpjgaaGreatDoor
