import Derived.Test.YtooeobhihpkicaaGreatDoorVmFacts
import Derived.Test.YtooeobhihpkicaaGreatDoorDefs
import Derived.Test.YtooeobhihpkicaaGreatDoorVM2
import Derived.Test.YtooeobhihpkicaaGreatDoorW0
import Derived.Test.YtooeobhihpkicaaGreatDoorW1
import Derived.Test.YtooeobhihpkicaaGreatDoorW2
import Derived.Test.YtooeobhihpkicaaGreatDoorW4
import Derived.Test.YtooeobhihpkicaaGreatDoorVM5
set_option linter.unusedVariables false
set_option linter.unusedSimpArgs false
set_option maxHeartbeats 4000000
set_option maxRecDepth 100000
set_option linter.defProp false
namespace Go.Proofs.YtooeobhihpkicaaGreatDoor
open Go.VM
variable{N n:Nat}{m:MS}{Q:PQ}{args:List AVal}
theorem Qf {a0 r} (h:D6 N a0=some r) (ha:args=[.str a0]) (hQ: ∀n',n≤n'→Gl (Q (.tuple [.str r.1,.int .i64 r.2]) ⟨m,n'⟩)):ACall vE 35 args ⟨m,n⟩ Q:=by
 rw[D6]at h
 subst ha
 refine ent hQ Tryz.func35 rfl Tryz.ntmps35 Tryz.results35 (.q (.r []) (.q .z (.q (.r []) .z))) fun R hR=>?_
 replace h:=And.intro trivial h
 simp(disch:=omega) only[vm,seval,h.1]
 refine⟨Ad (γ:=Unit) h [9,10,11,12,13,14,15,16] [17] (fun j1 g=>[.bool j1]) (fun j1 g=>m) (.r []) ?_ ?_⟩<;>clear h
 rintro j1 _ n4 hnn4 _ _ h
 refine AB (.c (.q (.r []) .z) .z) ?_
 replace h:=AC h
 rcases h with h|h
 obtain⟨H,h⟩:=h
 cases h
 simp(disch:=omega) only[vm,seval,H]
 refine⟨(hR _ _ _ _ _ _ (by simp(disch:=omega) only[vm,seval,H];rfl) slr ?_ (by omega) ?_).1⟩<;>first|(simp(disch:=omega) only[vm,seval,H];done)|rfl
 simp(disch:=omega) only[vm,seval,h.1]
 refine⟨Ad (γ:=Unit) h [18,19,20,21,22] [0,4] (fun j7 g=>[.str j7.1,.str j7.2]) (fun j7 g=>m) (.q (.r []) (.c .z .z)) ?_ ?_⟩<;>clear h
 rintro j7 _ n10 hnn10 _ _ h
 refine AB (.q (.r []) (.q .z .z)) ?_
 replace h:=AA h
 obtain⟨y13,h⟩:=h
 simp(disch:=omega) only[vm,seval,h.1]
 refine⟨Mw h.1.1 (by first|(simp(disch:=omega) only[vm,seval,h.1];done)|rfl) fun n14 hn14=>?_⟩
 replace h:=AA h
 obtain⟨y15,h⟩:=h
 have cy15:=h.1.1
 replace h:=AA h
 obtain⟨y17,h⟩:=h
 have cy17:=h.1.1
 replace h:=AA h
 obtain⟨x19,h⟩:=h
 simp(disch:=omega) only[vm,seval,h.1]
 refine⟨BB [] (.take 0 (.take 1 (.take 2 (.take 5 (.take 6 (.take 7 (.alt 3 [7,6,5,1] (.alt 4 [7,6,5,2,1,0] (.alt 8 [7,6,5] (.alt 9 [] (.done) (.stop)) (.stop)) (.stop)) (.stop)))))))) Av (by kernel_rfl) ?_⟩
 simp(disch:=omega) only[vm,seval,h.1]
 refine⟨LA cy15 (by first|(simp(disch:=omega) only[vm,seval,h.1];done)|rfl) fun n16 hn16=>?_⟩
 simp(disch:=omega) only[vm,seval,h.1]
 refine⟨Oh cy17 (by first|(simp(disch:=omega) only[vm,seval,h.1];done)|rfl) fun n18 hn18=>?_⟩
 simp(disch:=omega) only[vm,seval,h.1]
 refine⟨Ad (γ:=Unit) h [8,33,34,35,36,37,38,39,40,41,42,43,44,45,46,47,48,49,50,51,52,53] [6,7] (fun j20 g=>[.int .i64 j20.1,.str j20.2]) (fun j20 g=>m) (.q (.r []) (.q (.r []) (.c .z .z))) ?_ ?_⟩<;>clear h
 rintro j20 _ n23 hnn23 _ _ h
 refine AB .z ?_
 simp(disch:=omega) only[vm,seval,h.1]
 refine⟨Ad (γ:=Unit) h [54,55,56,57,58,59,60,61,62,63] [7] (fun j28 g=>[.str j28]) (fun j28 g=>m) .z ?_ ?_⟩<;>clear h
 rintro j28 _ n31 hnn31 _ _ h
 refine AB (.q (.q (.r []) (.c (.q (.r []) .z) .z)) .z) ?_
 replace h:=AC h
 rcases h with h|h
 obtain⟨H,h⟩:=h
 cases h
 simp(disch:=omega) only[vm,seval,H]
 refine⟨(hR _ _ _ _ _ _ (by simp(disch:=omega) only[vm,seval,H];rfl) slr ?_ (by omega) ?_).1⟩<;>first|(simp(disch:=omega) only[vm,seval,H];done)|rfl
 simp(disch:=omega) only[vm,seval,h.1]
 refine⟨Ad (γ:=Unit) h [66,67,68,69,70,71,72,73,74,75,76,77,78] [6,7] (fun j39 g=>[.int .i64 j39.1,.str j39.2]) (fun j39 g=>m) .z ?_ ?_⟩<;>clear h
 rintro j39 _ n42 hnn42 _ _ h
 refine AB (.q .z (.q (.r []) .z)) ?_
 simp(disch:=omega) only[vm,seval,h.1]
 refine⟨Ad (γ:=Unit) h [80,81,82,83,84,85,86,87,88,89,90] [79] (fun j46 g=>[.bool j46]) (fun j46 g=>m) (.r []) ?_ ?_⟩<;>clear h
 rintro j46 _ n49 hnn49 _ _ h
 refine AB (.c (.q (.r []) .z) (.q (.r []) (.c (.q (.r []) .z) (.q (.r []) (.c (.q (.r []) .z) .z))))) ?_
 replace h:=AC h
 rcases h with h|h
 obtain⟨H,h⟩:=h
 cases h
 simp(disch:=omega) only[vm,seval,H]
 refine⟨(hR _ _ _ _ _ _ (by simp(disch:=omega) only[vm,seval,H];rfl) slr ?_ (by omega) ?_).1⟩<;>first|(simp(disch:=omega) only[vm,seval,H];done)|rfl
 replace h:=AC h
 rcases h with h|h
 replace h:=Ag h
 obtain⟨c,h⟩:=h
 try simp only[liE,seval]at c
 replace h:=Aa c h
 replace h:=Ag h
 obtain⟨c,h⟩:=h
 try simp only[liE,seval]at c
 replace h:=Aa c h
 replace h:=AA h
 obtain⟨y50,h⟩:=h
 simp(disch:=omega) only[vm,seval,h.1]
 refine⟨Ls h.1.1 (by first|(simp(disch:=omega) only[vm,seval,h.1];done)|rfl) fun n51 hn51=>?_⟩
 replace h:=Ag h
 obtain⟨c,h⟩:=h
 try simp only[liE,seval]at c
 replace h:=Aa c h
 obtain⟨H,h⟩:=h
 cases h
 simp(disch:=omega) only[vm,seval,H]
 refine⟨(hR _ _ _ _ _ _ (by simp(disch:=omega) only[vm,seval,H];rfl) slr ?_ (by omega) ?_).1⟩<;>first|(simp(disch:=omega) only[vm,seval,H];done)|rfl
 replace h:=AC h
 rcases h with h|h
 replace h:=Ag h
 obtain⟨c,h⟩:=h
 try simp only[liE,seval]at c
 replace h:=Aa c h
 replace h:=Ag h
 obtain⟨c,h⟩:=h
 try simp only[liE,seval]at c
 replace h:=Aa c h
 replace h:=AA h
 obtain⟨y52,h⟩:=h
 simp(disch:=omega) only[vm,seval,h.1]
 refine⟨Ls h.1.1 (by first|(simp(disch:=omega) only[vm,seval,h.1];done)|rfl) fun n53 hn53=>?_⟩
 replace h:=Ag h
 obtain⟨c,h⟩:=h
 try simp only[liE,seval]at c
 replace h:=Aa c h
 obtain⟨H,h⟩:=h
 cases h
 simp(disch:=omega) only[vm,seval,H]
 refine⟨(hR _ _ _ _ _ _ (by simp(disch:=omega) only[vm,seval,H];rfl) slr ?_ (by omega) ?_).1⟩<;>first|(simp(disch:=omega) only[vm,seval,H];done)|rfl
 replace h:=Ag h
 obtain⟨c,h⟩:=h
 try simp only[liE,seval]at c
 replace h:=Aa c h
 obtain⟨H,h⟩:=h
 cases h
 simp(disch:=omega) only[vm,seval,H]
 refine⟨(hR _ _ _ _ _ _ (by simp(disch:=omega) only[vm,seval,H];rfl) slr ?_ (by omega) ?_).1⟩<;>first|(simp(disch:=omega) only[vm,seval,H];done)|rfl
 intro k47 Jk47 hk47 h
 replace h:=AC h
 rcases h with h|h
 simp(disch:=omega) only[vm,seval,h.1]
 refine⟨hk47 true () _ _ _ _ h.2 slr ?_ ?_ ?_ (by omega)⟩<;>first|(simp(disch:=omega) only[vm,seval,h.1];done)|rfl
 replace h:=AC h
 rcases h with h|h
 simp(disch:=omega) only[vm,seval,h.1]
 refine⟨hk47 true () _ _ _ _ h.2 slr ?_ ?_ ?_ (by omega)⟩<;>first|(simp(disch:=omega) only[vm,seval,h.1];done)|rfl
 simp(disch:=omega) only[vm,seval,h.1]
 refine⟨hk47 (decide (j39.1<(-400))) () _ _ _ _ h.2 slr ?_ ?_ ?_ (by omega)⟩<;>first|(simp(disch:=omega) only[vm,seval,h.1];done)|rfl
 intro k40 Jk40 hk40 h
 simp(disch:=omega) only[vm,seval,h.1]
 refine⟨D7 (σ:=Int×(List UInt8)) (γ:=Unit) (fun k s=>EZ N k40 k s.1 s.2) (fun s g=>[.int .i64 s.1,.str s.2]) (fun s g=>m) [66,67,68,69,70,71,72,73,74,75,76,77,78] [6,7] (j20.1,j28) () h (fun _=>rfl) (by first|(simp(disch:=omega) only[vm,seval,h.1];done)|rfl) (by first|(simp(disch:=omega) only[vm,seval,h.1];done)|rfl) ?_⟩
 clear h
 rintro k43 ⟨s6,s7⟩ _ nL1_1 hnL1_1 _ h Jk43 hk43
 change _∧EZ N k40 (k43+1) s6 s7=_ at h
 rw[EZ]at h
 refine AB (.q (.q (.r []) (.c .z .z)) (.r [])) ?_
 replace h:=AA h
 obtain⟨x44,h⟩:=h
 replace h:=AC h
 rcases h with h|h
 replace h:=AA h
 obtain⟨x45,h⟩:=h
 simp(disch:=omega) only[vm,seval,h.1]
 refine⟨hk43 ((wr .i64 (s6+1)),x45) () _ _ _ _ h.2 slr ?_ ?_ ?_ (by omega)⟩<;>first|(simp(disch:=omega) only[vm,seval,h.1];done)|rfl
 simp(disch:=omega) only[vm,seval,h.1]
 refine⟨hk40 (s6,s7) () _ _ _ _ h.2 slr ?_ ?_ ?_ (by omega)⟩<;>first|(simp(disch:=omega) only[vm,seval,h.1];done)|rfl
 intro k29 Jk29 hk29 h
 simp(disch:=omega) only[vm,seval,h.1]
 refine⟨D7 (σ:=(List UInt8)) (γ:=Unit) (fun k s=>EC N k29 k s) (fun s g=>[.str s]) (fun s g=>m) [54,55,56,57,58,59,60,61,62,63] [7] j20.2 () h (fun _=>rfl) (by first|(simp(disch:=omega) only[vm,seval,h.1];done)|rfl) (by first|(simp(disch:=omega) only[vm,seval,h.1];done)|rfl) ?_⟩
 clear h
 rintro k32 s7 _ nL0_1 hnL0_1 _ h Jk32 hk32
 change _∧EC N k29 (k32+1) s7=_ at h
 rw[EC]at h
 refine AB (.q .z (.r [])) ?_
 simp(disch:=omega) only[vm,seval,h.1]
 refine⟨Ad (γ:=Unit) h [54,55,56,57,58,59,60] [61] (fun j33 g=>[.bool j33]) (fun j33 g=>m) (.r []) ?_ ?_⟩<;>clear h
 rintro j33 _ n36 hnn36 _ _ h
 refine AB (.c .z .z) ?_
 replace h:=AC h
 rcases h with h|h
 replace h:=AA h
 obtain⟨x38,h⟩:=h
 simp(disch:=omega) only[vm,seval,h.1]
 refine⟨hk32 x38 () _ _ _ _ h.2 slr ?_ ?_ ?_ (by omega)⟩<;>first|(simp(disch:=omega) only[vm,seval,h.1];done)|rfl
 simp(disch:=omega) only[vm,seval,h.1]
 refine⟨hk29 s7 () _ _ _ _ h.2 slr ?_ ?_ ?_ (by omega)⟩<;>first|(simp(disch:=omega) only[vm,seval,h.1];done)|rfl
 intro k34 Jk34 hk34 h
 replace h:=AC h
 rcases h with h|h
 replace h:=AA h
 obtain⟨x37,h⟩:=h
 simp(disch:=omega) only[vm,seval,h.1]
 refine⟨hk34 ((Am x37)==48) () _ _ _ _ h.2 slr ?_ ?_ ?_ (by omega)⟩<;>first|(simp(disch:=omega) only[vm,seval,h.1];done)|rfl
 simp(disch:=omega) only[vm,seval,h.1]
 refine⟨hk34 false () _ _ _ _ h.2 slr ?_ ?_ ?_ (by omega)⟩<;>first|(simp(disch:=omega) only[vm,seval,h.1];done)|rfl
 intro k21 Jk21 hk21 h
 replace h:=AA h
 obtain⟨y24,h⟩:=h
 simp(disch:=omega) only[vm,seval,h.1]
 refine⟨Mw h.1.1 (by first|(simp(disch:=omega) only[vm,seval,h.1];done)|rfl) fun n25 hn25=>?_⟩
 replace h:=AC h
 rcases h with h|h
 replace h:=AA h
 obtain⟨x26,h⟩:=h
 replace h:=AA h
 obtain⟨x27,h⟩:=h
 replace h:=Ag h
 obtain⟨c,h⟩:=h
 try simp only[liE,seval]at c
 replace h:=Aa c h
 simp(disch:=omega) only[vm,seval,h.1]
 refine⟨BB [] (.take 0 (.take 1 (.take 2 (.take 3 (.take 4 (.take 5 (.take 6 (.take 7 (.take 8 (.take 9 (.take 10 (.take 11 (.take 12 (.take 13 (.take 14 (.alt 15 [14,13,12,11,10,9,8,7] (.alt 16 [] (.done) (.stop)) (.stop))))))))))))))))) Av (by kernel_rfl) ?_⟩
 simp(disch:=omega) only[vm,seval,h.1]
 refine⟨hk21 ((wr .i64 (y17-(wr .i64 ((wr .i64 ((x19.length:Int)-y24))-1)))),(x26++x27)) () _ _ _ _ h.2 slr ?_ ?_ ?_ (by omega)⟩<;>first|(simp(disch:=omega) only[vm,seval,h.1];done)|rfl
 simp(disch:=omega) only[vm,seval,h.1]
 refine⟨hk21 (y17,x19) () _ _ _ _ h.2 slr ?_ ?_ ?_ (by omega)⟩<;>first|(simp(disch:=omega) only[vm,seval,h.1];done)|rfl
 intro k8 Jk8 hk8 h
 replace h:=AA h
 obtain⟨x11,h⟩:=h
 replace h:=AC h
 rcases h with h|h
 replace h:=AA h
 obtain⟨x12,h⟩:=h
 simp(disch:=omega) only[vm,seval,h.1]
 refine⟨BB [] (.take 0 (.take 1 (.alt 2 [1,0] (.alt 3 [] (.done) (.stop)) (.stop)))) Av (by kernel_rfl) ?_⟩
 simp(disch:=omega) only[vm,seval,h.1]
 refine⟨hk8 (x12,([45]:List UInt8)) () _ _ _ _ h.2 slr ?_ ?_ ?_ (by omega)⟩<;>first|(simp(disch:=omega) only[vm,seval,h.1];done)|rfl
 simp(disch:=omega) only[vm,seval,h.1]
 refine⟨hk8 (a0,[]) () _ _ _ _ h.2 slr ?_ ?_ ?_ (by omega)⟩<;>first|(simp(disch:=omega) only[vm,seval,h.1];done)|rfl
 intro k2 Jk2 hk2 h
 replace h:=AC h
 rcases h with h|h
 simp(disch:=omega) only[vm,seval,h.1]
 refine⟨hk2 true () _ _ _ _ h.2 slr ?_ ?_ ?_ (by omega)⟩<;>first|(simp(disch:=omega) only[vm,seval,h.1];done)|rfl
 replace h:=AA h
 obtain⟨y5,h⟩:=h
 simp(disch:=omega) only[vm,seval,h.1]
 refine⟨LY h.1.1 (by first|(simp(disch:=omega) only[vm,seval,h.1];done)|rfl) fun n6 hn6=>?_⟩
 simp(disch:=omega) only[vm,seval,h.1]
 refine⟨hk2 (y5 !=(a0.length:Int)) () _ _ _ _ h.2 slr ?_ ?_ ?_ (by omega)⟩<;>first|(simp(disch:=omega) only[vm,seval,h.1];done)|rfl
theorem Z8 {a0 a1 r} (h:Kn N a0 a1=some r) (ha:args=[.str a0,.int .u64 a1]) (hQ: ∀n',n≤n'→Gl (Q (.tuple [.int .u64 r.1,.int .i64 r.2]) ⟨m,n'⟩)):ACall vE 113 args ⟨m,n⟩ Q:=by
 rw[Kn]at h
 subst ha
 refine ent hQ Tryz.func113 rfl Tryz.ntmps113 Tryz.results113 (.q (.r []) (.q (.r []) .z)) fun R hR=>?_
 replace h:=And.intro trivial h
 replace h:=AA h
 obtain⟨y1,h⟩:=h
 simp(disch:=omega) only[vm,seval,h.1]
 refine⟨Si h.1.1 (by first|(simp(disch:=omega) only[vm,seval,h.1];done)|rfl) fun n2 hn2=>?_⟩
 obtain⟨H,h⟩:=h
 cases h
 simp(disch:=omega) only[vm,seval,H]
 refine⟨(hR _ _ _ _ _ _ (by simp(disch:=omega) only[vm,seval,H];rfl) slr ?_ (by omega) ?_).1⟩<;>first|(simp(disch:=omega) only[vm,seval,H];done)|rfl
theorem LZ {a0 r}{i0:Nat} (h:Cm N a0=some r) (ha:args=[.ptr i0 0]) (hi0:Bi m i0=some ([.str a0.s,.int .i64 a0.at_])) (hQ: ∀n',n≤n'→Gl (Q (.tuple [.str r.1,.bool r.2.1]) ⟨Br m i0 ([.str r.2.2.s,.int .i64 r.2.2.at_]),n'⟩)):ACall vE 73 args ⟨m,n⟩ Q:=by
 rw[Cm]at h
 subst ha
 refine ACall.front hi0 fun hin=>ent (fun n' k=>⟨_,rfl,(hQ n' k).go⟩) Tryz.func73 rfl Tryz.ntmps73 Tryz.results73 (.q (.r []) (.q (.r []) (.q (.r []) (.q .z .z)))) fun R hR=>?_
 replace h:=And.intro trivial h
 replace h:=AA h
 obtain⟨y1,h⟩:=h
 simp(disch:=omega) only[vm,seval,h.1]
 refine⟨Ee h.1.1 (by first|(simp(disch:=omega) only[vm,seval,h.1];done)|rfl) (i0:=i0) (by simp(disch:=omega) only[vm,seval,h.1]) fun n2 hn2=>?_⟩
 simp(disch:=omega) only[vm,seval,h.1]
 refine⟨Ad (γ:=Unit) h [13,14,15,16,17,18,19] [20] (fun j3 g=>[.bool j3.1]) (fun j3 g=>(i0,[.str j3.2.s,.int .i64 j3.2.at_])::BP m i0) (.r []) ?_ ?_⟩<;>clear h
 rintro j3 _ n6 hnn6 _ _ h
 refine AB (.c (.q (.r []) .z) .z) ?_
 replace h:=AC h
 rcases h with h|h
 obtain⟨H,h⟩:=h
 cases h
 simp(disch:=omega) only[vm,seval,H]
 refine⟨(hR _ _ _ _ _ _ (by simp(disch:=omega) only[vm,seval,H];rfl) slr ?_ (by omega) ?_).1⟩<;>first|(simp(disch:=omega) only[vm,seval,H];done)|rfl
 simp(disch:=omega) only[vm,seval,h.1]
 refine⟨Ad (γ:=Unit) h [5,21,22,23,24,25,26,27,28,29] [] (fun j11 g=>[]) (fun j11 g=>(i0,[.str j11.s,.int .i64 j11.at_])::BP m i0) (.q (.r []) (.q (.r []) (.c (.r []) .z))) ?_ ?_⟩<;>clear h
 rintro j11 _ n14 hnn14 _ _ h
 refine AB .z ?_
 simp(disch:=omega) only[vm,seval,h.1]
 refine⟨Ad (γ:=Unit) h [6,30,31,32,33,34,35,36,37,38,39,40] [] (fun j19 g=>[]) (fun j19 g=>(i0,[.str j19.s,.int .i64 j19.at_])::BP m i0) (.q (.r []) (.q (.r []) (.c (.q (.r []) (.r [])) .z))) ?_ ?_⟩<;>clear h
 rintro j19 _ n22 hnn22 _ _ h
 refine AB (.q .z .z) ?_
 replace h:=AA h
 obtain⟨x29,h⟩:=h
 simp(disch:=omega) only[vm,seval,h.1]
 refine⟨BB [] (.take 0 (.take 1 (.take 2 (.take 3 (.take 4 (.take 5 (.take 6 (.take 7 (.take 8 (.take 9 (.alt 10 [] (.alt 11 [] (.done) (.stop)) (.stop)))))))))))) Av (by kernel_rfl) ?_⟩
 obtain⟨H,h⟩:=h
 cases h
 simp(disch:=omega) only[vm,seval,H]
 refine⟨(hR _ _ _ _ _ _ (by simp(disch:=omega) only[vm,seval,H];rfl) slr ?_ (by omega) ?_).1⟩<;>first|(simp(disch:=omega) only[vm,seval,H];done)|rfl
 intro k20 Jk20 hk20 h
 replace h:=AA h
 obtain⟨y23,h⟩:=h
 simp(disch:=omega) only[vm,seval,h.1]
 refine⟨Ee h.1.1 (by first|(simp(disch:=omega) only[vm,seval,h.1];done)|rfl) (i0:=i0) (by simp(disch:=omega) only[vm,seval,h.1]) fun n24 hn24=>?_⟩
 replace h:=AC h
 rcases h with h|h
 replace h:=AA h
 obtain⟨y25,h⟩:=h
 simp(disch:=omega) only[vm,seval,h.1]
 refine⟨Ee h.1.1 (by first|(simp(disch:=omega) only[vm,seval,h.1];done)|rfl) (i0:=i0) (by simp(disch:=omega) only[vm,seval,h.1]) fun n26 hn26=>?_⟩
 replace h:=AA h
 obtain⟨y27,h⟩:=h
 simp(disch:=omega) only[vm,seval,h.1]
 refine⟨Ik h.1.1 (by first|(simp(disch:=omega) only[vm,seval,h.1];done)|rfl) (i0:=i0) (by simp(disch:=omega) only[vm,seval,h.1]) fun n28 hn28=>?_⟩
 simp(disch:=omega) only[vm,seval,h.1]
 refine⟨hk20 y27 () _ _ _ _ h.2 slr ?_ ?_ ?_ (by omega)⟩<;>first|(simp(disch:=omega) only[vm,seval,h.1];done)|rfl
 simp(disch:=omega) only[vm,seval,h.1]
 refine⟨hk20 y23.2 () _ _ _ _ h.2 slr ?_ ?_ ?_ (by omega)⟩<;>first|(simp(disch:=omega) only[vm,seval,h.1];done)|rfl
 intro k12 Jk12 hk12 h
 replace h:=AA h
 obtain⟨y15,h⟩:=h
 simp(disch:=omega) only[vm,seval,h.1]
 refine⟨Ee h.1.1 (by first|(simp(disch:=omega) only[vm,seval,h.1];done)|rfl) (i0:=i0) (by simp(disch:=omega) only[vm,seval,h.1]) fun n16 hn16=>?_⟩
 replace h:=AC h
 rcases h with h|h
 replace h:=AA h
 obtain⟨y17,h⟩:=h
 simp(disch:=omega) only[vm,seval,h.1]
 refine⟨Ik h.1.1 (by first|(simp(disch:=omega) only[vm,seval,h.1];done)|rfl) (i0:=i0) (by simp(disch:=omega) only[vm,seval,h.1]) fun n18 hn18=>?_⟩
 simp(disch:=omega) only[vm,seval,h.1]
 refine⟨hk12 y17 () _ _ _ _ h.2 slr ?_ ?_ ?_ (by omega)⟩<;>first|(simp(disch:=omega) only[vm,seval,h.1];done)|rfl
 simp(disch:=omega) only[vm,seval,h.1]
 refine⟨hk12 y15.2 () _ _ _ _ h.2 slr ?_ ?_ ?_ (by omega)⟩<;>first|(simp(disch:=omega) only[vm,seval,h.1];done)|rfl
 intro k4 Jk4 hk4 h
 replace h:=AA h
 obtain⟨y7,h⟩:=h
 simp(disch:=omega) only[vm,seval,h.1]
 refine⟨Ee h.1.1 (by first|(simp(disch:=omega) only[vm,seval,h.1];done)|rfl) (i0:=i0) (by simp(disch:=omega) only[vm,seval,h.1]) fun n8 hn8=>?_⟩
 replace h:=AC h
 rcases h with h|h
 simp(disch:=omega) only[vm,seval,h.1]
 refine⟨hk4 (false,y7.2) () _ _ _ _ h.2 slr ?_ ?_ ?_ (by omega)⟩<;>first|(simp(disch:=omega) only[vm,seval,h.1];done)|rfl
 replace h:=AA h
 obtain⟨y9,h⟩:=h
 simp(disch:=omega) only[vm,seval,h.1]
 refine⟨Es h.1.1 (by first|(simp(disch:=omega) only[vm,seval,h.1];done)|rfl) (i0:=i0) (by simp(disch:=omega) only[vm,seval,h.1]) fun n10 hn10=>?_⟩
 simp(disch:=omega) only[vm,seval,h.1]
 refine⟨hk4 ((y9.1==[]),y9.2) () _ _ _ _ h.2 slr ?_ ?_ ?_ (by omega)⟩<;>first|(simp(disch:=omega) only[vm,seval,h.1];done)|rfl
theorem Ml {a0 a1 r} (h:strings_Cut N a0 a1=some r) (ha:args=[.str a0,.str a1]) (hQ: ∀n',n≤n'→Gl (Q (.tuple [.str r.1,.str r.2.1,.bool r.2.2]) ⟨m,n'⟩)):ACall vE 74 args ⟨m,n⟩ Q:=by
 rw[strings_Cut]at h
 subst ha
 refine ent hQ Tryz.func74 rfl Tryz.ntmps74 Tryz.results74 (.q (.r []) (.q (.r []) .z)) fun R hR=>?_
 replace h:=And.intro trivial h
 replace h:=AA h
 obtain⟨y1,h⟩:=h
 simp(disch:=omega) only[vm,seval,h.1]
 refine⟨Jj h.1.1 (by first|(simp(disch:=omega) only[vm,seval,h.1];done)|rfl) fun n2 hn2=>?_⟩
 obtain⟨H,h⟩:=h
 cases h
 simp(disch:=omega) only[vm,seval,H]
 refine⟨(hR _ _ _ _ _ _ (by simp(disch:=omega) only[vm,seval,H];rfl) slr ?_ (by omega) ?_).1⟩<;>first|(simp(disch:=omega) only[vm,seval,H];done)|rfl
theorem IP {a0 a1 r} (h:FP N a0 a1=some r) (ha:args=[.str a0,.int .i32 a1]) (hQ: ∀n',n≤n'→Gl (Q (.bool r) ⟨m,n'⟩)):ACall vE 119 args ⟨m,n⟩ Q:=by
 rw[FP]at h
 subst ha
 refine ent hQ Tryz.func119 rfl Tryz.ntmps119 Tryz.results119 (.q (.r []) (.q (.r []) .z)) fun R hR=>?_
 replace h:=And.intro trivial h
 replace h:=AA h
 obtain⟨y1,h⟩:=h
 simp(disch:=omega) only[vm,seval,h.1]
 refine⟨Mj h.1.1 (by first|(simp(disch:=omega) only[vm,seval,h.1];done)|rfl) fun n2 hn2=>?_⟩
 obtain⟨H,h⟩:=h
 cases h
 simp(disch:=omega) only[vm,seval,H]
 refine⟨(hR _ _ _ _ _ _ (by simp(disch:=omega) only[vm,seval,H];rfl) slr ?_ (by omega) ?_).1⟩<;>first|(simp(disch:=omega) only[vm,seval,H];done)|rfl
theorem RS {a0 a1 r} (h:Ie N a0 a1=some r) (ha:args=[.str a0,.int .u64 a1]) (hQ: ∀n',n≤n'→Gl (Q (.tuple [.int .u64 r.1,.int .i64 r.2]) ⟨m,n'⟩)):ACall vE 100 args ⟨m,n⟩ Q:=by
 rw[Ie]at h
 subst ha
 refine ent hQ Tryz.func100 rfl Tryz.ntmps100 Tryz.results100 (.q (.r []) (.q (.r []) .z)) fun R hR=>?_
 replace h:=And.intro trivial h
 replace h:=AA h
 obtain⟨y1,h⟩:=h
 simp(disch:=omega) only[vm,seval,h.1]
 refine⟨JG h.1.1 (by first|(simp(disch:=omega) only[vm,seval,h.1];done)|rfl) fun n2 hn2=>?_⟩
 obtain⟨H,h⟩:=h
 cases h
 simp(disch:=omega) only[vm,seval,H]
 refine⟨(hR _ _ _ _ _ _ (by simp(disch:=omega) only[vm,seval,H];rfl) slr ?_ (by omega) ?_).1⟩<;>first|(simp(disch:=omega) only[vm,seval,H];done)|rfl
theorem I4 {a0 r} (h:Ez N a0=some r) (ha:args=[.str a0]) (hQ: ∀n',n≤n'→Gl (Q (.bool r) ⟨m,n'⟩)):ACall vE 63 args ⟨m,n⟩ Q:=by
 rw[Ez]at h
 subst ha
 refine ent hQ Tryz.func63 rfl Tryz.ntmps63 Tryz.results63 (.q (.r []) (.q (.r []) .z)) fun R hR=>?_
 replace h:=And.intro trivial h
 replace h:=AA h
 obtain⟨y1,h⟩:=h
 simp(disch:=omega) only[vm,seval,h.1]
 refine⟨O0 h.1.1 (by first|(simp(disch:=omega) only[vm,seval,h.1];done)|rfl) fun n2 hn2=>?_⟩
 obtain⟨H,h⟩:=h
 cases h
 simp(disch:=omega) only[vm,seval,H]
 refine⟨(hR _ _ _ _ _ _ (by simp(disch:=omega) only[vm,seval,H];rfl) slr ?_ (by omega) ?_).1⟩<;>first|(simp(disch:=omega) only[vm,seval,H];done)|rfl
theorem Ej {l0 a0 a1 a2 c3_0 r}{i0:Nat} (h:Az N l0 a0 a1 a2 c3_0=some r) (ha:args=[.bsl 1 i0 0 l0,.int .i64 a1,.int .i64 a2,.fn (.func 66) [] [.cptr [.int .i64 c3_0.kind,.str c3_0.text,.slice 1 (List.map AVal.str c3_0.keys) false,.slice 4 (List.map AJ c3_0.items) false]]]) (hi0:Bi m i0=some (List.map (AVal.int .i64) a0)) (hQ: ∀n',n≤n'→Gl (Q (.tuple []) ⟨Br m i0 (List.map (AVal.int .i64) r),n'⟩)):ACall vE 103 args ⟨m,n⟩ Q:=by
 rw[Az]at h
 subst ha
 refine ACall.front hi0 fun hin=>ent (fun n' k=>⟨_,rfl,(hQ n' k).go⟩) Tryz.func103 rfl Tryz.ntmps103 Tryz.results103 (.q (.r []) .z) fun R hR=>?_
 replace h:=And.intro trivial h
 replace h:=Ag h
 obtain⟨hfk1,h⟩:=h
 simp(disch:=omega) only[vm,seval,h.1]
 refine⟨NI (σ:=(List Int)) (γ:=Unit) (wr .i64 (a1+1)) a2 hfk1 (fun xs i s=>AQ N l0 a1 c3_0 xs i s) (fun i s g=>[.int .i64 i]) (fun i s g=>(i0,List.map (AVal.int .i64) s)::BP m i0) [9,12,13,14,15,16,17,18,19,20,21,22,23,24,25,26,27,28,29,30,31,32,33,34,35,36,37,38,39,40,41,42,43,44,45,46,47,48,49,50,51,52] [8] a0 () h (by first|(simp(disch:=omega) only[vm,seval,h.1];done)|rfl) (by first|(simp(disch:=omega) only[vm,seval,h.1];done)|rfl) ?_ ?_⟩<;>clear h
 rintro s8_0 bi0_0 _ nL0_1 hnL0_1 _ h
 change _∧AQ N l0 a1 c3_0 0 s8_0 bi0_0=_ at h
 rw[AQ]at h
 refine AB (.q (.q (.r []) (.c .z .z)) .z) ?_
 obtain⟨H,h⟩:=h
 cases h
 simp(disch:=omega) only[vm,seval,H]
 refine⟨(hR _ _ _ _ _ _ (by simp(disch:=omega) only[vm,seval,H];rfl) slr ?_ (by omega) ?_).2⟩<;>first|(simp(disch:=omega) only[vm,seval,H];done)|rfl
 rintro xsk1 s8_0 bi0_0 _ nL0_1 hnL0_1 _ h Jk1 hk1
 change _∧AQ N l0 a1 c3_0 (xsk1+1) s8_0 bi0_0=_ at h
 rw[AQ]at h
 refine AB (.q (.q (.r []) (.c .z .z)) .z) ?_
 simp(disch:=omega) only[vm,seval,h.1]
 refine⟨Ad (γ:=Unit) h [9,17,18,19,20,21,22,23,24,25,26,27,28,29,30,31,32,33,34,35,36,37,38,39,40,41,42,43,44,45,46,47,48,49,50,51,52] [] (fun j2 g=>[]) (fun j2 g=>(i0,List.map (AVal.int .i64) j2)::BP m i0) (.q (.r []) .z) ?_ ?_⟩<;>clear h
 rintro j2 _ n5 hnn5 _ _ h
 refine AB (.r []) ?_
 simp(disch:=omega) only[vm,seval,h.1]
 refine⟨hk1 j2 () _ _ _ _ h.2 slr ?_ ?_ ?_ (by omega)⟩<;>first|(simp(disch:=omega) only[vm,seval,h.1];done)|rfl
 intro k3 Jk3 hk3 h
 simp(disch:=omega) only[vm,seval,h.1]
 refine⟨D7 (σ:=Int×(List Int)) (γ:=Unit) (fun k s=>Au N l0 a1 c3_0 k3 k s.1 s.2) (fun s g=>[.int .i64 s.1]) (fun s g=>(i0,List.map (AVal.int .i64) s.2)::BP m i0) [18,19,20,21,22,23,24,25,26,27,28,29,30,31,32,33,34,35,36,37,38,39,40,41,42,43,44,45,46,47,48,49,50,51,52] [9] (s8_0,bi0_0) () h (fun _=>rfl) (by first|(simp(disch:=omega) only[vm,seval,h.1];done)|rfl) (by first|(simp(disch:=omega) only[vm,seval,h.1];done)|rfl) ?_⟩
 clear h
 rintro k6 ⟨s9_1,bi0_1⟩ _ nL1_2 hnL1_2 _ h Jk6 hk6
 change _∧Au N l0 a1 c3_0 k3 (k6+1) s9_1 bi0_1=_ at h
 rw[Au]at h
 refine AB (.q .z (.q .z (.r []))) ?_
 simp(disch:=omega) only[vm,seval,h.1]
 refine⟨Ad (γ:=Unit) h [18,19,20,21,22,23,24,25,26,27,28,29,30,31,32,33] [34] (fun j7 g=>[.bool j7]) (fun j7 g=>(i0,List.map (AVal.int .i64) bi0_1)::BP m i0) .z ?_ ?_⟩<;>clear h
 rintro j7 _ n10 hnn10 _ _ h
 refine AB (.c .z .z) ?_
 replace h:=AC h
 rcases h with h|h
 replace h:=Ag h
 obtain⟨c,h⟩:=h
 try simp only[liE,seval]at c
 replace h:=Aa c h
 replace h:=AA h
 obtain⟨x15,h⟩:=h
 replace h:=Ag h
 obtain⟨c,h⟩:=h
 try simp only[liE,seval]at c
 replace h:=Aa c h
 replace h:=AA h
 obtain⟨x16,h⟩:=h
 replace h:=Ag h
 obtain⟨c,h⟩:=h
 try simp only[liE,seval]at c
 replace h:=Aa c h
 replace h:=Ag h
 obtain⟨c,h⟩:=h
 try simp only[liE,seval]at c
 replace h:=Aa c h
 simp(disch:=omega) only[vm,seval,h.1]
 refine⟨BB [] (.take 0 (.take 1 (.take 2 (.take 3 (.take 4 (.take 5 (.take 6 (.take 7 (.take 8 (.take 9 (.take 10 (.take 11 (.take 12 (.take 13 (.take 14 (.alt 15 [12,11,10,4,3,2] (.take 16 (.alt 17 [] (.done) (.stop))) (.stop))))))))))))))))) Av (by kernel_rfl) ?_⟩
 simp(disch:=omega) only[vm,seval,h.1]
 refine⟨hk6 ((wr .i64 (s9_1-1)),((bi0_1.set s9_1.toNat x15).set ((wr .i64 (s9_1-1)).toNat) x16)) () _ _ _ _ h.2 slr ?_ ?_ ?_ (by omega)⟩<;>first|(simp(disch:=omega) only[vm,seval,h.1];done)|rfl
 simp(disch:=omega) only[vm,seval,h.1]
 refine⟨hk3 bi0_1 () _ _ _ _ h.2 slr ?_ ?_ ?_ (by omega)⟩<;>first|(simp(disch:=omega) only[vm,seval,h.1];done)|rfl
 intro k8 Jk8 hk8 h
 replace h:=AC h
 rcases h with h|h
 replace h:=Ag h
 obtain⟨c,h⟩:=h
 try simp only[liE,seval]at c
 replace h:=Aa c h
 replace h:=AA h
 obtain⟨x11,h⟩:=h
 replace h:=Ag h
 obtain⟨c,h⟩:=h
 try simp only[liE,seval]at c
 replace h:=Aa c h
 replace h:=AA h
 obtain⟨x12,h⟩:=h
 replace h:=AA h
 obtain⟨y13,h⟩:=h
 have cy13:=h.1.1
 simp(disch:=omega) only[vm,seval,h.1]
 refine⟨BB [] (.take 0 (.take 1 (.take 2 (.take 3 (.take 4 (.take 5 (.take 6 (.take 7 (.take 8 (.take 9 (.take 10 (.take 11 (.take 12 (.take 13 (.alt 14 [12,11,10,9,7,6,5,2,1,0] (.take 15 (.take 16 (.done))) (.stop)))))))))))))))) Av (by kernel_rfl) ?_⟩
 simp(disch:=omega) only[vm,seval,h.1]
 refine⟨Be cy13 (by first|(simp(disch:=omega) only[vm,seval,h.1];done)|rfl) fun n14 hn14=>?_⟩
 simp(disch:=omega) only[vm,seval,h.1]
 refine⟨hk8 (decide (y13<0)) () _ _ _ _ h.2 slr ?_ ?_ ?_ (by omega)⟩<;>first|(simp(disch:=omega) only[vm,seval,h.1];done)|rfl
 simp(disch:=omega) only[vm,seval,h.1]
 refine⟨BB [] (.take 0 (.take 1 (.take 2 (.take 3 (.take 4 (.take 5 (.take 6 (.take 7 (.take 8 (.take 9 (.take 10 (.take 11 (.take 12 (.take 13 (.alt 14 [12,11,10,9,7,6,5,2,1,0] (.take 15 (.take 16 (.done))) (.stop)))))))))))))))) Av (by kernel_rfl) ?_⟩
 simp(disch:=omega) only[vm,seval,h.1]
 refine⟨hk8 false () _ _ _ _ h.2 slr ?_ ?_ ?_ (by omega)⟩<;>first|(simp(disch:=omega) only[vm,seval,h.1];done)|rfl
theorem Df {l0 a0 a1 a2 a3 c4_0 r}{i0:Nat} (h:BN N l0 a0 a1 a2 a3 c4_0=some r) (ha:args=[.bsl 1 i0 0 l0,.int .i64 a1,.int .i64 a2,.int .i64 a3,.fn (.func 66) [] [.cptr [.int .i64 c4_0.kind,.str c4_0.text,.slice 1 (List.map AVal.str c4_0.keys) false,.slice 4 (List.map AJ c4_0.items) false]]]) (hi0:Bi m i0=some (List.map (AVal.int .i64) a0)) (hQ: ∀n',n≤n'→Gl (Q (.tuple []) ⟨Br m i0 (List.map (AVal.int .i64) r),n'⟩)):ACall vE 124 args ⟨m,n⟩ Q:=by
 rw[BN]at h
 subst ha
 refine ACall.front hi0 fun hin=>ent (fun n' k=>⟨_,rfl,(hQ n' k).go⟩) Tryz.func124 rfl Tryz.ntmps124 Tryz.results124 (.q (.r []) .z) fun R hR=>?_
 replace h:=And.intro trivial h
 simp(disch:=omega) only[vm,seval,h.1]
 refine⟨D7 (σ:=Int×(List Int)) (γ:=Unit) (fun k s=>Ar N l0 a2 a3 c4_0 k s.1 s.2) (fun s g=>[.int .i64 s.1]) (fun s g=>(i0,List.map (AVal.int .i64) s.2)::BP m i0) [11,13,14,15,16,17,18,19,20,21,22,23,24,25,26,27,28,29,30,31,32,33,34,35,36,37,38,39,40,41,42,43,44,45,46,47,48,49,50,51,52,53,54,55,56,57,58,59,60,61,62,63,64,65,66,67,68,69,70,71,72,73,74,75,76,77,78,79,80,81] [10] (a1,a0) () h (fun _=>rfl) (by first|(simp(disch:=omega) only[vm,seval,h.1];done)|rfl) (by first|(simp(disch:=omega) only[vm,seval,h.1];done)|rfl) ?_⟩
 clear h
 rintro k1 ⟨s10_0,bi0_0⟩ _ nL0_1 hnL0_1 _ h Jk1 hk1
 change _∧Ar N l0 a2 a3 c4_0 (k1+1) s10_0 bi0_0=_ at h
 rw[Ar]at h
 refine AB (.q (.r []) (.q (.q (.r []) (.c .z .z)) .z)) ?_
 replace h:=AC h
 rcases h with h|h
 obtain⟨H,h⟩:=h
 cases h
 simp(disch:=omega) only[vm,seval,H]
 refine⟨(hR _ _ _ _ _ _ (by simp(disch:=omega) only[vm,seval,H];rfl) slr ?_ (by omega) ?_).2⟩<;>first|(simp(disch:=omega) only[vm,seval,H];done)|rfl
 simp(disch:=omega) only[vm,seval,h.1]
 refine⟨Ad (γ:=Unit) h [19,20,21,22,23,24,25,26,27,28,29,30,31,32,33,34,35,36,37,38,39,40,41,42] [11] (fun j2 g=>[.int .i64 j2]) (fun j2 g=>(i0,List.map (AVal.int .i64) bi0_0)::BP m i0) .z ?_ ?_⟩<;>clear h
 rintro j2 _ n5 hnn5 _ _ h
 refine AB (.q (.q .z (.c .z .z)) (.q .z (.r []))) ?_
 replace h:=Ag h
 obtain⟨c,h⟩:=h
 try simp only[liE,seval]at c
 replace h:=Aa c h
 replace h:=AA h
 obtain⟨x14,h⟩:=h
 replace h:=Ag h
 obtain⟨c,h⟩:=h
 try simp only[liE,seval]at c
 replace h:=Aa c h
 replace h:=AA h
 obtain⟨x15,h⟩:=h
 replace h:=AA h
 obtain⟨y16,h⟩:=h
 have cy16:=h.1.1
 simp(disch:=omega) only[vm,seval,h.1]
 refine⟨BB [] (.take 0 (.take 1 (.take 2 (.take 3 (.take 4 (.take 5 (.take 6 (.take 7 (.take 8 (.take 9 (.take 10 (.take 11 (.take 12 (.alt 13 [11,10,9,8,7,5,4,3,2,1] (.take 14 (.take 15 (.done))) (.stop))))))))))))))) Av (by kernel_rfl) ?_⟩
 simp(disch:=omega) only[vm,seval,h.1]
 refine⟨Be cy16 (by first|(simp(disch:=omega) only[vm,seval,h.1];done)|rfl) fun n17 hn17=>?_⟩
 replace h:=AC h
 rcases h with h|h
 replace h:=Ag h
 obtain⟨c,h⟩:=h
 try simp only[liE,seval]at c
 replace h:=Aa c h
 replace h:=Ag h
 obtain⟨c,h⟩:=h
 try simp only[liE,seval]at c
 replace h:=Aa c h
 simp(disch:=omega) only[vm,seval,h.1]
 refine⟨BB [] (.take 0 (.take 1 (.take 2 (.take 3 (.take 4 (.take 5 (.take 6 (.take 7 (.take 8 (.take 9 (.take 10 (.take 11 (.take 12 (.take 13 (.take 14 (.take 15 (.take 16 (.take 17 (.take 18 (.take 19 (.take 20 (.alt 21 [18,17,16,15,14,7,6,5,4] (.take 22 (.alt 23 [] (.done) (.stop))) (.stop))))))))))))))))))))))) Av (by kernel_rfl) ?_⟩
 simp(disch:=omega) only[vm,seval,h.1]
 refine⟨hk1 (j2,((bi0_0.set ((wr .i64 (a3+s10_0)).toNat) x15).set ((wr .i64 (a3+j2)).toNat) x14)) () _ _ _ _ h.2 slr ?_ ?_ ?_ (by omega)⟩<;>first|(simp(disch:=omega) only[vm,seval,h.1];done)|rfl
 obtain⟨H,h⟩:=h
 cases h
 simp(disch:=omega) only[vm,seval,H]
 refine⟨(hR _ _ _ _ _ _ (by simp(disch:=omega) only[vm,seval,H];rfl) slr ?_ (by omega) ?_).1⟩<;>first|(simp(disch:=omega) only[vm,seval,H];done)|rfl
 intro k3 Jk3 hk3 h
 simp(disch:=omega) only[vm,seval,h.1]
 refine⟨Ad (γ:=Unit) h [19,20,21,22,23,24,25,26,27,28,29,30,31,32,33,34,35,36,37,38,39] [40] (fun j6 g=>[.bool j6]) (fun j6 g=>(i0,List.map (AVal.int .i64) bi0_0)::BP m i0) .z ?_ ?_⟩<;>clear h
 rintro j6 _ n9 hnn9 _ _ h
 refine AB (.c (.r []) .z) ?_
 replace h:=AC h
 rcases h with h|h
 simp(disch:=omega) only[vm,seval,h.1]
 refine⟨hk3 (wr .i64 ((wr .i64 ((wr .i64 (2 * s10_0))+1))+1)) () _ _ _ _ h.2 slr ?_ ?_ ?_ (by omega)⟩<;>first|(simp(disch:=omega) only[vm,seval,h.1];done)|rfl
 simp(disch:=omega) only[vm,seval,h.1]
 refine⟨hk3 (wr .i64 ((wr .i64 (2 * s10_0))+1)) () _ _ _ _ h.2 slr ?_ ?_ ?_ (by omega)⟩<;>first|(simp(disch:=omega) only[vm,seval,h.1];done)|rfl
 intro k7 Jk7 hk7 h
 replace h:=AC h
 rcases h with h|h
 replace h:=Ag h
 obtain⟨c,h⟩:=h
 try simp only[liE,seval]at c
 replace h:=Aa c h
 replace h:=AA h
 obtain⟨x10,h⟩:=h
 replace h:=Ag h
 obtain⟨c,h⟩:=h
 try simp only[liE,seval]at c
 replace h:=Aa c h
 replace h:=AA h
 obtain⟨x11,h⟩:=h
 replace h:=AA h
 obtain⟨y12,h⟩:=h
 have cy12:=h.1.1
 simp(disch:=omega) only[vm,seval,h.1]
 refine⟨BB [] (.take 0 (.take 1 (.take 2 (.take 3 (.take 4 (.take 5 (.take 6 (.take 7 (.take 8 (.take 9 (.take 10 (.take 11 (.take 12 (.take 13 (.take 14 (.take 15 (.take 16 (.take 17 (.take 18 (.alt 19 [17,16,15,14,13,12,10,9,8,7,6,3,2,1,0] (.take 20 (.take 21 (.done))) (.stop))))))))))))))))))))) Av (by kernel_rfl) ?_⟩
 simp(disch:=omega) only[vm,seval,h.1]
 refine⟨Be cy12 (by first|(simp(disch:=omega) only[vm,seval,h.1];done)|rfl) fun n13 hn13=>?_⟩
 simp(disch:=omega) only[vm,seval,h.1]
 refine⟨hk7 (decide (y12<0)) () _ _ _ _ h.2 slr ?_ ?_ ?_ (by omega)⟩<;>first|(simp(disch:=omega) only[vm,seval,h.1];done)|rfl
 simp(disch:=omega) only[vm,seval,h.1]
 refine⟨BB [] (.take 0 (.take 1 (.take 2 (.take 3 (.take 4 (.take 5 (.take 6 (.take 7 (.take 8 (.take 9 (.take 10 (.take 11 (.take 12 (.take 13 (.take 14 (.take 15 (.take 16 (.take 17 (.take 18 (.alt 19 [17,16,15,14,13,12,10,9,8,7,6,3,2,1,0] (.take 20 (.take 21 (.done))) (.stop))))))))))))))))))))) Av (by kernel_rfl) ?_⟩
 simp(disch:=omega) only[vm,seval,h.1]
 refine⟨hk7 false () _ _ _ _ h.2 slr ?_ ?_ ?_ (by omega)⟩<;>first|(simp(disch:=omega) only[vm,seval,h.1];done)|rfl
theorem Eh {l0 a0 a1 a2 c3_0 r}{i0:Nat} (h:BQ N l0 a0 a1 a2 c3_0=some r) (ha:args=[.bsl 1 i0 0 l0,.int .i64 a1,.int .i64 a2,.fn (.func 66) [] [.cptr [.int .i64 c3_0.kind,.str c3_0.text,.slice 1 (List.map AVal.str c3_0.keys) false,.slice 4 (List.map AJ c3_0.items) false]]]) (hi0:Bi m i0=some (List.map (AVal.int .i64) a0)) (hQ: ∀n',n≤n'→Gl (Q (.tuple []) ⟨Br m i0 (List.map (AVal.int .i64) r),n'⟩)):ACall vE 105 args ⟨m,n⟩ Q:=by
 rw[BQ]at h
 subst ha
 refine ACall.front hi0 fun hin=>ent (fun n' k=>⟨_,rfl,(hQ n' k).go⟩) Tryz.func105 rfl Tryz.ntmps105 Tryz.results105 (.q (.r []) (.q (.r []) (.c (.q (.r []) (.q (.r []) (.q (.r []) .z))) .z))) fun R hR=>?_
 replace h:=And.intro trivial h
 replace h:=AC h
 rcases h with h|h
 replace h:=AA h
 obtain⟨y1,h⟩:=h
 simp(disch:=omega) only[vm,seval,h.1]
 refine⟨KZ h.1.1 (by first|(simp(disch:=omega) only[vm,seval,h.1];done)|rfl) fun n2 hn2=>?_⟩
 simp(disch:=omega) only[vm,seval,h.1]
 refine⟨D7 (σ:=Int×Int×(List Int)) (γ:=Unit) (fun k s=>Aj N l0 a1 a2 y1 k s.1 s.2.1 s.2.2) (fun s g=>[.int .i64 s.1]) (fun s g=>(n,[.int .u64 s.2.1])::(i0,List.map (AVal.int .i64) s.2.2)::BP m i0) [12,28,29,30,31,32,33,34,35,36,37,38,39,40,41,42,43,44,45,46,47,48,49,50,51,52,53,54,55,56,57,58,59,60,61,62,63,64,65,66] [11] ((wr .i64 ((wr .i64 (a1+(wr .i64 ((wr .i64 ((wr .i64 (a2-a1)).tdiv 4)) * 2))))-1)),(wr .u64 (wr .i64 (a2-a1))),a0) () h (fun _=>rfl) (by first|(simp(disch:=omega) only[vm,seval,h.1];done)|rfl) (by first|(simp(disch:=omega) only[vm,seval,h.1];done)|rfl) ?_⟩
 clear h
 rintro k3 ⟨s11_0,bn_0,bi0_0⟩ _ nL0_1 hnL0_1 _ h Jk3 hk3
 change _∧Aj N l0 a1 a2 y1 (k3+1) s11_0 bn_0 bi0_0=_ at h
 rw[Aj]at h
 refine AB (.q (.q (.r []) (.c .z .z)) (.q (.q (.r []) .z) (.r []))) ?_
 replace h:=AC h
 rcases h with h|h
 replace h:=AA h
 obtain⟨y4,h⟩:=h
 simp(disch:=omega) only[vm,seval,h.1]
 refine⟨K4 h.1.1 (by first|(simp(disch:=omega) only[vm,seval,h.1];done)|rfl) (i0:=n) (by simp(disch:=omega) only[vm,seval,h.1]) fun n5 hn5=>?_⟩
 simp(disch:=omega) only[vm,seval,h.1]
 refine⟨Ad (γ:=Unit) h [43,44,45,46,47,48] [12] (fun j6 g=>[.int .i64 j6]) (fun j6 g=>(n,[.int .u64 y4.2])::(i0,List.map (AVal.int .i64) bi0_0)::BP m i0) (.q (.r []) (.c (.r []) .z)) ?_ ?_⟩<;>clear h
 rintro j6 _ n9 hnn9 _ _ h
 refine AB .z ?_
 replace h:=Ag h
 obtain⟨c,h⟩:=h
 try simp only[liE,seval]at c
 replace h:=Aa c h
 replace h:=AA h
 obtain⟨x10,h⟩:=h
 replace h:=Ag h
 obtain⟨c,h⟩:=h
 try simp only[liE,seval]at c
 replace h:=Aa c h
 replace h:=AA h
 obtain⟨x11,h⟩:=h
 replace h:=Ag h
 obtain⟨c,h⟩:=h
 try simp only[liE,seval]at c
 replace h:=Aa c h
 replace h:=Ag h
 obtain⟨c,h⟩:=h
 try simp only[liE,seval]at c
 replace h:=Aa c h
 simp(disch:=omega) only[vm,seval,h.1]
 refine⟨BB [] (.take 0 (.take 1 (.take 2 (.take 3 (.take 4 (.take 5 (.take 6 (.take 7 (.take 8 (.take 9 (.take 10 (.take 11 (.take 12 (.take 13 (.take 14 (.take 15 (.take 16 (.alt 17 [14,13,12,5,4,3,2] (.take 18 (.alt 19 [] (.done) (.stop))) (.stop))))))))))))))))))) Av (by kernel_rfl) ?_⟩
 simp(disch:=omega) only[vm,seval,h.1]
 refine⟨hk3 ((wr .i64 (s11_0+1)),y4.2,((bi0_0.set s11_0.toNat x10).set ((wr .i64 (a1+j6)).toNat) x11)) () _ _ _ _ h.2 slr ?_ ?_ ?_ (by omega)⟩<;>first|(simp(disch:=omega) only[vm,seval,h.1];done)|rfl
 intro k7 Jk7 hk7 h
 replace h:=AC h
 rcases h with h|h
 simp(disch:=omega) only[vm,seval,h.1]
 refine⟨hk7 (wr .i64 ((wr .i64 (Dc .u64 y4.1 (wr .u64 (y1-1))))-(wr .i64 (a2-a1)))) () _ _ _ _ h.2 slr ?_ ?_ ?_ (by omega)⟩<;>first|(simp(disch:=omega) only[vm,seval,h.1];done)|rfl
 simp(disch:=omega) only[vm,seval,h.1]
 refine⟨hk7 (wr .i64 (Dc .u64 y4.1 (wr .u64 (y1-1)))) () _ _ _ _ h.2 slr ?_ ?_ ?_ (by omega)⟩<;>first|(simp(disch:=omega) only[vm,seval,h.1];done)|rfl
 obtain⟨H,h⟩:=h
 cases h
 simp(disch:=omega) only[vm,seval,H]
 refine⟨(hR _ _ _ _ _ _ (by simp(disch:=omega) only[vm,seval,H];rfl) (.cons _ slr) ?_ (by omega) ?_).2⟩<;>first|(simp(disch:=omega) only[vm,seval,H];done)|rfl
 obtain⟨H,h⟩:=h
 cases h
 simp(disch:=omega) only[vm,seval,H]
 refine⟨(hR _ _ _ _ _ _ (by simp(disch:=omega) only[vm,seval,H];rfl) slr ?_ (by omega) ?_).2⟩<;>first|(simp(disch:=omega) only[vm,seval,H];done)|rfl
theorem Ci {l0 a0 a1 a2 a3 c4_0 r}{i0:Nat}{i3:Nat} (h:BF N l0 a0 a1 a2 a3 c4_0=some r) (ha:args=[.bsl 1 i0 0 l0,.int .i64 a1,.int .i64 a2,.ptr i3 0,.fn (.func 66) [] [.cptr [.int .i64 c4_0.kind,.str c4_0.text,.slice 1 (List.map AVal.str c4_0.keys) false,.slice 4 (List.map AJ c4_0.items) false]]]) (hi0:Bi m i0=some (List.map (AVal.int .i64) a0)) (hi3:Bi m i3=some ([.int .i64 a3])) (hne:i0≠i3) (hQ: ∀n',n≤n'→Gl (Q (.tuple [.int .i64 r.1,.int .i64 r.2.1]) ⟨Br (Br m i0 (List.map (AVal.int .i64) r.2.2.1)) i3 ([.int .i64 r.2.2.2]),n'⟩)):ACall vE 137 args ⟨m,n⟩ Q:=by
 rw[BF]at h
 subst ha
 refine ACall.front2 hi0 hi3 hne fun hin hin2=>ent (fun n' k=>⟨_,_,rfl,(hQ n' k).go⟩) Tryz.func137 rfl Tryz.ntmps137 Tryz.results137 (.q (.r []) (.q (.q .z (.c (.q (.r []) (.q (.r []) .z)) .z)) (.q (.r []) .z))) fun R hR=>?_
 replace h:=And.intro trivial h
 replace h:=Ag h
 obtain⟨c,h⟩:=h
 try simp only[liE,seval]at c
 replace h:=Aa c h
 replace h:=AA h
 obtain⟨x1,h⟩:=h
 replace h:=Ag h
 obtain⟨c,h⟩:=h
 try simp only[liE,seval]at c
 replace h:=Aa c h
 replace h:=AA h
 obtain⟨x2,h⟩:=h
 replace h:=AA h
 obtain⟨y3,h⟩:=h
 have cy3:=h.1.1
 simp(disch:=omega) only[vm,seval,h.1]
 refine⟨BB [] (.take 0 (.take 1 (.take 2 (.take 3 (.take 4 (.take 5 (.take 6 (.take 7 (.take 8 (.alt 9 [7,6,5,3,2,1] (.take 10 (.done)) (.stop))))))))))) Av (by kernel_rfl) ?_⟩
 simp(disch:=omega) only[vm,seval,h.1]
 refine⟨Be cy3 (by first|(simp(disch:=omega) only[vm,seval,h.1];done)|rfl) fun n4 hn4=>?_⟩
 replace h:=AC h
 rcases h with h|h
 obtain⟨H,h⟩:=h
 cases h
 simp(disch:=omega) only[vm,seval,H]
 refine⟨(hR _ _ _ _ _ _ (by simp(disch:=omega) only[vm,seval,H];rfl) slr ?_ (by omega) ?_).1⟩<;>first|(simp(disch:=omega) only[vm,seval,H];done)|rfl
 obtain⟨H,h⟩:=h
 cases h
 simp(disch:=omega) only[vm,seval,H]
 refine⟨(hR _ _ _ _ _ _ (by simp(disch:=omega) only[vm,seval,H];rfl) slr ?_ (by omega) ?_).1⟩<;>first|(simp(disch:=omega) only[vm,seval,H];done)|rfl
end Go.Proofs.YtooeobhihpkicaaGreatDoor
