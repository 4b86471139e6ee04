import Derived.Test.YtooeobhihpkicaaGreatDoorVmFacts
import Derived.Test.YtooeobhihpkicaaGreatDoorDefs
import Derived.Test.YtooeobhihpkicaaGreatDoorVM2
import Derived.Test.YtooeobhihpkicaaGreatDoorW0
import Derived.Test.YtooeobhihpkicaaGreatDoorW2
import Derived.Test.YtooeobhihpkicaaGreatDoorW7
import Derived.Test.YtooeobhihpkicaaGreatDoorVM5
set_option linter.unusedVariables false
set_option linter.unusedSimpArgs false
set_option maxHeartbeats 4000000
set_option maxRecDepth 100000
set_option linter.defProp false
namespace Go.Proofs.YtooeobhihpkicaaGreatDoor
open Go.VM
variable{N n:Nat}{m:MS}{Q:PQ}{args:List AVal}
theorem Rw {a0 a1 r} (h:IQ N a0 a1=some r) (ha:args=[.str a0,.int .i64 a1]) (hQ: ∀n',n≤n'→Gl (Q (.tuple [.str r.1,.int .i64 r.2.1,.int .i64 r.2.2]) ⟨m,n'⟩)):ACall vE 69 args ⟨m,n⟩ Q:=by
 rw[IQ]at h
 subst ha
 refine ent hQ Tryz.func69 rfl Tryz.ntmps69 Tryz.results69 (.q (.r []) .z) fun R hR=>?_
 replace h:=And.intro trivial h
 simp(disch:=omega) only[vm,seval,h.1]
 refine⟨Ad (γ:=Unit) h [4,5,6,7,15,16,17,18,19,20,21,22,23,24,25,26,27,28,29,30,31,32,33,34,35,36] [] (fun j1 g=>[]) (fun j1 g=>m) (.q (.r []) (.c (.q (.r []) .z) .z)) ?_ ?_⟩<;>clear h
 rintro j1 _ n4 hnn4 _ _ h
 refine AB (.q (.r []) (.q (.q (.r []) (.c (.q (.r []) .z) .z)) (.q .z (.q (.r []) (.q .z (.q (.r []) (.q (.r []) .z))))))) ?_
 replace h:=AA h
 obtain⟨y9,h⟩:=h
 simp(disch:=omega) only[vm,seval,h.1]
 refine⟨NR h.1.1 (by first|(simp(disch:=omega) only[vm,seval,h.1];done)|rfl) fun n10 hn10=>?_⟩
 replace h:=AC h
 rcases h with h|h
 simp(disch:=omega) only[vm,seval,h.1]
 refine⟨Ad (γ:=Unit) h [45,46,47,48,49] [50] (fun j11 g=>[.bool j11]) (fun j11 g=>m) (.r []) ?_ ?_⟩<;>clear h
 rintro j11 _ n14 hnn14 _ _ h
 refine AB (.c (.q (.r []) (.q (.r []) .z)) .z) ?_
 replace h:=AC h
 rcases h with h|h
 replace h:=AA h
 obtain⟨y15,h⟩:=h
 simp(disch:=omega) only[vm,seval,h.1]
 refine⟨Jq h.1.1 (by first|(simp(disch:=omega) only[vm,seval,h.1];done)|rfl) fun n16 hn16=>?_⟩
 obtain⟨H,h⟩:=h
 cases h
 simp(disch:=omega) only[vm,seval,H]
 refine⟨(hR _ _ _ _ _ _ (by simp(disch:=omega) only[vm,seval,H];rfl) slr ?_ (by omega) ?_).1⟩<;>first|(simp(disch:=omega) only[vm,seval,H];done)|rfl
 replace h:=AA h
 obtain⟨y17,h⟩:=h
 simp(disch:=omega) only[vm,seval,h.1]
 refine⟨NR h.1.1 (by first|(simp(disch:=omega) only[vm,seval,h.1];done)|rfl) fun n18 hn18=>?_⟩
 simp(disch:=omega) only[vm,seval,h.1]
 refine⟨Ad (γ:=Unit) h [66,67,68,69,70,71,72,73,74,75,76,77,78] [79] (fun j19 g=>[.bool j19]) (fun j19 g=>m) (.r []) ?_ ?_⟩<;>clear h
 rintro j19 _ n22 hnn22 _ _ h
 refine AB (.c (.q (.r []) .z) .z) ?_
 replace h:=AC h
 rcases h with h|h
 obtain⟨H,h⟩:=h
 cases h
 simp(disch:=omega) only[vm,seval,H]
 refine⟨(hR _ _ _ _ _ _ (by simp(disch:=omega) only[vm,seval,H];rfl) slr ?_ (by omega) ?_).1⟩<;>first|(simp(disch:=omega) only[vm,seval,H];done)|rfl
 replace h:=AA h
 obtain⟨y23,h⟩:=h
 simp(disch:=omega) only[vm,seval,h.1]
 refine⟨Jq h.1.1 (by first|(simp(disch:=omega) only[vm,seval,h.1];done)|rfl) fun n24 hn24=>?_⟩
 obtain⟨H,h⟩:=h
 cases h
 simp(disch:=omega) only[vm,seval,H]
 refine⟨(hR _ _ _ _ _ _ (by simp(disch:=omega) only[vm,seval,H];rfl) slr ?_ (by omega) ?_).1⟩<;>first|(simp(disch:=omega) only[vm,seval,H];done)|rfl
 intro k20 Jk20 hk20 h
 replace h:=AC h
 rcases h with h|h
 simp(disch:=omega) only[vm,seval,h.1]
 refine⟨hk20 true () _ _ _ _ h.2 slr ?_ ?_ ?_ (by omega)⟩<;>first|(simp(disch:=omega) only[vm,seval,h.1];done)|rfl
 replace h:=AC h
 rcases h with h|h
 replace h:=AC h
 rcases h with h|h
 simp(disch:=omega) only[vm,seval,h.1]
 refine⟨hk20 true () _ _ _ _ h.2 slr ?_ ?_ ?_ (by omega)⟩<;>first|(simp(disch:=omega) only[vm,seval,h.1];done)|rfl
 simp(disch:=omega) only[vm,seval,h.1]
 refine⟨hk20 (decide (y17.1>57343)) () _ _ _ _ h.2 slr ?_ ?_ ?_ (by omega)⟩<;>first|(simp(disch:=omega) only[vm,seval,h.1];done)|rfl
 simp(disch:=omega) only[vm,seval,h.1]
 refine⟨hk20 true () _ _ _ _ h.2 slr ?_ ?_ ?_ (by omega)⟩<;>first|(simp(disch:=omega) only[vm,seval,h.1];done)|rfl
 intro k12 Jk12 hk12 h
 replace h:=AC h
 rcases h with h|h
 simp(disch:=omega) only[vm,seval,h.1]
 refine⟨hk12 true () _ _ _ _ h.2 slr ?_ ?_ ?_ (by omega)⟩<;>first|(simp(disch:=omega) only[vm,seval,h.1];done)|rfl
 simp(disch:=omega) only[vm,seval,h.1]
 refine⟨hk12 (decide (y9.1>57343)) () _ _ _ _ h.2 slr ?_ ?_ ?_ (by omega)⟩<;>first|(simp(disch:=omega) only[vm,seval,h.1];done)|rfl
 obtain⟨H,h⟩:=h
 cases h
 simp(disch:=omega) only[vm,seval,H]
 refine⟨(hR _ _ _ _ _ _ (by simp(disch:=omega) only[vm,seval,H];rfl) slr ?_ (by omega) ?_).1⟩<;>first|(simp(disch:=omega) only[vm,seval,H];done)|rfl
 intro k2 Jk2 hk2 h
 replace h:=AC h
 rcases h with h|h
 simp(disch:=omega) only[vm,seval,h.1]
 refine⟨D7 (σ:=Nat) (γ:=Unit) (fun k s=>DX N a0 a1 k2 k s) (fun s g=>[.iter ([34,92,47,98,102,110,114,116]:List UInt8) s]) (fun s g=>m) [4,5,6,7,21,22,23,24,25,26,27,28,29,30,31,32,33,34,35,36] [20] 0 () h (fun _=>rfl) (by first|(simp(disch:=omega) only[vm,seval,h.1];done)|rfl) (by first|(simp(disch:=omega) only[vm,seval,h.1];done)|rfl) ?_⟩
 clear h
 rintro k5 s20 _ nL0_1 hnL0_1 _ h Jk5 hk5
 change _∧DX N a0 a1 k2 (k5+1) s20=_ at h
 rw[DX]at h
 refine AB (.q (.r []) (.q (.c .z .z) (.q (.r []) (.q .z (.c (.q (.r []) .z) .z))))) ?_
 replace h:=AC h
 rcases h with h|h
 replace h:=AA h
 obtain⟨x6,h⟩:=h
 replace h:=AA h
 obtain⟨x7,h⟩:=h
 simp(disch:=omega) only[vm,seval,h.1]
 refine⟨BB [] (.take 0 (.take 1 (.take 2 (.take 3 (.take 4 (.take 5 (.take 6 (.done)))))))) Av (by kernel_rfl) ?_⟩
 replace h:=AC h
 rcases h with h|h
 replace h:=AA h
 obtain⟨x8,h⟩:=h
 obtain⟨H,h⟩:=h
 cases h
 simp(disch:=omega) only[vm,seval,H]
 refine⟨(hR _ _ _ _ _ _ (by simp(disch:=omega) only[vm,seval,H];rfl) slr ?_ (by omega) ?_).1⟩<;>first|(simp(disch:=omega) only[vm,seval,H];done)|rfl
 simp(disch:=omega) only[vm,seval,h.1]
 refine⟨hk5 (s20+(EE ([34,92,47,98,102,110,114,116]:List UInt8) s20).2) () _ _ _ _ h.2 slr ?_ ?_ ?_ (by omega)⟩<;>first|(simp(disch:=omega) only[vm,seval,h.1];done)|rfl
 simp(disch:=omega) only[vm,seval,h.1]
 refine⟨hk2 () () _ _ _ _ h.2 slr ?_ ?_ ?_ (by omega)⟩<;>first|(simp(disch:=omega) only[vm,seval,h.1];done)|rfl
 simp(disch:=omega) only[vm,seval,h.1]
 refine⟨hk2 () () _ _ _ _ h.2 slr ?_ ?_ ?_ (by omega)⟩<;>first|(simp(disch:=omega) only[vm,seval,h.1];done)|rfl
theorem Js {a0 a1 r} (h:Dy N a0 a1=some r) (ha:args=[.str a0,.str a1]) (hQ: ∀n',n≤n'→Gl (Q (.str r) ⟨m,n'⟩)):ACall vE 76 args ⟨m,n⟩ Q:=by
 rw[Dy]at h
 subst ha
 refine ent hQ Tryz.func76 rfl Tryz.ntmps76 Tryz.results76 (.q (.r []) (.q .z (.q .z (.q (.q (.r []) (.q (.r []) (.c (.q (.r []) .z) .z))) (.q (.r []) .z))))) fun R hR=>?_
 replace h:=And.intro trivial h
 simp(disch:=omega) only[vm,seval,h.1]
 refine⟨Ad (γ:=Unit) h [7,8,9,10,11] [12] (fun j1 g=>[.bool j1]) (fun j1 g=>m) (.r []) ?_ ?_⟩<;>clear h
 rintro j1 _ n4 hnn4 _ _ h
 refine AB (.c (.q (.r []) .z) .z) ?_
 replace h:=AC h
 rcases h with h|h
 obtain⟨H,h⟩:=h
 cases h
 simp(disch:=omega) only[vm,seval,H]
 refine⟨(hR _ _ _ _ _ _ (by simp(disch:=omega) only[vm,seval,H];rfl) slr ?_ (by omega) ?_).1⟩<;>first|(simp(disch:=omega) only[vm,seval,H];done)|rfl
 simp(disch:=omega) only[vm,seval,h.1]
 refine⟨Ad (γ:=Unit) h [14,15,16,17,18,19,20] [21] (fun j5 g=>[.bool j5]) (fun j5 g=>m) (.r []) ?_ ?_⟩<;>clear h
 rintro j5 _ n8 hnn8 _ _ h
 refine AB (.c (.q (.r []) .z) .z) ?_
 replace h:=AC h
 rcases h with h|h
 replace h:=AA h
 obtain⟨x10,h⟩:=h
 replace h:=AA h
 obtain⟨y11,h⟩:=h
 simp(disch:=omega) only[vm,seval,h.1]
 refine⟨LF h.1.1 (by first|(simp(disch:=omega) only[vm,seval,h.1];done)|rfl) fun n12 hn12=>?_⟩
 obtain⟨H,h⟩:=h
 cases h
 simp(disch:=omega) only[vm,seval,H]
 refine⟨(hR _ _ _ _ _ _ (by simp(disch:=omega) only[vm,seval,H];rfl) slr ?_ (by omega) ?_).1⟩<;>first|(simp(disch:=omega) only[vm,seval,H];done)|rfl
 replace h:=AA h
 obtain⟨y13,h⟩:=h
 simp(disch:=omega) only[vm,seval,h.1]
 refine⟨IU h.1.1 (by first|(simp(disch:=omega) only[vm,seval,h.1];done)|rfl) fun n14 hn14=>?_⟩
 replace h:=Ag h
 obtain⟨c,h⟩:=h
 try simp only[liE,seval]at c
 replace h:=Aa c h
 replace h:=Ag h
 obtain⟨c,h⟩:=h
 try simp only[liE,seval]at c
 replace h:=Aa c h
 replace h:=AC h
 rcases h with h|h
 replace h:=AA h
 obtain⟨y15,h⟩:=h
 simp(disch:=omega) only[vm,seval,h.1]
 refine⟨KW h.1.1 (by first|(simp(disch:=omega) only[vm,seval,h.1];done)|rfl) (i1:=n14) (by simp(disch:=omega) only[vm,seval,h.1]) fun n16 hn16=>?_⟩
 obtain⟨H,h⟩:=h
 cases h
 simp(disch:=omega) only[vm,seval,H]
 refine⟨(hR _ _ _ _ _ _ (by simp(disch:=omega) only[vm,seval,H];rfl) (.cons _ slr) ?_ (by omega) ?_).1⟩<;>first|(simp(disch:=omega) only[vm,seval,H];done)|rfl
 replace h:=AA h
 obtain⟨y17,h⟩:=h
 simp(disch:=omega) only[vm,seval,h.1]
 refine⟨Ju h.1.1 (by first|(simp(disch:=omega) only[vm,seval,h.1];done)|rfl) fun n18 hn18=>?_⟩
 obtain⟨H,h⟩:=h
 cases h
 simp(disch:=omega) only[vm,seval,H]
 refine⟨(hR _ _ _ _ _ _ (by simp(disch:=omega) only[vm,seval,H];rfl) (.cons _ slr) ?_ (by omega) ?_).1⟩<;>first|(simp(disch:=omega) only[vm,seval,H];done)|rfl
 intro k6 Jk6 hk6 h
 replace h:=AC h
 rcases h with h|h
 replace h:=AA h
 obtain⟨x9,h⟩:=h
 simp(disch:=omega) only[vm,seval,h.1]
 refine⟨hk6 (decide ((Am x9)<128)) () _ _ _ _ h.2 slr ?_ ?_ ?_ (by omega)⟩<;>first|(simp(disch:=omega) only[vm,seval,h.1];done)|rfl
 simp(disch:=omega) only[vm,seval,h.1]
 refine⟨hk6 false () _ _ _ _ h.2 slr ?_ ?_ ?_ (by omega)⟩<;>first|(simp(disch:=omega) only[vm,seval,h.1];done)|rfl
 intro k2 Jk2 hk2 h
 replace h:=AC h
 rcases h with h|h
 simp(disch:=omega) only[vm,seval,h.1]
 refine⟨hk2 true () _ _ _ _ h.2 slr ?_ ?_ ?_ (by omega)⟩<;>first|(simp(disch:=omega) only[vm,seval,h.1];done)|rfl
 simp(disch:=omega) only[vm,seval,h.1]
 refine⟨hk2 (a1==[]) () _ _ _ _ h.2 slr ?_ ?_ ?_ (by omega)⟩<;>first|(simp(disch:=omega) only[vm,seval,h.1];done)|rfl
theorem Mi {a0 a1 r} (h:FU N a0 a1=some r) (ha:args=[.str a0,.str a1]) (hQ: ∀n',n≤n'→Gl (Q (.str r) ⟨m,n'⟩)):ACall vE 77 args ⟨m,n⟩ Q:=by
 rw[FU]at h
 subst ha
 refine ent hQ Tryz.func77 rfl Tryz.ntmps77 Tryz.results77 (.q (.r []) (.q .z (.q .z (.q (.q (.r []) (.q (.r []) (.c (.q (.r []) .z) .z))) (.q (.r []) .z))))) fun R hR=>?_
 replace h:=And.intro trivial h
 simp(disch:=omega) only[vm,seval,h.1]
 refine⟨Ad (γ:=Unit) h [7,8,9,10,11] [12] (fun j1 g=>[.bool j1]) (fun j1 g=>m) (.r []) ?_ ?_⟩<;>clear h
 rintro j1 _ n4 hnn4 _ _ h
 refine AB (.c (.q (.r []) .z) .z) ?_
 replace h:=AC h
 rcases h with h|h
 obtain⟨H,h⟩:=h
 cases h
 simp(disch:=omega) only[vm,seval,H]
 refine⟨(hR _ _ _ _ _ _ (by simp(disch:=omega) only[vm,seval,H];rfl) slr ?_ (by omega) ?_).1⟩<;>first|(simp(disch:=omega) only[vm,seval,H];done)|rfl
 simp(disch:=omega) only[vm,seval,h.1]
 refine⟨Ad (γ:=Unit) h [14,15,16,17,18,19,20] [21] (fun j5 g=>[.bool j5]) (fun j5 g=>m) (.r []) ?_ ?_⟩<;>clear h
 rintro j5 _ n8 hnn8 _ _ h
 refine AB (.c (.q (.r []) .z) .z) ?_
 replace h:=AC h
 rcases h with h|h
 replace h:=AA h
 obtain⟨x10,h⟩:=h
 replace h:=AA h
 obtain⟨y11,h⟩:=h
 simp(disch:=omega) only[vm,seval,h.1]
 refine⟨Kr h.1.1 (by first|(simp(disch:=omega) only[vm,seval,h.1];done)|rfl) fun n12 hn12=>?_⟩
 obtain⟨H,h⟩:=h
 cases h
 simp(disch:=omega) only[vm,seval,H]
 refine⟨(hR _ _ _ _ _ _ (by simp(disch:=omega) only[vm,seval,H];rfl) slr ?_ (by omega) ?_).1⟩<;>first|(simp(disch:=omega) only[vm,seval,H];done)|rfl
 replace h:=AA h
 obtain⟨y13,h⟩:=h
 simp(disch:=omega) only[vm,seval,h.1]
 refine⟨IU h.1.1 (by first|(simp(disch:=omega) only[vm,seval,h.1];done)|rfl) fun n14 hn14=>?_⟩
 replace h:=Ag h
 obtain⟨c,h⟩:=h
 try simp only[liE,seval]at c
 replace h:=Aa c h
 replace h:=Ag h
 obtain⟨c,h⟩:=h
 try simp only[liE,seval]at c
 replace h:=Aa c h
 replace h:=AC h
 rcases h with h|h
 replace h:=AA h
 obtain⟨y15,h⟩:=h
 simp(disch:=omega) only[vm,seval,h.1]
 refine⟨KH h.1.1 (by first|(simp(disch:=omega) only[vm,seval,h.1];done)|rfl) (i1:=n14) (by simp(disch:=omega) only[vm,seval,h.1]) fun n16 hn16=>?_⟩
 obtain⟨H,h⟩:=h
 cases h
 simp(disch:=omega) only[vm,seval,H]
 refine⟨(hR _ _ _ _ _ _ (by simp(disch:=omega) only[vm,seval,H];rfl) (.cons _ slr) ?_ (by omega) ?_).1⟩<;>first|(simp(disch:=omega) only[vm,seval,H];done)|rfl
 replace h:=AA h
 obtain⟨y17,h⟩:=h
 simp(disch:=omega) only[vm,seval,h.1]
 refine⟨Jg h.1.1 (by first|(simp(disch:=omega) only[vm,seval,h.1];done)|rfl) fun n18 hn18=>?_⟩
 obtain⟨H,h⟩:=h
 cases h
 simp(disch:=omega) only[vm,seval,H]
 refine⟨(hR _ _ _ _ _ _ (by simp(disch:=omega) only[vm,seval,H];rfl) (.cons _ slr) ?_ (by omega) ?_).1⟩<;>first|(simp(disch:=omega) only[vm,seval,H];done)|rfl
 intro k6 Jk6 hk6 h
 replace h:=AC h
 rcases h with h|h
 replace h:=AA h
 obtain⟨x9,h⟩:=h
 simp(disch:=omega) only[vm,seval,h.1]
 refine⟨hk6 (decide ((Am x9)<128)) () _ _ _ _ h.2 slr ?_ ?_ ?_ (by omega)⟩<;>first|(simp(disch:=omega) only[vm,seval,h.1];done)|rfl
 simp(disch:=omega) only[vm,seval,h.1]
 refine⟨hk6 false () _ _ _ _ h.2 slr ?_ ?_ ?_ (by omega)⟩<;>first|(simp(disch:=omega) only[vm,seval,h.1];done)|rfl
 intro k2 Jk2 hk2 h
 replace h:=AC h
 rcases h with h|h
 simp(disch:=omega) only[vm,seval,h.1]
 refine⟨hk2 true () _ _ _ _ h.2 slr ?_ ?_ ?_ (by omega)⟩<;>first|(simp(disch:=omega) only[vm,seval,h.1];done)|rfl
 simp(disch:=omega) only[vm,seval,h.1]
 refine⟨hk2 (a1==[]) () _ _ _ _ h.2 slr ?_ ?_ ?_ (by omega)⟩<;>first|(simp(disch:=omega) only[vm,seval,h.1];done)|rfl
theorem He {a0 a1 r}{i0:Nat} (h:Cr N a0 a1=some r) (ha:args=[.ptr i0 0,.str a1]) (hi0:Bi m i0=some ([Fb i0 51 2 a0.builder.addr,.buf 5 a0.builder.buf true])) (hQ: ∀n',n≤n'→Gl (Q (.tuple []) ⟨Br m i0 ([Fb i0 51 2 r.builder.addr,.buf 5 r.builder.buf true]),n'⟩)):ACall vE 41 args ⟨m,n⟩ Q:=by
 rw[Cr]at h
 subst ha
 refine ACall.front hi0 fun hin=>ent (fun n' k=>⟨_,rfl,(hQ n' k).go⟩) Tryz.func41 rfl Tryz.ntmps41 Tryz.results41 (.q (.r []) (.q (.r []) (.q (.r []) (.c (.r []) .z)))) fun R hR=>?_
 replace h:=And.intro trivial h
 replace h:=AA h
 obtain⟨y1,h⟩:=h
 simp(disch:=omega) only[vm,seval,h.1]
 refine⟨Sg h.1.1 (by first|(simp(disch:=omega) only[vm,seval,h.1];done)|rfl) fun n2 hn2=>?_⟩
 replace h:=AA h
 obtain⟨y3,h⟩:=h
 simp(disch:=omega) only[vm,seval,h.1]
 refine⟨Ae h.1.1 (by first|(simp(disch:=omega) only[vm,seval,h.1];done)|rfl) (i0:=i0) (by simp(disch:=omega) only[vm,seval,h.1]) fun n4 hn4=>?_⟩
 replace h:=AC h
 rcases h with h|h
 replace h:=AA h
 obtain⟨y5,h⟩:=h
 simp(disch:=omega) only[vm,seval,h.1]
 refine⟨Ae h.1.1 (by first|(simp(disch:=omega) only[vm,seval,h.1];done)|rfl) (i0:=i0) (by simp(disch:=omega) only[vm,seval,h.1]) fun n6 hn6=>?_⟩
 obtain⟨H,h⟩:=h
 cases h
 simp(disch:=omega) only[vm,seval,H]
 refine⟨(hR _ _ _ _ _ _ (by simp(disch:=omega) only[vm,seval,H];rfl) slr ?_ (by omega) ?_).2⟩<;>first|(simp(disch:=omega) only[vm,seval,H];done)|rfl
 obtain⟨H,h⟩:=h
 cases h
 simp(disch:=omega) only[vm,seval,H]
 refine⟨(hR _ _ _ _ _ _ (by simp(disch:=omega) only[vm,seval,H];rfl) slr ?_ (by omega) ?_).2⟩<;>first|(simp(disch:=omega) only[vm,seval,H];done)|rfl
theorem CG {l0 a0 a1 a2 c3_0 r}{i0:Nat}{i2:Nat} (h:Ay N l0 a0 a1 a2 c3_0=some r) (ha:args=[.bsl 1 i0 0 l0,.int .i64 a1,.ptr i2 0,.fn (.func 66) [] [.cptr [.int .i64 c3_0.kind,.str c3_0.text,.slice 1 (List.map AVal.str c3_0.keys) false,.slice 4 (List.map AJ c3_0.items) false]]]) (hi0:Bi m i0=some (List.map (AVal.int .i64) a0)) (hi2:Bi m i2=some ([.int .i64 a2])) (hne:i0≠i2) (hQ: ∀n',n≤n'→Gl (Q (.int .i64 r.1) ⟨Br (Br m i0 (List.map (AVal.int .i64) r.2.1)) i2 ([.int .i64 r.2.2]),n'⟩)):ACall vE 127 args ⟨m,n⟩ Q:=by
 rw[Ay]at h
 subst ha
 refine ACall.front2 hi0 hi2 hne fun hin hin2=>ent (fun n' k=>⟨_,_,rfl,(hQ n' k).go⟩) Tryz.func127 rfl Tryz.ntmps127 Tryz.results127 (.q (.r []) (.q (.r []) .z)) fun R hR=>?_
 replace h:=And.intro trivial h
 replace h:=AA h
 obtain⟨y1,h⟩:=h
 simp(disch:=omega) only[vm,seval,h.1]
 refine⟨Dt h.1.1 (by first|(simp(disch:=omega) only[vm,seval,h.1];done)|rfl) (i0:=i0) (by simp(disch:=omega) only[vm,seval,h.1]) (i4:=i2) (by simp(disch:=omega) only[vm,seval,h.1]) (by omega) fun n2 hn2=>?_⟩
 obtain⟨H,h⟩:=h
 cases h
 simp(disch:=omega) only[vm,seval,H]
 refine⟨(hR _ _ _ _ _ _ (by simp(disch:=omega) only[vm,seval,H];rfl) slr ?_ (by omega) ?_).1⟩<;>first|(simp(disch:=omega) only[vm,seval,H];done)|rfl
end Go.Proofs.YtooeobhihpkicaaGreatDoor
