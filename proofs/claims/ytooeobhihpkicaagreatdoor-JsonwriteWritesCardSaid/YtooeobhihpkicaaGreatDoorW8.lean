import Derived.Test.YtooeobhihpkicaaGreatDoorVmFacts
import Derived.Test.YtooeobhihpkicaaGreatDoorDefs
import Derived.Test.YtooeobhihpkicaaGreatDoorVM2
import Derived.Test.YtooeobhihpkicaaGreatDoorW0
import Derived.Test.YtooeobhihpkicaaGreatDoorW1
import Derived.Test.YtooeobhihpkicaaGreatDoorW2
import Derived.Test.YtooeobhihpkicaaGreatDoorW7
import Derived.Test.YtooeobhihpkicaaGreatDoorVM5
set_option linter.unusedVariables false
set_option linter.unusedSimpArgs false
set_option maxHeartbeats 4000000
set_option maxRecDepth 100000
set_option linter.defProp false
namespace Go.Proofs.YtooeobhihpkicaaGreatDoor
open Go.VM
variable{N n:Nat}{m:MS}{Q:PQ}{args:List AVal}
theorem Q4 {a0 a1 r} (h:LB N a0 a1=some r) (ha:args=[.str a0,.int .i64 a1]) (hQ: ∀n',n≤n'→Gl (Q (.tuple [.str r.1,.int .i64 r.2.1,.int .i64 r.2.2]) ⟨m,n'⟩)):ACall vE 69 args ⟨m,n⟩ Q:=by
 rw[LB]at h
 subst ha
 refine ent hQ Tryz.func69 rfl Tryz.ntmps69 Tryz.results69 (.q (.r []) .z) fun R hR=>?_
 replace h:=And.intro trivial h
 simp(disch:=omega) only[vm,seval,h.1]
 refine⟨Ad (γ:=Unit) h [4,5,6,7,15,16,17,18,19,20,21,22,23,24,25,26,27,28,29,30,31,32,33,34,35,36] [] (fun j1 g=>[]) (fun j1 g=>m) (.q (.r []) (.c (.q (.r []) .z) .z)) ?_ ?_⟩<;>clear h
 rintro j1 _ n4 hnn4 _ _ h
 refine AC (.q (.r []) (.q (.q (.r []) (.c (.q (.r []) .z) .z)) (.q .z (.q (.r []) (.q .z (.q (.r []) (.q (.r []) .z))))))) ?_
 replace h:=AB h
 obtain⟨y9,h⟩:=h
 simp(disch:=omega) only[vm,seval,h.1]
 refine⟨N7 h.1.1 (by first|(simp(disch:=omega) only[vm,seval,h.1];done)|rfl) fun n10 hn10=>?_⟩
 replace h:=AJ h
 rcases h with h|h
 simp(disch:=omega) only[vm,seval,h.1]
 refine⟨Ad (γ:=Unit) h [45,46,47,48,49] [50] (fun j11 g=>[.bool j11]) (fun j11 g=>m) (.r []) ?_ ?_⟩<;>clear h
 rintro j11 _ n14 hnn14 _ _ h
 refine AC (.c (.q (.r []) (.q (.r []) .z)) .z) ?_
 replace h:=AJ h
 rcases h with h|h
 replace h:=AB h
 obtain⟨y15,h⟩:=h
 simp(disch:=omega) only[vm,seval,h.1]
 refine⟨Jr h.1.1 (by first|(simp(disch:=omega) only[vm,seval,h.1];done)|rfl) fun n16 hn16=>?_⟩
 obtain⟨H,h⟩:=h
 cases h
 simp(disch:=omega) only[vm,seval,H]
 refine⟨(hR _ _ _ _ _ _ (by simp(disch:=omega) only[vm,seval,H];rfl) slr ?_ (by omega) ?_).1⟩<;>first|(simp(disch:=omega) only[vm,seval,H];done)|rfl
 replace h:=AB h
 obtain⟨y17,h⟩:=h
 simp(disch:=omega) only[vm,seval,h.1]
 refine⟨N7 h.1.1 (by first|(simp(disch:=omega) only[vm,seval,h.1];done)|rfl) fun n18 hn18=>?_⟩
 simp(disch:=omega) only[vm,seval,h.1]
 refine⟨Ad (γ:=Unit) h [66,67,68,69,70,71,72,73,74,75,76,77,78] [79] (fun j19 g=>[.bool j19]) (fun j19 g=>m) (.r []) ?_ ?_⟩<;>clear h
 rintro j19 _ n22 hnn22 _ _ h
 refine AC (.c (.q (.r []) .z) .z) ?_
 replace h:=AJ h
 rcases h with h|h
 obtain⟨H,h⟩:=h
 cases h
 simp(disch:=omega) only[vm,seval,H]
 refine⟨(hR _ _ _ _ _ _ (by simp(disch:=omega) only[vm,seval,H];rfl) slr ?_ (by omega) ?_).1⟩<;>first|(simp(disch:=omega) only[vm,seval,H];done)|rfl
 replace h:=AB h
 obtain⟨y23,h⟩:=h
 simp(disch:=omega) only[vm,seval,h.1]
 refine⟨Jr h.1.1 (by first|(simp(disch:=omega) only[vm,seval,h.1];done)|rfl) fun n24 hn24=>?_⟩
 obtain⟨H,h⟩:=h
 cases h
 simp(disch:=omega) only[vm,seval,H]
 refine⟨(hR _ _ _ _ _ _ (by simp(disch:=omega) only[vm,seval,H];rfl) slr ?_ (by omega) ?_).1⟩<;>first|(simp(disch:=omega) only[vm,seval,H];done)|rfl
 intro k20 Jk20 hk20 h
 replace h:=AJ h
 rcases h with h|h
 simp(disch:=omega) only[vm,seval,h.1]
 refine⟨hk20 true () _ _ _ _ h.2 slr ?_ ?_ ?_ (by omega)⟩<;>first|(simp(disch:=omega) only[vm,seval,h.1];done)|rfl
 replace h:=AJ h
 rcases h with h|h
 replace h:=AJ h
 rcases h with h|h
 simp(disch:=omega) only[vm,seval,h.1]
 refine⟨hk20 true () _ _ _ _ h.2 slr ?_ ?_ ?_ (by omega)⟩<;>first|(simp(disch:=omega) only[vm,seval,h.1];done)|rfl
 simp(disch:=omega) only[vm,seval,h.1]
 refine⟨hk20 (decide (y17.1>57343)) () _ _ _ _ h.2 slr ?_ ?_ ?_ (by omega)⟩<;>first|(simp(disch:=omega) only[vm,seval,h.1];done)|rfl
 simp(disch:=omega) only[vm,seval,h.1]
 refine⟨hk20 true () _ _ _ _ h.2 slr ?_ ?_ ?_ (by omega)⟩<;>first|(simp(disch:=omega) only[vm,seval,h.1];done)|rfl
 intro k12 Jk12 hk12 h
 replace h:=AJ h
 rcases h with h|h
 simp(disch:=omega) only[vm,seval,h.1]
 refine⟨hk12 true () _ _ _ _ h.2 slr ?_ ?_ ?_ (by omega)⟩<;>first|(simp(disch:=omega) only[vm,seval,h.1];done)|rfl
 simp(disch:=omega) only[vm,seval,h.1]
 refine⟨hk12 (decide (y9.1>57343)) () _ _ _ _ h.2 slr ?_ ?_ ?_ (by omega)⟩<;>first|(simp(disch:=omega) only[vm,seval,h.1];done)|rfl
 obtain⟨H,h⟩:=h
 cases h
 simp(disch:=omega) only[vm,seval,H]
 refine⟨(hR _ _ _ _ _ _ (by simp(disch:=omega) only[vm,seval,H];rfl) slr ?_ (by omega) ?_).1⟩<;>first|(simp(disch:=omega) only[vm,seval,H];done)|rfl
 intro k2 Jk2 hk2 h
 replace h:=AJ h
 rcases h with h|h
 simp(disch:=omega) only[vm,seval,h.1]
 refine⟨Du (σ:=Nat) (γ:=Unit) (fun k s=>Gg N a0 a1 k2 k s) (fun s g=>[.iter ([34,92,47,98,102,110,114,116]:List UInt8) s]) (fun s g=>m) [4,5,6,7,21,22,23,24,25,26,27,28,29,30,31,32,33,34,35,36] [20] 0 () h (fun _=>rfl) (by first|(simp(disch:=omega) only[vm,seval,h.1];done)|rfl) (by first|(simp(disch:=omega) only[vm,seval,h.1];done)|rfl) ?_⟩
 clear h
 rintro k5 s20 _ nL0_1 hnL0_1 _ h Jk5 hk5
 change _∧Gg N a0 a1 k2 (k5+1) s20=_ at h
 rw[Gg]at h
 refine AC (.q (.r []) (.q (.c .z .z) (.q (.r []) (.q .z (.c (.q (.r []) .z) .z))))) ?_
 replace h:=AJ h
 rcases h with h|h
 replace h:=AB h
 obtain⟨x6,h⟩:=h
 replace h:=AB h
 obtain⟨x7,h⟩:=h
 simp(disch:=omega) only[vm,seval,h.1]
 refine⟨Ar [] (.take 0 (.take 1 (.take 2 (.take 3 (.take 4 (.take 5 (.take 6 (.done)))))))) Af (by kernel_rfl) ?_⟩
 replace h:=AJ h
 rcases h with h|h
 replace h:=AB h
 obtain⟨x8,h⟩:=h
 obtain⟨H,h⟩:=h
 cases h
 simp(disch:=omega) only[vm,seval,H]
 refine⟨(hR _ _ _ _ _ _ (by simp(disch:=omega) only[vm,seval,H];rfl) slr ?_ (by omega) ?_).1⟩<;>first|(simp(disch:=omega) only[vm,seval,H];done)|rfl
 simp(disch:=omega) only[vm,seval,h.1]
 refine⟨hk5 (s20+(Ec ([34,92,47,98,102,110,114,116]:List UInt8) s20).2) () _ _ _ _ h.2 slr ?_ ?_ ?_ (by omega)⟩<;>first|(simp(disch:=omega) only[vm,seval,h.1];done)|rfl
 simp(disch:=omega) only[vm,seval,h.1]
 refine⟨hk2 () () _ _ _ _ h.2 slr ?_ ?_ ?_ (by omega)⟩<;>first|(simp(disch:=omega) only[vm,seval,h.1];done)|rfl
 simp(disch:=omega) only[vm,seval,h.1]
 refine⟨hk2 () () _ _ _ _ h.2 slr ?_ ?_ ?_ (by omega)⟩<;>first|(simp(disch:=omega) only[vm,seval,h.1];done)|rfl
theorem Jm {a0 a1 r} (h:Dr N a0 a1=some r) (ha:args=[.str a0,.str a1]) (hQ: ∀n',n≤n'→Gl (Q (.str r) ⟨m,n'⟩)):ACall vE 76 args ⟨m,n⟩ Q:=by
 rw[Dr]at h
 subst ha
 refine ent hQ Tryz.func76 rfl Tryz.ntmps76 Tryz.results76 (.q (.r []) (.q .z (.q .z (.q (.q (.r []) (.q (.r []) (.c (.q (.r []) .z) .z))) (.q (.r []) .z))))) fun R hR=>?_
 replace h:=And.intro trivial h
 simp(disch:=omega) only[vm,seval,h.1]
 refine⟨Ad (γ:=Unit) h [7,8,9,10,11] [12] (fun j1 g=>[.bool j1]) (fun j1 g=>m) (.r []) ?_ ?_⟩<;>clear h
 rintro j1 _ n4 hnn4 _ _ h
 refine AC (.c (.q (.r []) .z) .z) ?_
 replace h:=AJ h
 rcases h with h|h
 obtain⟨H,h⟩:=h
 cases h
 simp(disch:=omega) only[vm,seval,H]
 refine⟨(hR _ _ _ _ _ _ (by simp(disch:=omega) only[vm,seval,H];rfl) slr ?_ (by omega) ?_).1⟩<;>first|(simp(disch:=omega) only[vm,seval,H];done)|rfl
 simp(disch:=omega) only[vm,seval,h.1]
 refine⟨Ad (γ:=Unit) h [14,15,16,17,18,19,20] [21] (fun j5 g=>[.bool j5]) (fun j5 g=>m) (.r []) ?_ ?_⟩<;>clear h
 rintro j5 _ n8 hnn8 _ _ h
 refine AC (.c (.q (.r []) .z) .z) ?_
 replace h:=AJ h
 rcases h with h|h
 replace h:=AB h
 obtain⟨x10,h⟩:=h
 replace h:=AB h
 obtain⟨y11,h⟩:=h
 simp(disch:=omega) only[vm,seval,h.1]
 refine⟨K3 h.1.1 (by first|(simp(disch:=omega) only[vm,seval,h.1];done)|rfl) fun n12 hn12=>?_⟩
 obtain⟨H,h⟩:=h
 cases h
 simp(disch:=omega) only[vm,seval,H]
 refine⟨(hR _ _ _ _ _ _ (by simp(disch:=omega) only[vm,seval,H];rfl) slr ?_ (by omega) ?_).1⟩<;>first|(simp(disch:=omega) only[vm,seval,H];done)|rfl
 replace h:=AB h
 obtain⟨y13,h⟩:=h
 simp(disch:=omega) only[vm,seval,h.1]
 refine⟨Ie h.1.1 (by first|(simp(disch:=omega) only[vm,seval,h.1];done)|rfl) fun n14 hn14=>?_⟩
 replace h:=Ac h
 obtain⟨c,h⟩:=h
 try simp only[liE,seval]at c
 replace h:=AR c h
 replace h:=Ac h
 obtain⟨c,h⟩:=h
 try simp only[liE,seval]at c
 replace h:=AR c h
 replace h:=AJ h
 rcases h with h|h
 replace h:=AB h
 obtain⟨y15,h⟩:=h
 simp(disch:=omega) only[vm,seval,h.1]
 refine⟨Kc h.1.1 (by first|(simp(disch:=omega) only[vm,seval,h.1];done)|rfl) (i1:=n14) (by simp(disch:=omega) only[vm,seval,h.1]) fun n16 hn16=>?_⟩
 obtain⟨H,h⟩:=h
 cases h
 simp(disch:=omega) only[vm,seval,H]
 refine⟨(hR _ _ _ _ _ _ (by simp(disch:=omega) only[vm,seval,H];rfl) (.cons _ slr) ?_ (by omega) ?_).1⟩<;>first|(simp(disch:=omega) only[vm,seval,H];done)|rfl
 replace h:=AB h
 obtain⟨y17,h⟩:=h
 simp(disch:=omega) only[vm,seval,h.1]
 refine⟨J2 h.1.1 (by first|(simp(disch:=omega) only[vm,seval,h.1];done)|rfl) fun n18 hn18=>?_⟩
 obtain⟨H,h⟩:=h
 cases h
 simp(disch:=omega) only[vm,seval,H]
 refine⟨(hR _ _ _ _ _ _ (by simp(disch:=omega) only[vm,seval,H];rfl) (.cons _ slr) ?_ (by omega) ?_).1⟩<;>first|(simp(disch:=omega) only[vm,seval,H];done)|rfl
 intro k6 Jk6 hk6 h
 replace h:=AJ h
 rcases h with h|h
 replace h:=AB h
 obtain⟨x9,h⟩:=h
 simp(disch:=omega) only[vm,seval,h.1]
 refine⟨hk6 (decide ((Ae x9)<128)) () _ _ _ _ h.2 slr ?_ ?_ ?_ (by omega)⟩<;>first|(simp(disch:=omega) only[vm,seval,h.1];done)|rfl
 simp(disch:=omega) only[vm,seval,h.1]
 refine⟨hk6 false () _ _ _ _ h.2 slr ?_ ?_ ?_ (by omega)⟩<;>first|(simp(disch:=omega) only[vm,seval,h.1];done)|rfl
 intro k2 Jk2 hk2 h
 replace h:=AJ h
 rcases h with h|h
 simp(disch:=omega) only[vm,seval,h.1]
 refine⟨hk2 true () _ _ _ _ h.2 slr ?_ ?_ ?_ (by omega)⟩<;>first|(simp(disch:=omega) only[vm,seval,h.1];done)|rfl
 simp(disch:=omega) only[vm,seval,h.1]
 refine⟨hk2 (a1==[]) () _ _ _ _ h.2 slr ?_ ?_ ?_ (by omega)⟩<;>first|(simp(disch:=omega) only[vm,seval,h.1];done)|rfl
theorem Mm {a0 a1 r} (h:Fb N a0 a1=some r) (ha:args=[.str a0,.str a1]) (hQ: ∀n',n≤n'→Gl (Q (.str r) ⟨m,n'⟩)):ACall vE 77 args ⟨m,n⟩ Q:=by
 rw[Fb]at h
 subst ha
 refine ent hQ Tryz.func77 rfl Tryz.ntmps77 Tryz.results77 (.q (.r []) (.q .z (.q .z (.q (.q (.r []) (.q (.r []) (.c (.q (.r []) .z) .z))) (.q (.r []) .z))))) fun R hR=>?_
 replace h:=And.intro trivial h
 simp(disch:=omega) only[vm,seval,h.1]
 refine⟨Ad (γ:=Unit) h [7,8,9,10,11] [12] (fun j1 g=>[.bool j1]) (fun j1 g=>m) (.r []) ?_ ?_⟩<;>clear h
 rintro j1 _ n4 hnn4 _ _ h
 refine AC (.c (.q (.r []) .z) .z) ?_
 replace h:=AJ h
 rcases h with h|h
 obtain⟨H,h⟩:=h
 cases h
 simp(disch:=omega) only[vm,seval,H]
 refine⟨(hR _ _ _ _ _ _ (by simp(disch:=omega) only[vm,seval,H];rfl) slr ?_ (by omega) ?_).1⟩<;>first|(simp(disch:=omega) only[vm,seval,H];done)|rfl
 simp(disch:=omega) only[vm,seval,h.1]
 refine⟨Ad (γ:=Unit) h [14,15,16,17,18,19,20] [21] (fun j5 g=>[.bool j5]) (fun j5 g=>m) (.r []) ?_ ?_⟩<;>clear h
 rintro j5 _ n8 hnn8 _ _ h
 refine AC (.c (.q (.r []) .z) .z) ?_
 replace h:=AJ h
 rcases h with h|h
 replace h:=AB h
 obtain⟨x10,h⟩:=h
 replace h:=AB h
 obtain⟨y11,h⟩:=h
 simp(disch:=omega) only[vm,seval,h.1]
 refine⟨Kr h.1.1 (by first|(simp(disch:=omega) only[vm,seval,h.1];done)|rfl) fun n12 hn12=>?_⟩
 obtain⟨H,h⟩:=h
 cases h
 simp(disch:=omega) only[vm,seval,H]
 refine⟨(hR _ _ _ _ _ _ (by simp(disch:=omega) only[vm,seval,H];rfl) slr ?_ (by omega) ?_).1⟩<;>first|(simp(disch:=omega) only[vm,seval,H];done)|rfl
 replace h:=AB h
 obtain⟨y13,h⟩:=h
 simp(disch:=omega) only[vm,seval,h.1]
 refine⟨Ie h.1.1 (by first|(simp(disch:=omega) only[vm,seval,h.1];done)|rfl) fun n14 hn14=>?_⟩
 replace h:=Ac h
 obtain⟨c,h⟩:=h
 try simp only[liE,seval]at c
 replace h:=AR c h
 replace h:=Ac h
 obtain⟨c,h⟩:=h
 try simp only[liE,seval]at c
 replace h:=AR c h
 replace h:=AJ h
 rcases h with h|h
 replace h:=AB h
 obtain⟨y15,h⟩:=h
 simp(disch:=omega) only[vm,seval,h.1]
 refine⟨KO h.1.1 (by first|(simp(disch:=omega) only[vm,seval,h.1];done)|rfl) (i1:=n14) (by simp(disch:=omega) only[vm,seval,h.1]) fun n16 hn16=>?_⟩
 obtain⟨H,h⟩:=h
 cases h
 simp(disch:=omega) only[vm,seval,H]
 refine⟨(hR _ _ _ _ _ _ (by simp(disch:=omega) only[vm,seval,H];rfl) (.cons _ slr) ?_ (by omega) ?_).1⟩<;>first|(simp(disch:=omega) only[vm,seval,H];done)|rfl
 replace h:=AB h
 obtain⟨y17,h⟩:=h
 simp(disch:=omega) only[vm,seval,h.1]
 refine⟨Jw h.1.1 (by first|(simp(disch:=omega) only[vm,seval,h.1];done)|rfl) fun n18 hn18=>?_⟩
 obtain⟨H,h⟩:=h
 cases h
 simp(disch:=omega) only[vm,seval,H]
 refine⟨(hR _ _ _ _ _ _ (by simp(disch:=omega) only[vm,seval,H];rfl) (.cons _ slr) ?_ (by omega) ?_).1⟩<;>first|(simp(disch:=omega) only[vm,seval,H];done)|rfl
 intro k6 Jk6 hk6 h
 replace h:=AJ h
 rcases h with h|h
 replace h:=AB h
 obtain⟨x9,h⟩:=h
 simp(disch:=omega) only[vm,seval,h.1]
 refine⟨hk6 (decide ((Ae x9)<128)) () _ _ _ _ h.2 slr ?_ ?_ ?_ (by omega)⟩<;>first|(simp(disch:=omega) only[vm,seval,h.1];done)|rfl
 simp(disch:=omega) only[vm,seval,h.1]
 refine⟨hk6 false () _ _ _ _ h.2 slr ?_ ?_ ?_ (by omega)⟩<;>first|(simp(disch:=omega) only[vm,seval,h.1];done)|rfl
 intro k2 Jk2 hk2 h
 replace h:=AJ h
 rcases h with h|h
 simp(disch:=omega) only[vm,seval,h.1]
 refine⟨hk2 true () _ _ _ _ h.2 slr ?_ ?_ ?_ (by omega)⟩<;>first|(simp(disch:=omega) only[vm,seval,h.1];done)|rfl
 simp(disch:=omega) only[vm,seval,h.1]
 refine⟨hk2 (a1==[]) () _ _ _ _ h.2 slr ?_ ?_ ?_ (by omega)⟩<;>first|(simp(disch:=omega) only[vm,seval,h.1];done)|rfl
theorem Hw {a0 a1 r}{i0:Nat} (h:Cm N a0 a1=some r) (ha:args=[.ptr i0 0,.str a1]) (hi0:Bf m i0=some ([Fa i0 51 2 a0.builder.addr,.buf 5 a0.builder.buf true])) (hQ: ∀n',n≤n'→Gl (Q (.tuple []) ⟨Bn m i0 ([Fa i0 51 2 r.builder.addr,.buf 5 r.builder.buf true]),n'⟩)):ACall vE 41 args ⟨m,n⟩ Q:=by
 rw[Cm]at h
 subst ha
 refine ACall.front hi0 fun hin=>ent (fun n' k=>⟨_,rfl,(hQ n' k).go⟩) Tryz.func41 rfl Tryz.ntmps41 Tryz.results41 (.q (.r []) (.q (.r []) (.q (.r []) (.c (.r []) .z)))) fun R hR=>?_
 replace h:=And.intro trivial h
 replace h:=AB h
 obtain⟨y1,h⟩:=h
 simp(disch:=omega) only[vm,seval,h.1]
 refine⟨R6 h.1.1 (by first|(simp(disch:=omega) only[vm,seval,h.1];done)|rfl) fun n2 hn2=>?_⟩
 replace h:=AB h
 obtain⟨y3,h⟩:=h
 simp(disch:=omega) only[vm,seval,h.1]
 refine⟨Ag h.1.1 (by first|(simp(disch:=omega) only[vm,seval,h.1];done)|rfl) (i0:=i0) (by simp(disch:=omega) only[vm,seval,h.1]) fun n4 hn4=>?_⟩
 replace h:=AJ h
 rcases h with h|h
 replace h:=AB h
 obtain⟨y5,h⟩:=h
 simp(disch:=omega) only[vm,seval,h.1]
 refine⟨Ag h.1.1 (by first|(simp(disch:=omega) only[vm,seval,h.1];done)|rfl) (i0:=i0) (by simp(disch:=omega) only[vm,seval,h.1]) fun n6 hn6=>?_⟩
 obtain⟨H,h⟩:=h
 cases h
 simp(disch:=omega) only[vm,seval,H]
 refine⟨(hR _ _ _ _ _ _ (by simp(disch:=omega) only[vm,seval,H];rfl) slr ?_ (by omega) ?_).2⟩<;>first|(simp(disch:=omega) only[vm,seval,H];done)|rfl
 obtain⟨H,h⟩:=h
 cases h
 simp(disch:=omega) only[vm,seval,H]
 refine⟨(hR _ _ _ _ _ _ (by simp(disch:=omega) only[vm,seval,H];rfl) slr ?_ (by omega) ?_).2⟩<;>first|(simp(disch:=omega) only[vm,seval,H];done)|rfl
theorem CE {l0 a0 a1 a2 c3_0 r}{i0:Nat}{i2:Nat} (h:Av N l0 a0 a1 a2 c3_0=some r) (ha:args=[.bsl 1 i0 0 l0,.int .i64 a1,.ptr i2 0,.fn (.func 66) [] [.cptr [.int .i64 c3_0.kind,.str c3_0.text,.slice 1 (List.map AVal.str c3_0.keys) false,.slice 4 (List.map AA c3_0.items) false]]]) (hi0:Bf m i0=some (List.map (AVal.int .i64) a0)) (hi2:Bf m i2=some ([.int .i64 a2])) (hne:i0≠i2) (hQ: ∀n',n≤n'→Gl (Q (.int .i64 r.1) ⟨Bn (Bn m i0 (List.map (AVal.int .i64) r.2.1)) i2 ([.int .i64 r.2.2]),n'⟩)):ACall vE 127 args ⟨m,n⟩ Q:=by
 rw[Av]at h
 subst ha
 refine ACall.front2 hi0 hi2 hne fun hin hin2=>ent (fun n' k=>⟨_,_,rfl,(hQ n' k).go⟩) Tryz.func127 rfl Tryz.ntmps127 Tryz.results127 (.q (.r []) (.q (.r []) .z)) fun R hR=>?_
 replace h:=And.intro trivial h
 replace h:=AB h
 obtain⟨y1,h⟩:=h
 simp(disch:=omega) only[vm,seval,h.1]
 refine⟨Dl h.1.1 (by first|(simp(disch:=omega) only[vm,seval,h.1];done)|rfl) (i0:=i0) (by simp(disch:=omega) only[vm,seval,h.1]) (i4:=i2) (by simp(disch:=omega) only[vm,seval,h.1]) (by omega) fun n2 hn2=>?_⟩
 obtain⟨H,h⟩:=h
 cases h
 simp(disch:=omega) only[vm,seval,H]
 refine⟨(hR _ _ _ _ _ _ (by simp(disch:=omega) only[vm,seval,H];rfl) slr ?_ (by omega) ?_).1⟩<;>first|(simp(disch:=omega) only[vm,seval,H];done)|rfl
theorem Nn {a0 r} (h:Gf N a0=some r) (ha:args=[.slice 1 (List.map AVal.str a0) false]) (hQ: ∀n',n≤n'→Gl (Q (.bool r) ⟨m,n'⟩)):ACall vE 48 args ⟨m,n⟩ Q:=by
 rw[Gf]at h
 subst ha
 refine ent hQ Tryz.func48 rfl Tryz.ntmps48 Tryz.results48 (.q (.r []) (.q (.r []) .z)) fun R hR=>?_
 replace h:=And.intro trivial h
 replace h:=AB h
 obtain⟨y1,h⟩:=h
 simp(disch:=omega) only[vm,seval,h.1]
 refine⟨Lm h.1.1 (by first|(simp(disch:=omega) only[vm,seval,h.1];done)|rfl) fun n2 hn2=>?_⟩
 simp(disch:=omega) only[vm,seval,h.1]
 refine⟨Ad (γ:=Unit) h [2,4,5,8,9,10,11,12,13,14,15,16,17,18,19,20,21,22,23,24,25,26,27,28,29,30,31] [] (fun j3 g=>[]) (fun j3 g=>m) (.q (.r []) .z) ?_ ?_⟩<;>clear h
 rintro j3 _ n6 hnn6 _ _ h
 refine AC (.q (.r []) .z) ?_
 obtain⟨H,h⟩:=h
 cases h
 simp(disch:=omega) only[vm,seval,H]
 refine⟨(hR _ _ _ _ _ _ (by simp(disch:=omega) only[vm,seval,H];rfl) slr ?_ (by omega) ?_).1⟩<;>first|(simp(disch:=omega) only[vm,seval,H];done)|rfl
 intro k4 Jk4 hk4 h
 replace h:=Ac h
 obtain⟨hfk7,h⟩:=h
 simp(disch:=omega) only[vm,seval,h.1]
 refine⟨EG (σ:=Unit) (γ:=Unit) y1 hfk7 (fun xs i s=>Ce N y1 k4 xs i) (fun i s g=>[.int .i64 i]) (fun i s g=>m) [2,4,5,11,12,13,14,15,16,17,18,19,20,21,22,23,24,25,26,27,28,29,30,31] [10] () () h (by first|(simp(disch:=omega) only[vm,seval,h.1];done)|rfl) (by first|(simp(disch:=omega) only[vm,seval,h.1];done)|rfl) ?_ ?_⟩<;>clear h
 rintro s10 _ _ nL0_1 hnL0_1 _ h
 change _∧Ce N y1 k4 [] s10=_ at h
 rw[Ce]at h
 refine AC (.q (.r []) (.q (.c .z .z) (.q (.q (.r []) .z) (.r [])))) ?_
 simp(disch:=omega) only[vm,seval,h.1]
 refine⟨hk4 () () _ _ _ _ h.2 slr ?_ ?_ ?_ (by omega)⟩<;>first|(simp(disch:=omega) only[vm,seval,h.1];done)|rfl
 rintro xk7 xsk7 s10 _ _ nL0_1 hnL0_1 _ h Jk7 hk7
 change _∧Ce N y1 k4 (xk7::xsk7) s10=_ at h
 rw[Ce]at h
 refine AC (.q (.r []) (.q (.c .z .z) (.q (.q (.r []) .z) (.r [])))) ?_
 simp(disch:=omega) only[vm,seval,h.1]
 refine⟨Ad (γ:=Unit) h [15,16,17,18,19,20,21,22,23,24,25,26,27,28,29] [30] (fun j8 g=>[.bool j8]) (fun j8 g=>m) (.r []) ?_ ?_⟩<;>clear h
 rintro j8 _ n11 hnn11 _ _ h
 refine AC (.c (.q (.r []) .z) .z) ?_
 replace h:=AJ h
 rcases h with h|h
 obtain⟨H,h⟩:=h
 cases h
 simp(disch:=omega) only[vm,seval,H]
 refine⟨(hR _ _ _ _ _ _ (by simp(disch:=omega) only[vm,seval,H];rfl) slr ?_ (by omega) ?_).1⟩<;>first|(simp(disch:=omega) only[vm,seval,H];done)|rfl
 simp(disch:=omega) only[vm,seval,h.1]
 refine⟨hk7 () () _ _ _ _ h.2 slr ?_ ?_ ?_ (by omega)⟩<;>first|(simp(disch:=omega) only[vm,seval,h.1];done)|rfl
 intro k9 Jk9 hk9 h
 replace h:=AB h
 obtain⟨y12,h⟩:=h
 simp(disch:=omega) only[vm,seval,h.1]
 refine⟨KM h.1.1 (by first|(simp(disch:=omega) only[vm,seval,h.1];done)|rfl) fun n13 hn13=>?_⟩
 replace h:=AJ h
 rcases h with h|h
 replace h:=AJ h
 rcases h with h|h
 replace h:=AB h
 obtain⟨x14,h⟩:=h
 simp(disch:=omega) only[vm,seval,h.1]
 refine⟨hk9 (x14==xk7) () _ _ _ _ h.2 slr ?_ ?_ ?_ (by omega)⟩<;>first|(simp(disch:=omega) only[vm,seval,h.1];done)|rfl
 simp(disch:=omega) only[vm,seval,h.1]
 refine⟨hk9 false () _ _ _ _ h.2 slr ?_ ?_ ?_ (by omega)⟩<;>first|(simp(disch:=omega) only[vm,seval,h.1];done)|rfl
 simp(disch:=omega) only[vm,seval,h.1]
 refine⟨hk9 true () _ _ _ _ h.2 slr ?_ ?_ ?_ (by omega)⟩<;>first|(simp(disch:=omega) only[vm,seval,h.1];done)|rfl
theorem M6 {a0 r} (h:G8 N a0=some r) (ha:args=[.str a0]) (hQ: ∀n',n≤n'→Gl (Q (.tuple [.str r.1,.int .i64 r.2]) ⟨m,n'⟩)):ACall vE 43 args ⟨m,n⟩ Q:=by
 rw[G8]at h
 subst ha
 refine ent hQ Tryz.func43 rfl Tryz.ntmps43 Tryz.results43 (.q (.r []) (.q (.q (.r []) (.c (.q (.r []) .z) .z)) (.q (.q (.r []) (.c (.q (.r []) .z) .z)) (.q (.r []) .z)))) fun R hR=>?_
 replace h:=And.intro trivial h
 replace h:=AJ h
 rcases h with h|h
 obtain⟨H,h⟩:=h
 cases h
 simp(disch:=omega) only[vm,seval,H]
 refine⟨(hR _ _ _ _ _ _ (by simp(disch:=omega) only[vm,seval,H];rfl) slr ?_ (by omega) ?_).1⟩<;>first|(simp(disch:=omega) only[vm,seval,H];done)|rfl
 replace h:=AB h
 obtain⟨y1,h⟩:=h
 simp(disch:=omega) only[vm,seval,h.1]
 refine⟨KM h.1.1 (by first|(simp(disch:=omega) only[vm,seval,h.1];done)|rfl) fun n2 hn2=>?_⟩
 replace h:=AJ h
 rcases h with h|h
 simp(disch:=omega) only[vm,seval,h.1]
 refine⟨Ad (γ:=Unit) h [5,6,14,15,16,17,18,19,20,21,22,23,24,25,26,27,28,29,30,31,32,33,34,35,36,37,38,39,40,41,42,43,44,45,46,47,48,49,50,51,52,53,54,55,56,57,58,59,60,61,62,63,64,65,66,67,68,69,70,71,72,73,74] [4] (fun j3 g=>[.slice 1 (List.map (AVal.int .u8) j3) true]) (fun j3 g=>m) (.q (.r []) .z) ?_ ?_⟩<;>clear h
 rintro j3 _ n6 hnn6 _ _ h
 refine AC (.q (.r [75]) .z) ?_
 replace h:=Ac h
 obtain⟨c,h⟩:=h
 try simp only[liE,seval]at c
 replace h:=AR c h
 obtain⟨H,h⟩:=h
 cases h
 simp(disch:=omega) only[vm,seval,H]
 refine⟨(hR _ _ _ _ _ _ (by simp(disch:=omega) only[vm,seval,H];rfl) slr ?_ (by omega) ?_).1⟩<;>first|(simp(disch:=omega) only[vm,seval,H];done)|rfl
 intro k4 Jk4 hk4 h
 replace h:=Ac h
 obtain⟨hfk7,h⟩:=h
 simp(disch:=omega) only[vm,seval,h.1]
 refine⟨EG (σ:=(List Int)) (γ:=Unit) a0 hfk7 (fun xs i s=>Cu N k4 xs s) (fun i s g=>[.slice 1 (List.map (AVal.int .u8) s) true,.int .i64 i]) (fun i s g=>m) [6,14,15,16,17,18,19,20,21,22,23,24,25,26,27,28,29,30,31,32,33,34,35,36,37,38,39,40,41,42,43,44,45,46,47,48,49,50,51,52,53,54,55,56,57,58,59,60,61,62,63,64,65,66,67,68,69,70,71,72,73,74] [4,5] [34] () h (by first|(simp(disch:=omega) only[vm,seval,h.1];done)|rfl) (by first|(simp(disch:=omega) only[vm,seval,h.1];done)|rfl) ?_ ?_⟩<;>clear h
 rintro s5 s4 _ nL0_1 hnL0_1 _ h
 change _∧Cu N k4 [] s4=_ at h
 rw[Cu]at h
 refine AC (.q (.q (.r []) (.c .z .z)) .z) ?_
 simp(disch:=omega) only[vm,seval,h.1]
 refine⟨hk4 s4 () _ _ _ _ h.2 slr ?_ ?_ ?_ (by omega)⟩<;>first|(simp(disch:=omega) only[vm,seval,h.1];done)|rfl
 rintro xk7 xsk7 s5 s4 _ nL0_1 hnL0_1 _ h Jk7 hk7
 change _∧Cu N k4 (xk7::xsk7) s4=_ at h
 rw[Cu]at h
 refine AC (.q (.q (.r []) (.c .z .z)) .z) ?_
 simp(disch:=omega) only[vm,seval,h.1]
 refine⟨Ad (γ:=Unit) h [6,20,21,22,23,24,25,26,27,28,29,30,31,32,33,34,35,36,37,38,39,40,41,42,43,44,45,46,47,48,49,50,51,52,53,54,55,56,57,58,59,60,61,62,63,64,65,66,67,68,69,70,71,72,73,74] [4] (fun j8 g=>[.slice 1 (List.map (AVal.int .u8) j8) true]) (fun j8 g=>m) (.q (.r []) .z) ?_ ?_⟩<;>clear h
 rintro j8 _ n11 hnn11 _ _ h
 refine AC (.r []) ?_
 simp(disch:=omega) only[vm,seval,h.1]
 refine⟨hk7 j8 () _ _ _ _ h.2 slr ?_ ?_ ?_ (by omega)⟩<;>first|(simp(disch:=omega) only[vm,seval,h.1];done)|rfl
 intro k9 Jk9 hk9 h
 simp(disch:=omega) only[vm,seval,h.1]
 refine⟨Ad (γ:=Unit) h [28,29,30,31,32,33] [27] (fun j12 g=>[.bool j12]) (fun j12 g=>m) (.r []) ?_ ?_⟩<;>clear h
 rintro j12 _ n15 hnn15 _ _ h
 refine AC (.c (.r [34]) (.q (.r []) (.c (.r [41]) (.q (.r []) (.c (.r [46]) (.q (.r []) (.c (.r [51]) (.q (.r []) (.c (.r [56]) (.q (.r []) (.c (.r [61]) (.q (.r []) (.c .z (.r [23])))))))))))))) ?_
 replace h:=AJ h
 rcases h with h|h
 replace h:=Ac h
 obtain⟨c,h⟩:=h
 try simp only[liE,seval]at c
 replace h:=AR c h
 simp(disch:=omega) only[vm,seval,h.1]
 refine⟨hk9 (s4++[92,(Ae xk7)]) () _ _ _ _ h.2 slr ?_ ?_ ?_ (by omega)⟩<;>first|(simp(disch:=omega) only[vm,seval,h.1];done)|rfl
 replace h:=AJ h
 rcases h with h|h
 replace h:=Ac h
 obtain⟨c,h⟩:=h
 try simp only[liE,seval]at c
 replace h:=AR c h
 simp(disch:=omega) only[vm,seval,h.1]
 refine⟨hk9 (s4++(List.map Ae ([92,98]:List UInt8))) () _ _ _ _ h.2 slr ?_ ?_ ?_ (by omega)⟩<;>first|(simp(disch:=omega) only[vm,seval,h.1];done)|rfl
 replace h:=AJ h
 rcases h with h|h
 replace h:=Ac h
 obtain⟨c,h⟩:=h
 try simp only[liE,seval]at c
 replace h:=AR c h
 simp(disch:=omega) only[vm,seval,h.1]
 refine⟨hk9 (s4++(List.map Ae ([92,102]:List UInt8))) () _ _ _ _ h.2 slr ?_ ?_ ?_ (by omega)⟩<;>first|(simp(disch:=omega) only[vm,seval,h.1];done)|rfl
 replace h:=AJ h
 rcases h with h|h
 replace h:=Ac h
 obtain⟨c,h⟩:=h
 try simp only[liE,seval]at c
 replace h:=AR c h
 simp(disch:=omega) only[vm,seval,h.1]
 refine⟨hk9 (s4++(List.map Ae ([92,110]:List UInt8))) () _ _ _ _ h.2 slr ?_ ?_ ?_ (by omega)⟩<;>first|(simp(disch:=omega) only[vm,seval,h.1];done)|rfl
 replace h:=AJ h
 rcases h with h|h
 replace h:=Ac h
 obtain⟨c,h⟩:=h
 try simp only[liE,seval]at c
 replace h:=AR c h
 simp(disch:=omega) only[vm,seval,h.1]
 refine⟨hk9 (s4++(List.map Ae ([92,114]:List UInt8))) () _ _ _ _ h.2 slr ?_ ?_ ?_ (by omega)⟩<;>first|(simp(disch:=omega) only[vm,seval,h.1];done)|rfl
 replace h:=AJ h
 rcases h with h|h
 replace h:=Ac h
 obtain⟨c,h⟩:=h
 try simp only[liE,seval]at c
 replace h:=AR c h
 simp(disch:=omega) only[vm,seval,h.1]
 refine⟨hk9 (s4++(List.map Ae ([92,116]:List UInt8))) () _ _ _ _ h.2 slr ?_ ?_ ?_ (by omega)⟩<;>first|(simp(disch:=omega) only[vm,seval,h.1];done)|rfl
 replace h:=AJ h
 rcases h with h|h
 replace h:=AB h
 obtain⟨x16,h⟩:=h
 replace h:=AB h
 obtain⟨x17,h⟩:=h
 replace h:=Ac h
 obtain⟨c,h⟩:=h
 try simp only[liE,seval]at c
 replace h:=AR c h
 simp(disch:=omega) only[vm,seval,h.1]
 refine⟨Ar [66] (.take 1 (.take 2 (.take 3 (.take 4 (.take 5 (.take 6 (.take 7 (.alt 0 [7,6,5,4,3,2,1] (.alt 8 [6,5,4,3,2,1] (.alt 9 [] (.done) (.stop)) (.stop)) (.stop))))))))) Af (by kernel_rfl) ?_⟩
 simp(disch:=omega) only[vm,seval,h.1]
 refine⟨hk9 (s4++[92,117,48,48,(Ae x16),(Ae x17)]) () _ _ _ _ h.2 slr ?_ ?_ ?_ (by omega)⟩<;>first|(simp(disch:=omega) only[vm,seval,h.1];done)|rfl
 replace h:=Ac h
 obtain⟨c,h⟩:=h
 try simp only[liE,seval]at c
 replace h:=AR c h
 simp(disch:=omega) only[vm,seval,h.1]
 refine⟨hk9 (s4++[(Ae xk7)]) () _ _ _ _ h.2 slr ?_ ?_ ?_ (by omega)⟩<;>first|(simp(disch:=omega) only[vm,seval,h.1];done)|rfl
 intro k13 Jk13 hk13 h
 replace h:=AJ h
 rcases h with h|h
 simp(disch:=omega) only[vm,seval,h.1]
 refine⟨hk13 true () _ _ _ _ h.2 slr ?_ ?_ ?_ (by omega)⟩<;>first|(simp(disch:=omega) only[vm,seval,h.1];done)|rfl
 simp(disch:=omega) only[vm,seval,h.1]
 refine⟨hk13 ((Ae xk7)==92) () _ _ _ _ h.2 slr ?_ ?_ ?_ (by omega)⟩<;>first|(simp(disch:=omega) only[vm,seval,h.1];done)|rfl
 obtain⟨H,h⟩:=h
 cases h
 simp(disch:=omega) only[vm,seval,H]
 refine⟨(hR _ _ _ _ _ _ (by simp(disch:=omega) only[vm,seval,H];rfl) slr ?_ (by omega) ?_).1⟩<;>first|(simp(disch:=omega) only[vm,seval,H];done)|rfl
end Go.Proofs.YtooeobhihpkicaaGreatDoor
