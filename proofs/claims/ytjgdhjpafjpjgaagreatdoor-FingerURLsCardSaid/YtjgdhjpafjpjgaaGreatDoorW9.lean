import Derived.Test.YtjgdhjpafjpjgaaGreatDoorVmFacts
import Derived.Test.YtjgdhjpafjpjgaaGreatDoorDefs
import Derived.Test.YtjgdhjpafjpjgaaGreatDoorVM2
import Derived.Test.YtjgdhjpafjpjgaaGreatDoorW1
import Derived.Test.YtjgdhjpafjpjgaaGreatDoorW2
import Derived.Test.YtjgdhjpafjpjgaaGreatDoorW3
import Derived.Test.YtjgdhjpafjpjgaaGreatDoorW5
import Derived.Test.YtjgdhjpafjpjgaaGreatDoorW6
set_option linter.unusedVariables false
set_option linter.unusedSimpArgs false
set_option maxHeartbeats 4000000
set_option maxRecDepth 100000
set_option linter.defProp false
namespace Go.Proofs.YtjgdhjpafjpjgaaGreatDoor
open Go.VM
variable{N n:Nat}{m:MS}{Q:PQ}{args:List AVal}
theorem MB {a0 r} (h:FY N a0=some r) (ha:args=[.str a0]) (hQ: ∀n',n≤n'→Gl (Q (.tuple [Dz r.1,.int .i64 r.2]) ⟨m,n'⟩)):ACall vE 114 args ⟨m,n⟩ Q:=by
 rw[FY]at h
 subst ha
 refine ent hQ Tryz.func114 rfl Tryz.ntmps114 Tryz.results114 (.q (.r []) (.q (.q (.r []) (.c (.q (.r []) .z) (.q (.r []) (.c (.q (.r []) .z) .z)))) (.q (.r []) (.q (.r []) (.q (.q (.r []) (.c (.q (.r []) .z) .z)) (.q (.q (.r []) (.c (.q (.r []) .z) .z)) (.q (.r []) .z))))))) fun R hR=>?_
 replace h:=And.intro trivial h
 replace h:=AC h
 rcases h with h|h
 obtain⟨H,h⟩:=h
 cases h
 simp(disch:=omega) only[vm,seval,H]
 refine⟨(hR _ _ _ _ _ _ (by simp(disch:=omega) only[vm,seval,H];rfl) (.cons _ slr) ?_ (by omega) ?_).1⟩<;>first|(simp(disch:=omega) only[vm,seval,H];done)|rfl
 replace h:=AA h
 obtain⟨y1,h⟩:=h
 simp(disch:=omega) only[vm,seval,h.1]
 refine⟨FL h.1.1 (by first|(simp(disch:=omega) only[vm,seval,h.1];done)|rfl) fun n2 hn2=>?_⟩
 replace h:=AC h
 rcases h with h|h
 replace h:=AA h
 obtain⟨x3,h⟩:=h
 replace h:=AA h
 obtain⟨y4,h⟩:=h
 simp(disch:=omega) only[vm,seval,h.1]
 refine⟨Ck h.1.1 (by first|(simp(disch:=omega) only[vm,seval,h.1];done)|rfl) fun n5 hn5=>?_⟩
 replace h:=AC h
 rcases h with h|h
 obtain⟨H,h⟩:=h
 cases h
 simp(disch:=omega) only[vm,seval,H]
 refine⟨(hR _ _ _ _ _ _ (by simp(disch:=omega) only[vm,seval,H];rfl) (.cons _ slr) ?_ (by omega) ?_).1⟩<;>first|(simp(disch:=omega) only[vm,seval,H];done)|rfl
 replace h:=AA h
 obtain⟨x6,h⟩:=h
 replace h:=AA h
 obtain⟨y7,h⟩:=h
 simp(disch:=omega) only[vm,seval,h.1]
 refine⟨Rs h.1.1 (by first|(simp(disch:=omega) only[vm,seval,h.1];done)|rfl) fun n8 hn8=>?_⟩
 replace h:=AC h
 rcases h with h|h
 replace h:=AA h
 obtain⟨x9,h⟩:=h
 replace h:=AA h
 obtain⟨y10,h⟩:=h
 simp(disch:=omega) only[vm,seval,h.1]
 refine⟨GD h.1.1 (by first|(simp(disch:=omega) only[vm,seval,h.1];done)|rfl) fun n11 hn11=>?_⟩
 simp(disch:=omega) only[vm,seval,h.1]
 refine⟨AV (γ:=Unit) h [3,7,8,9,46,47,48,49,50,51,52,53,54,55,56,57,58,59,60] [] (fun j12 g=>[]) (fun j12 g=>(n,[.str [],.str []])::m) (.q (.r []) .z) ?_ ?_⟩<;>clear h
 rintro j12 _ n15 hnn15 _ _ h
 refine AB (.q (.r []) .z) ?_
 simp(disch:=omega) only[vm,seval,h.1]
 refine⟨AV (γ:=Unit) h [3,11,12,13,14,15,61,62,63,64,65,66,67,68,69,70,71,72,73,74,75,76,77,78,79,80,81,82,83,84,85,86,87,88,89,90,91,92,93,94,95,96,97,98,99] [10] (fun j19 g=>[.str j19]) (fun j19 g=>(n,[.str [],.str []])::m) (.q (.r []) .z) ?_ ?_⟩<;>clear h
 rintro j19 _ n22 hnn22 _ _ h
 refine AB (.q (.q (.r []) (.c (.q (.r []) .z) .z)) (.q (.r []) .z)) ?_
 replace h:=AA h
 obtain⟨x43,h⟩:=h
 replace h:=AC h
 rcases h with h|h
 obtain⟨H,h⟩:=h
 cases h
 simp(disch:=omega) only[vm,seval,H]
 refine⟨(hR _ _ _ _ _ _ (by simp(disch:=omega) only[vm,seval,H];rfl) (.cons _ slr) ?_ (by omega) ?_).1⟩<;>first|(simp(disch:=omega) only[vm,seval,H];done)|rfl
 obtain⟨H,h⟩:=h
 cases h
 simp(disch:=omega) only[vm,seval,H]
 refine⟨(hR _ _ _ _ _ _ (by simp(disch:=omega) only[vm,seval,H];rfl) (.cons _ slr) ?_ (by omega) ?_).1⟩<;>first|(simp(disch:=omega) only[vm,seval,H];done)|rfl
 intro k20 Jk20 hk20 h
 replace h:=AR h
 obtain⟨hfk23,h⟩:=h
 simp(disch:=omega) only[vm,seval,h.1]
 refine⟨CB (σ:=(List UInt8)) (γ:=Unit) y10 hfk23 (fun xs i s=>BL N k20 xs i s) (fun i s g=>[.str s,.int .i64 i]) (fun i s g=>(n,[.str [],.str []])::m) [3,11,12,13,14,15,64,65,66,67,68,69,70,71,72,73,74,75,76,77,78,79,80,81,82,83,84,85,86,87,88,89,90,91,92,93,94,95,96,97,98,99] [10,63] [] () h (by first|(simp(disch:=omega) only[vm,seval,h.1];done)|rfl) (by first|(simp(disch:=omega) only[vm,seval,h.1];done)|rfl) ?_ ?_⟩<;>clear h
 rintro s63 s10 _ nL1_1 hnL1_1 _ h
 change _∧BL N k20 [] s63 s10=_ at h
 rw[BL]at h
 refine AB (.q (.r []) (.q (.c .z .z) (.q (.q (.r []) .z) (.r [])))) ?_
 simp(disch:=omega) only[vm,seval,h.1]
 refine⟨hk20 s10 () _ _ _ _ h.2 slr ?_ ?_ ?_ (by omega)⟩<;>first|(simp(disch:=omega) only[vm,seval,h.1];done)|rfl
 rintro xk23 xsk23 s63 s10 _ nL1_1 hnL1_1 _ h Jk23 hk23
 change _∧BL N k20 (xk23::xsk23) s63 s10=_ at h
 rw[BL]at h
 refine AB (.q (.r []) (.q (.c .z .z) (.q (.q (.r []) .z) (.r [])))) ?_
 simp(disch:=omega) only[vm,seval,h.1]
 refine⟨AV (γ:=Unit) h [3,13,68,69,70,71,72,73,74,75,76,77,78,79,80,81,82,83,84,85] [] (fun j24 g=>[]) (fun j24 g=>(n,[.str [],.str []])::m) (.q (.r []) .z) ?_ ?_⟩<;>clear h
 rintro j24 _ n27 hnn27 _ _ h
 refine AB (.q (.r []) .z) ?_
 replace h:=AA h
 obtain⟨y35,h⟩:=h
 simp(disch:=omega) only[vm,seval,h.1]
 refine⟨FM h.1.1 (by first|(simp(disch:=omega) only[vm,seval,h.1];done)|rfl) fun n36 hn36=>?_⟩
 simp(disch:=omega) only[vm,seval,h.1]
 refine⟨AV (γ:=Unit) h [91,92,93,94] [10] (fun j37 g=>[.str j37]) (fun j37 g=>(n,[.str [],.str []])::m) (.q (.r []) (.c (.r []) .z)) ?_ ?_⟩<;>clear h
 rintro j37 _ n40 hnn40 _ _ h
 refine AB (.r []) ?_
 replace h:=AA h
 obtain⟨y41,h⟩:=h
 simp(disch:=omega) only[vm,seval,h.1]
 refine⟨Mo h.1.1 (by first|(simp(disch:=omega) only[vm,seval,h.1];done)|rfl) fun n42 hn42=>?_⟩
 replace h:=AR h
 obtain⟨c,h⟩:=h
 try simp only[liE,seval]at c
 replace h:=AO c h
 simp(disch:=omega) only[vm,seval,h.1]
 refine⟨hk23 (j37++y41) () _ _ _ _ h.2 slr ?_ ?_ ?_ (by omega)⟩<;>first|(simp(disch:=omega) only[vm,seval,h.1];done)|rfl
 intro k38 Jk38 hk38 h
 replace h:=AC h
 rcases h with h|h
 replace h:=AR h
 obtain⟨c,h⟩:=h
 try simp only[liE,seval]at c
 replace h:=AO c h
 simp(disch:=omega) only[vm,seval,h.1]
 refine⟨hk38 (s10++([58]:List UInt8)) () _ _ _ _ h.2 slr ?_ ?_ ?_ (by omega)⟩<;>first|(simp(disch:=omega) only[vm,seval,h.1];done)|rfl
 simp(disch:=omega) only[vm,seval,h.1]
 refine⟨hk38 s10 () _ _ _ _ h.2 slr ?_ ?_ ?_ (by omega)⟩<;>first|(simp(disch:=omega) only[vm,seval,h.1];done)|rfl
 intro k25 Jk25 hk25 h
 replace h:=AR h
 obtain⟨hfk28,h⟩:=h
 simp(disch:=omega) only[vm,seval,h.1]
 refine⟨CB (σ:=Unit) (γ:=Unit) xk23 hfk28 (fun xs i s=>Bu N k25 xs) (fun i s g=>[.int .i64 i]) (fun i s g=>(n,[.str [],.str []])::m) [3,68,69,70,71,72,73,74,75,76,77,78,79,80,81,82,83,84,85] [13] () () h (by first|(simp(disch:=omega) only[vm,seval,h.1];done)|rfl) (by first|(simp(disch:=omega) only[vm,seval,h.1];done)|rfl) ?_ ?_⟩<;>clear h
 rintro s13 _ _ nL2_2 hnL2_2 _ h
 change _∧Bu N k25 []=_ at h
 rw[Bu]at h
 refine AB (.q (.q (.r []) (.c .z .z)) (.q .z (.r []))) ?_
 simp(disch:=omega) only[vm,seval,h.1]
 refine⟨hk25 () () _ _ _ _ h.2 slr ?_ ?_ ?_ (by omega)⟩<;>first|(simp(disch:=omega) only[vm,seval,h.1];done)|rfl
 rintro xk28 xsk28 s13 _ _ nL2_2 hnL2_2 _ h Jk28 hk28
 change _∧Bu N k25 (xk28::xsk28)=_ at h
 rw[Bu]at h
 refine AB (.q (.q (.r []) (.c .z .z)) (.q .z (.r []))) ?_
 simp(disch:=omega) only[vm,seval,h.1]
 refine⟨AV (γ:=Unit) h [74,75,76,77,78,79,80,81,82,83] [84] (fun j29 g=>[.bool j29]) (fun j29 g=>(n,[.str [],.str []])::m) (.r []) ?_ ?_⟩<;>clear h
 rintro j29 _ n32 hnn32 _ _ h
 refine AB (.c (.q (.r []) .z) .z) ?_
 replace h:=AC h
 rcases h with h|h
 obtain⟨H,h⟩:=h
 cases h
 simp(disch:=omega) only[vm,seval,H]
 refine⟨(hR _ _ _ _ _ _ (by simp(disch:=omega) only[vm,seval,H];rfl) (.cons _ slr) ?_ (by omega) ?_).1⟩<;>first|(simp(disch:=omega) only[vm,seval,H];done)|rfl
 simp(disch:=omega) only[vm,seval,h.1]
 refine⟨hk28 () () _ _ _ _ h.2 slr ?_ ?_ ?_ (by omega)⟩<;>first|(simp(disch:=omega) only[vm,seval,h.1];done)|rfl
 intro k30 Jk30 hk30 h
 replace h:=AA h
 obtain⟨y33,h⟩:=h
 simp(disch:=omega) only[vm,seval,h.1]
 refine⟨OW h.1.1 (by first|(simp(disch:=omega) only[vm,seval,h.1];done)|rfl) fun n34 hn34=>?_⟩
 replace h:=AC h
 rcases h with h|h
 simp(disch:=omega) only[vm,seval,h.1]
 refine⟨hk30 false () _ _ _ _ h.2 slr ?_ ?_ ?_ (by omega)⟩<;>first|(simp(disch:=omega) only[vm,seval,h.1];done)|rfl
 simp(disch:=omega) only[vm,seval,h.1]
 refine⟨hk30 ((AJ xk28) !=37) () _ _ _ _ h.2 slr ?_ ?_ ?_ (by omega)⟩<;>first|(simp(disch:=omega) only[vm,seval,h.1];done)|rfl
 intro k13 Jk13 hk13 h
 replace h:=AR h
 obtain⟨hfk16,h⟩:=h
 simp(disch:=omega) only[vm,seval,h.1]
 refine⟨CB (σ:=Unit) (γ:=Unit) y10 hfk16 (fun xs i s=>Bv N k13 xs) (fun i s g=>[.int .i64 i]) (fun i s g=>(n,[.str [],.str []])::m) [3,7,8,9,49,50,51,52,53,54,55,56,57,58,59,60] [48] () () h (by first|(simp(disch:=omega) only[vm,seval,h.1];done)|rfl) (by first|(simp(disch:=omega) only[vm,seval,h.1];done)|rfl) ?_ ?_⟩<;>clear h
 rintro s48 _ _ nL0_1 hnL0_1 _ h
 change _∧Bv N k13 []=_ at h
 rw[Bv]at h
 refine AB (.q (.r []) (.q (.c .z .z) (.q (.q (.r []) (.q (.r []) (.q (.r []) (.c (.q (.r []) .z) .z)))) (.r [])))) ?_
 simp(disch:=omega) only[vm,seval,h.1]
 refine⟨hk13 () () _ _ _ _ h.2 slr ?_ ?_ ?_ (by omega)⟩<;>first|(simp(disch:=omega) only[vm,seval,h.1];done)|rfl
 rintro xk16 xsk16 s48 _ _ nL0_1 hnL0_1 _ h Jk16 hk16
 change _∧Bv N k13 (xk16::xsk16)=_ at h
 rw[Bv]at h
 refine AB (.q (.r []) (.q (.c .z .z) (.q (.q (.r []) (.q (.r []) (.q (.r []) (.c (.q (.r []) .z) .z)))) (.r [])))) ?_
 replace h:=AA h
 obtain⟨y17,h⟩:=h
 simp(disch:=omega) only[vm,seval,h.1]
 refine⟨FM h.1.1 (by first|(simp(disch:=omega) only[vm,seval,h.1];done)|rfl) fun n18 hn18=>?_⟩
 replace h:=AC h
 rcases h with h|h
 obtain⟨H,h⟩:=h
 cases h
 simp(disch:=omega) only[vm,seval,H]
 refine⟨(hR _ _ _ _ _ _ (by simp(disch:=omega) only[vm,seval,H];rfl) (.cons _ slr) ?_ (by omega) ?_).1⟩<;>first|(simp(disch:=omega) only[vm,seval,H];done)|rfl
 simp(disch:=omega) only[vm,seval,h.1]
 refine⟨hk16 () () _ _ _ _ h.2 slr ?_ ?_ ?_ (by omega)⟩<;>first|(simp(disch:=omega) only[vm,seval,h.1];done)|rfl
 obtain⟨H,h⟩:=h
 cases h
 simp(disch:=omega) only[vm,seval,H]
 refine⟨(hR _ _ _ _ _ _ (by simp(disch:=omega) only[vm,seval,H];rfl) (.cons _ slr) ?_ (by omega) ?_).1⟩<;>first|(simp(disch:=omega) only[vm,seval,H];done)|rfl
 obtain⟨H,h⟩:=h
 cases h
 simp(disch:=omega) only[vm,seval,H]
 refine⟨(hR _ _ _ _ _ _ (by simp(disch:=omega) only[vm,seval,H];rfl) (.cons _ slr) ?_ (by omega) ?_).1⟩<;>first|(simp(disch:=omega) only[vm,seval,H];done)|rfl
end Go.Proofs.YtjgdhjpafjpjgaaGreatDoor
