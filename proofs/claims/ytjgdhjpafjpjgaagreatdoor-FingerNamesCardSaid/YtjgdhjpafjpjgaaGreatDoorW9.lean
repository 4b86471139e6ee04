import Derived.Test.YtjgdhjpafjpjgaaGreatDoorVmFacts
import Derived.Test.YtjgdhjpafjpjgaaGreatDoorDefs
import Derived.Test.YtjgdhjpafjpjgaaGreatDoorVM2
import Derived.Test.YtjgdhjpafjpjgaaGreatDoorW1
import Derived.Test.YtjgdhjpafjpjgaaGreatDoorW2
import Derived.Test.YtjgdhjpafjpjgaaGreatDoorW3
import Derived.Test.YtjgdhjpafjpjgaaGreatDoorW5
import Derived.Test.YtjgdhjpafjpjgaaGreatDoorW6
set_option linter.unusedVariables false
set_option linter.unusedSimpArgs false
set_option maxHeartbeats 4000000
set_option maxRecDepth 100000
set_option linter.defProp false
namespace Go.Proofs.YtjgdhjpafjpjgaaGreatDoor
open Go.VM
variable{N n:Nat}{m:MS}{Q:PQ}{args:List AVal}
theorem MC {a0 r} (h:Ff N a0=some r) (ha:args=[.str a0]) (hQ: ∀n',n≤n'→Gl (Q (.tuple [EF r.1,.int .i64 r.2]) ⟨m,n'⟩)):ACall vE 114 args ⟨m,n⟩ Q:=by
 rw[Ff]at h
 subst ha
 refine ent hQ Tryz.func114 rfl Tryz.ntmps114 Tryz.results114 (.q (.r []) (.q (.q (.r []) (.c (.q (.r []) .z) (.q (.r []) (.c (.q (.r []) .z) .z)))) (.q (.r []) (.q (.r []) (.q (.q (.r []) (.c (.q (.r []) .z) .z)) (.q (.q (.r []) (.c (.q (.r []) .z) .z)) (.q (.r []) .z))))))) fun R hR=>?_
 replace h:=And.intro trivial h
 rcases AC h with h|h
 exact tR
 obtain⟨y1,h⟩:=AA h
 simp(disch:=omega) only[vm,seval,h.1]
 refine⟨Fw h.1.1 tD fun n2 hn2=>?_⟩
 rcases AC h with h|h
 obtain⟨x3,h⟩:=AA h
 obtain⟨y4,h⟩:=AA h
 simp(disch:=omega) only[vm,seval,h.1]
 refine⟨Cq h.1.1 tD fun n5 hn5=>?_⟩
 rcases AC h with h|h
 exact tR
 obtain⟨x6,h⟩:=AA h
 obtain⟨y7,h⟩:=AA h
 simp(disch:=omega) only[vm,seval,h.1]
 refine⟨UU h.1.1 tD fun n8 hn8=>?_⟩
 rcases AC h with h|h
 obtain⟨x9,h⟩:=AA h
 obtain⟨y10,h⟩:=AA h
 simp(disch:=omega) only[vm,seval,h.1]
 refine⟨Gb h.1.1 tD fun n11 hn11=>?_⟩
 simp(disch:=omega) only[vm,seval,h.1]
 refine⟨AQ (γ:=Unit) h [3,7,8,9,46,47,48,49,50,51,52,53,54,55,56,57,58,59,60] [] (fun j12 g=>[]) (fun j12 g=>(n,[.str [],.str []])::m) (.q (.r []) .z) ?_ ?_⟩<;>clear h
 rintro j12 _ n15 hnn15 _ _ h
 refine AB (.q (.r []) .z) ?_
 simp(disch:=omega) only[vm,seval,h.1]
 refine⟨AQ (γ:=Unit) h [3,11,12,13,14,15,61,62,63,64,65,66,67,68,69,70,71,72,73,74,75,76,77,78,79,80,81,82,83,84,85,86,87,88,89,90,91,92,93,94,95,96,97,98,99] [10] (fun j19 g=>[.str j19]) (fun j19 g=>(n,[.str [],.str []])::m) (.q (.r []) .z) ?_ ?_⟩<;>clear h
 rintro j19 _ n22 hnn22 _ _ h
 refine AB (.q (.q (.r []) (.c (.q (.r []) .z) .z)) (.q (.r []) .z)) ?_
 obtain⟨x43,h⟩:=AA h
 rcases AC h with h|h
 exact tR
 exact tR
 intro k20 Jk20 hk20 h
 obtain⟨hfk23,h⟩:=AR h
 simp(disch:=omega) only[vm,seval,h.1]
 refine⟨BM (σ:=(List UInt8)) (γ:=Unit) y10 hfk23 (fun xs i s=>BR N k20 xs i s) (fun i s g=>[.str s,.int .i64 i]) (fun i s g=>(n,[.str [],.str []])::m) [3,11,12,13,14,15,64,65,66,67,68,69,70,71,72,73,74,75,76,77,78,79,80,81,82,83,84,85,86,87,88,89,90,91,92,93,94,95,96,97,98,99] [10,63] [] () h tD tD ?_ ?_⟩<;>clear h
 rintro s63 s10 _ nL1_1 hnL1_1 _ h
 change _∧BR N k20 [] s63 s10=_ at h
 rw[BR]at h
 refine AB (.q (.r []) (.q (.c .z .z) (.q (.q (.r []) .z) (.r [])))) ?_
 exact tJ (hk20 s10 ())
 rintro xk23 xsk23 s63 s10 _ nL1_1 hnL1_1 _ h Jk23 hk23
 change _∧BR N k20 (xk23::xsk23) s63 s10=_ at h
 rw[BR]at h
 refine AB (.q (.r []) (.q (.c .z .z) (.q (.q (.r []) .z) (.r [])))) ?_
 simp(disch:=omega) only[vm,seval,h.1]
 refine⟨AQ (γ:=Unit) h [3,13,68,69,70,71,72,73,74,75,76,77,78,79,80,81,82,83,84,85] [] (fun j24 g=>[]) (fun j24 g=>(n,[.str [],.str []])::m) (.q (.r []) .z) ?_ ?_⟩<;>clear h
 rintro j24 _ n27 hnn27 _ _ h
 refine AB (.q (.r []) .z) ?_
 obtain⟨y35,h⟩:=AA h
 simp(disch:=omega) only[vm,seval,h.1]
 refine⟨Fv h.1.1 tD fun n36 hn36=>?_⟩
 simp(disch:=omega) only[vm,seval,h.1]
 refine⟨AQ (γ:=Unit) h [91,92,93,94] [10] (fun j37 g=>[.str j37]) (fun j37 g=>(n,[.str [],.str []])::m) (.q (.r []) (.c (.r []) .z)) ?_ ?_⟩<;>clear h
 rintro j37 _ n40 hnn40 _ _ h
 refine AB (.r []) ?_
 obtain⟨y41,h⟩:=AA h
 simp(disch:=omega) only[vm,seval,h.1]
 refine⟨ND h.1.1 tD fun n42 hn42=>?_⟩
 obtain⟨c,h⟩:=AR h
 try simp only[liE,seval]at c
 replace h:=AP c h
 exact tJ (hk23 (j37++y41) ())
 intro k38 Jk38 hk38 h
 rcases AC h with h|h
 obtain⟨c,h⟩:=AR h
 try simp only[liE,seval]at c
 replace h:=AP c h
 exact tJ (hk38 (s10++([58]:List UInt8)) ())
 exact tJ (hk38 s10 ())
 intro k25 Jk25 hk25 h
 obtain⟨hfk28,h⟩:=AR h
 simp(disch:=omega) only[vm,seval,h.1]
 refine⟨BM (σ:=Unit) (γ:=Unit) xk23 hfk28 (fun xs i s=>Bz N k25 xs) (fun i s g=>[.int .i64 i]) (fun i s g=>(n,[.str [],.str []])::m) [3,68,69,70,71,72,73,74,75,76,77,78,79,80,81,82,83,84,85] [13] () () h tD tD ?_ ?_⟩<;>clear h
 rintro s13 _ _ nL2_2 hnL2_2 _ h
 change _∧Bz N k25 []=_ at h
 rw[Bz]at h
 refine AB (.q (.q (.r []) (.c .z .z)) (.q .z (.r []))) ?_
 exact tJ (hk25 () ())
 rintro xk28 xsk28 s13 _ _ nL2_2 hnL2_2 _ h Jk28 hk28
 change _∧Bz N k25 (xk28::xsk28)=_ at h
 rw[Bz]at h
 refine AB (.q (.q (.r []) (.c .z .z)) (.q .z (.r []))) ?_
 simp(disch:=omega) only[vm,seval,h.1]
 refine⟨AQ (γ:=Unit) h [74,75,76,77,78,79,80,81,82,83] [84] (fun j29 g=>[.bool j29]) (fun j29 g=>(n,[.str [],.str []])::m) (.r []) ?_ ?_⟩<;>clear h
 rintro j29 _ n32 hnn32 _ _ h
 refine AB (.c (.q (.r []) .z) .z) ?_
 rcases AC h with h|h
 exact tR
 exact tJ (hk28 () ())
 intro k30 Jk30 hk30 h
 obtain⟨y33,h⟩:=AA h
 simp(disch:=omega) only[vm,seval,h.1]
 refine⟨Ox h.1.1 tD fun n34 hn34=>?_⟩
 rcases AC h with h|h
 exact tJ (hk30 false ())
 exact tJ (hk30 ((AL xk28) !=37) ())
 intro k13 Jk13 hk13 h
 obtain⟨hfk16,h⟩:=AR h
 simp(disch:=omega) only[vm,seval,h.1]
 refine⟨BM (σ:=Unit) (γ:=Unit) y10 hfk16 (fun xs i s=>CB N k13 xs) (fun i s g=>[.int .i64 i]) (fun i s g=>(n,[.str [],.str []])::m) [3,7,8,9,49,50,51,52,53,54,55,56,57,58,59,60] [48] () () h tD tD ?_ ?_⟩<;>clear h
 rintro s48 _ _ nL0_1 hnL0_1 _ h
 change _∧CB N k13 []=_ at h
 rw[CB]at h
 refine AB (.q (.r []) (.q (.c .z .z) (.q (.q (.r []) (.q (.r []) (.q (.r []) (.c (.q (.r []) .z) .z)))) (.r [])))) ?_
 exact tJ (hk13 () ())
 rintro xk16 xsk16 s48 _ _ nL0_1 hnL0_1 _ h Jk16 hk16
 change _∧CB N k13 (xk16::xsk16)=_ at h
 rw[CB]at h
 refine AB (.q (.r []) (.q (.c .z .z) (.q (.q (.r []) (.q (.r []) (.q (.r []) (.c (.q (.r []) .z) .z)))) (.r [])))) ?_
 obtain⟨y17,h⟩:=AA h
 simp(disch:=omega) only[vm,seval,h.1]
 refine⟨Fv h.1.1 tD fun n18 hn18=>?_⟩
 rcases AC h with h|h
 exact tR
 exact tJ (hk16 () ())
 exact tR
 exact tR
end Go.Proofs.YtjgdhjpafjpjgaaGreatDoor
