import Derived.Test.YtjgdhjpafjpjgaaGreatDoorVmFacts
import Derived.Test.YtjgdhjpafjpjgaaGreatDoorDefs
import Derived.Test.YtjgdhjpafjpjgaaGreatDoorVM2
import Derived.Test.YtjgdhjpafjpjgaaGreatDoorW4
import Derived.Test.YtjgdhjpafjpjgaaGreatDoorW6
import Derived.Test.YtjgdhjpafjpjgaaGreatDoorW7
import Derived.Test.YtjgdhjpafjpjgaaGreatDoorW9
set_option linter.unusedVariables false
set_option linter.unusedSimpArgs false
set_option maxHeartbeats 4000000
set_option maxRecDepth 100000
set_option linter.defProp false
namespace Go.Proofs.YtjgdhjpafjpjgaaGreatDoor
open Go.VM
variable{N n:Nat}{m:MS}{Q:PQ}{args:List AVal}
theorem Qm {a0 a1 r} (h:LM N a0 a1=some r) (ha:args=[.str a0,.int .i64 a1]) (hQ: ∀n',n≤n'→Gl (Q (.tuple [.str r.1,.int .i64 r.2.1,.int .i64 r.2.2]) ⟨m,n'⟩)):ACall vE 149 args ⟨m,n⟩ Q:=by
 rw[LM]at h
 subst ha
 refine ent hQ Tryz.func149 rfl Tryz.ntmps149 Tryz.results149 (.q (.r []) (.q (.r []) .z)) fun R hR=>?_
 replace h:=And.intro trivial h
 simp(disch:=omega) only[vm,seval,h.1]
 refine⟨AP (γ:=Unit) h [4,5,6,7,8,9,10,11,12,13,14,15,16,17,18,19,20,21,22,23,24,25,26,27,28,29,30,31,32,33,34,35,36,37,38,39,40,41,42,43,44,45,46,47,48,49,50,51,52,53,54,55,56,57,58,59,60,61,62,63,64,65,66,67,68,69] [] (fun j1 g=>[]) (fun j1 g=>m) (.q (.r []) .z) ?_ ?_⟩<;>clear h
 rintro j1 _ n4 hnn4 _ _ h
 refine AB (.q (.r []) .z) ?_
 exact tR
 intro k2 Jk2 hk2 h
 simp(disch:=omega) only[vm,seval,h.1]
 refine⟨E8 (σ:=(List UInt8)×Int) (γ:=Unit) (fun k s=>Ei N a0 k2 k s.1 s.2) (fun s g=>[.str s.1,.int .i64 s.2]) (fun s g=>m) [4,5,6,9,10,11,12,13,14,17,18,19,20,21,22,23,24,25,26,27,28,29,30,31,32,33,34,35,36,37,38,39,40,41,42,43,44,45,46,47,48,49,50,51,52,53,54,55,56,57,58,59,60,61,62,63,64,65,66,67,68,69] [7,8] ([],(wr .i64 (a1+1))) () h (fun _=>rfl) tD tD ?_⟩
 clear h
 rintro k5 ⟨s7,s8⟩ _ nL0_1 hnL0_1 _ h Jk5 hk5
 change _∧Ei N a0 k2 (k5+1) s7 s8=_ at h
 rw[Ei]at h
 refine AB (.q (.q (.r []) (.c .z .z)) (.q (.r []) (.c (.q (.r []) .z) (.q (.r []) (.c (.q (.r []) (.q (.q (.r []) (.c (.q (.r []) .z) .z)) (.r []))) (.q (.r []) (.c (.q (.r []) .z) (.q (.r []) (.q (.q (.r []) (.c (.q (.r []) .z) .z)) (.r [])))))))))) ?_
 rcases AC h with h|h
 obtain⟨x6,h⟩:=AA h
 rcases AC h with h|h
 exact tR
 rcases AC h with h|h
 obtain⟨y7,h⟩:=AA h
 simp(disch:=omega) only[vm,seval,h.1]
 refine⟨N7 h.1.1 tD fun n8 hn8=>?_⟩
 rcases AC h with h|h
 exact tR
 obtain⟨c,h⟩:=AU h
 try simp only[liE,seval]at c
 replace h:=AQ c h
 exact tJ (hk5 ((s7++y7.1),y7.2.1) ())
 rcases AC h with h|h
 exact tR
 obtain⟨y9,h⟩:=AA h
 simp(disch:=omega) only[vm,seval,h.1]
 refine⟨Nl h.1.1 tD fun n10 hn10=>?_⟩
 rcases AC h with h|h
 exact tR
 obtain⟨x11,h⟩:=AA h
 obtain⟨c,h⟩:=AU h
 try simp only[liE,seval]at c
 replace h:=AQ c h
 exact tJ (hk5 ((s7++x11),y9.2.1) ())
 exact tJ (hk2 () ())
theorem NI {a0 r} (h:Iq N a0=some r) (ha:args=[.str a0]) (hQ: ∀n',n≤n'→Gl (Q (.tuple [.str r.1,.int .i64 r.2]) ⟨m,n'⟩)):ACall vE 152 args ⟨m,n⟩ Q:=by
 rw[Iq]at h
 subst ha
 refine ent hQ Tryz.func152 rfl Tryz.ntmps152 Tryz.results152 (.q (.r []) (.q (.r []) (.q (.q (.r []) (.q (.r []) (.c (.q (.r []) .z) .z))) .z))) fun R hR=>?_
 replace h:=And.intro trivial h
 obtain⟨y1,h⟩:=AA h
 simp(disch:=omega) only[vm,seval,h.1]
 refine⟨Bt h.1.1 tD fun n2 hn2=>?_⟩
 obtain⟨y3,h⟩:=AA h
 simp(disch:=omega) only[vm,seval,h.1]
 refine⟨I7 h.1.1 tD fun n4 hn4=>?_⟩
 rcases AC h with h|h
 exact tR
 simp(disch:=omega) only[vm,seval,h.1]
 refine⟨AP (γ:=Unit) h [21,22,23,24,25,26] [5] (fun j5 g=>[.int .i64 j5]) (fun j5 g=>m) .z ?_ ?_⟩<;>clear h
 rintro j5 _ n8 hnn8 _ _ h
 refine AB (.q (.r []) .z) ?_
 obtain⟨y15,h⟩:=AA h
 simp(disch:=omega) only[vm,seval,h.1]
 refine⟨J5 h.1.1 tD fun n16 hn16=>?_⟩
 exact tR
 intro k6 Jk6 hk6 h
 simp(disch:=omega) only[vm,seval,h.1]
 refine⟨AP (γ:=Unit) h [21,22,23,24,25] [26] (fun j9 g=>[.bool j9]) (fun j9 g=>m) (.r []) ?_ ?_⟩<;>clear h
 rintro j9 _ n12 hnn12 _ _ h
 refine AB (.c (.r []) .z) ?_
 rcases AC h with h|h
 exact tJ (hk6 1 ())
 exact tJ (hk6 y1.2 ())
 intro k10 Jk10 hk10 h
 rcases AC h with h|h
 obtain⟨y13,h⟩:=AA h
 simp(disch:=omega) only[vm,seval,h.1]
 refine⟨Hq h.1.1 tD fun n14 hn14=>?_⟩
 exact tJ (hk10 y13 ())
 exact tJ (hk10 false ())
theorem O4 {a0 r} (h:Jq N a0=some r) (ha:args=[.str a0]) (hQ: ∀n',n≤n'→Gl (Q (.bool r) ⟨m,n'⟩)):ACall vE 208 args ⟨m,n⟩ Q:=by
 rw[Jq]at h
 subst ha
 refine ent hQ Tryz.func208 rfl Tryz.ntmps208 Tryz.results208 (.q (.r []) (.q (.r []) (.q (.q (.r []) (.c (.q (.r []) .z) .z)) .z))) fun R hR=>?_
 replace h:=And.intro trivial h
 obtain⟨y1,h⟩:=AA h
 simp(disch:=omega) only[vm,seval,h.1]
 refine⟨NK h.1.1 tD fun n2 hn2=>?_⟩
 rcases AC h with h|h
 exact tR
 simp(disch:=omega) only[vm,seval,h.1]
 refine⟨AP (γ:=Unit) h [2,5,6,7,13,14,15,16,17,18,19,20,21,22,23,24,25,26] [] (fun j3 g=>[]) (fun j3 g=>m) (.q (.r []) .z) ?_ ?_⟩<;>clear h
 rintro j3 _ n6 hnn6 _ _ h
 refine AB (.q (.r []) .z) ?_
 exact tR
 intro k4 Jk4 hk4 h
 obtain⟨hfk7,h⟩:=AU h
 simp(disch:=omega) only[vm,seval,h.1]
 refine⟨C9 (σ:=Unit) (γ:=Unit) y1 hfk7 (fun xs i s=>DX N k4 xs) (fun i s g=>[.int .i64 i]) (fun i s g=>m) [2,5,6,7,16,17,18,19,20,21,22,23,24,25,26] [15] () () h tD tD ?_ ?_⟩<;>clear h
 rintro s15 _ _ nL0_1 hnL0_1 _ h
 change _∧DX N k4 []=_ at h
 rw[DX]at h
 refine AB (.q (.r []) (.q (.c .z .z) (.q (.q (.r []) (.q (.r []) (.q (.r []) (.c (.q (.r []) .z) .z)))) (.r [])))) ?_
 exact tJ (hk4 () ())
 rintro xk7 xsk7 s15 _ _ nL0_1 hnL0_1 _ h Jk7 hk7
 change _∧DX N k4 (xk7::xsk7)=_ at h
 rw[DX]at h
 refine AB (.q (.r []) (.q (.c .z .z) (.q (.q (.r []) (.q (.r []) (.q (.r []) (.c (.q (.r []) .z) .z)))) (.r [])))) ?_
 obtain⟨y8,h⟩:=AA h
 simp(disch:=omega) only[vm,seval,h.1]
 refine⟨Jl h.1.1 tD fun n9 hn9=>?_⟩
 rcases AC h with h|h
 exact tR
 exact tJ (hk7 () ())
end Go.Proofs.YtjgdhjpafjpjgaaGreatDoor
