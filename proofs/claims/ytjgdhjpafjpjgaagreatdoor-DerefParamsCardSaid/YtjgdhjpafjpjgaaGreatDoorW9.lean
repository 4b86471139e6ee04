import Derived.Test.YtjgdhjpafjpjgaaGreatDoorVmFacts
import Derived.Test.YtjgdhjpafjpjgaaGreatDoorDefs
import Derived.Test.YtjgdhjpafjpjgaaGreatDoorVM2
import Derived.Test.YtjgdhjpafjpjgaaGreatDoorW2
import Derived.Test.YtjgdhjpafjpjgaaGreatDoorW7
import Derived.Test.YtjgdhjpafjpjgaaGreatDoorW8
set_option linter.unusedVariables false
set_option linter.unusedSimpArgs false
set_option maxHeartbeats 4000000
set_option maxRecDepth 100000
set_option linter.defProp false
namespace Go.Proofs.YtjgdhjpafjpjgaaGreatDoor
open Go.VM
variable{N n:Nat}{m:MS}{Q:PQ}{args:List AVal}
theorem N7 {a0 a1 r} (h:JO N a0 a1=some r) (ha:args=[.str a0,.int .i64 a1]) (hQ: ∀n',n≤n'→Gl (Q (.tuple [.str r.1,.int .i64 r.2.1,.int .i64 r.2.2]) ⟨m,n'⟩)):ACall vE 198 args ⟨m,n⟩ Q:=by
 rw[JO]at h
 subst ha
 refine ent hQ Tryz.func198 rfl Tryz.ntmps198 Tryz.results198 (.q (.r []) .z) fun R hR=>?_
 replace h:=And.intro trivial h
 simp(disch:=omega) only[vm,seval,h.1]
 refine⟨AP (γ:=Unit) h [4,5,6,7,15,16,17,18,19,20,21,22,23,24,25,26,27,28,29,30,31,32,33,34,35,36] [] (fun j1 g=>[]) (fun j1 g=>m) (.q (.r []) (.c (.q (.r []) .z) .z)) ?_ ?_⟩<;>clear h
 rintro j1 _ n4 hnn4 _ _ h
 refine AB (.q (.r []) (.q (.q (.r []) (.c (.q (.r []) .z) .z)) (.q .z (.q (.r []) (.q .z (.q (.r []) (.q (.r []) .z))))))) ?_
 obtain⟨y9,h⟩:=AA h
 simp(disch:=omega) only[vm,seval,h.1]
 refine⟨Lr h.1.1 tD fun n10 hn10=>?_⟩
 rcases AC h with h|h
 simp(disch:=omega) only[vm,seval,h.1]
 refine⟨AP (γ:=Unit) h [45,46,47,48,49] [50] (fun j11 g=>[.bool j11]) (fun j11 g=>m) (.r []) ?_ ?_⟩<;>clear h
 rintro j11 _ n14 hnn14 _ _ h
 refine AB (.c (.q (.r []) (.q (.r []) .z)) .z) ?_
 rcases AC h with h|h
 obtain⟨y15,h⟩:=AA h
 simp(disch:=omega) only[vm,seval,h.1]
 refine⟨H8 h.1.1 tD fun n16 hn16=>?_⟩
 exact tR
 obtain⟨y17,h⟩:=AA h
 simp(disch:=omega) only[vm,seval,h.1]
 refine⟨Lr h.1.1 tD fun n18 hn18=>?_⟩
 simp(disch:=omega) only[vm,seval,h.1]
 refine⟨AP (γ:=Unit) h [66,67,68,69,70,71,72,73,74,75,76,77,78] [79] (fun j19 g=>[.bool j19]) (fun j19 g=>m) (.r []) ?_ ?_⟩<;>clear h
 rintro j19 _ n22 hnn22 _ _ h
 refine AB (.c (.q (.r []) .z) .z) ?_
 rcases AC h with h|h
 exact tR
 obtain⟨y23,h⟩:=AA h
 simp(disch:=omega) only[vm,seval,h.1]
 refine⟨H8 h.1.1 tD fun n24 hn24=>?_⟩
 exact tR
 intro k20 Jk20 hk20 h
 rcases AC h with h|h
 exact tJ (hk20 true ())
 rcases AC h with h|h
 rcases AC h with h|h
 exact tJ (hk20 true ())
 exact tJ (hk20 (decide (y17.1>57343)) ())
 exact tJ (hk20 true ())
 intro k12 Jk12 hk12 h
 rcases AC h with h|h
 exact tJ (hk12 true ())
 exact tJ (hk12 (decide (y9.1>57343)) ())
 exact tR
 intro k2 Jk2 hk2 h
 rcases AC h with h|h
 simp(disch:=omega) only[vm,seval,h.1]
 refine⟨E8 (σ:=Nat) (γ:=Unit) (fun k s=>EW N a0 a1 k2 k s) (fun s g=>[.iter ([34,92,47,98,102,110,114,116]:List UInt8) s]) (fun s g=>m) [4,5,6,7,21,22,23,24,25,26,27,28,29,30,31,32,33,34,35,36] [20] 0 () h (fun _=>rfl) tD tD ?_⟩
 clear h
 rintro k5 s20 _ nL0_1 hnL0_1 _ h Jk5 hk5
 change _∧EW N a0 a1 k2 (k5+1) s20=_ at h
 rw[EW]at h
 refine AB (.q (.r []) (.q (.c .z .z) (.q (.r []) (.q .z (.c (.q (.r []) .z) .z))))) ?_
 rcases AC h with h|h
 obtain⟨x6,h⟩:=AA h
 obtain⟨x7,h⟩:=AA h
 simp(disch:=omega) only[vm,seval,h.1]
 refine⟨BL [] (.take 0 (.take 1 (.take 2 (.take 3 (.take 4 (.take 5 (.take 6 (.done)))))))) Ar (by kernel_rfl) ?_⟩
 rcases AC h with h|h
 obtain⟨x8,h⟩:=AA h
 exact tR
 exact tJ (hk5 (s20+(Bp ([34,92,47,98,102,110,114,116]:List UInt8) s20).2) ())
 exact tJ (hk2 () ())
 exact tJ (hk2 () ())
theorem J5 {a0 a1 a2 r} (h:strings_ReplaceAll N a0 a1 a2=some r) (ha:args=[.str a0,.str a1,.str a2]) (hQ: ∀n',n≤n'→Gl (Q (.str r) ⟨m,n'⟩)):ACall vE 201 args ⟨m,n⟩ Q:=by
 rw[strings_ReplaceAll]at h
 subst ha
 refine ent hQ Tryz.func201 rfl Tryz.ntmps201 Tryz.results201 (.q (.r []) (.q (.r []) .z)) fun R hR=>?_
 replace h:=And.intro trivial h
 obtain⟨y1,h⟩:=AA h
 simp(disch:=omega) only[vm,seval,h.1]
 refine⟨Lf h.1.1 tD fun n2 hn2=>?_⟩
 exact tR
theorem OX {a0 r} (h:JK N a0=some r) (ha:args=[FE a0]) (hQ: ∀n',n≤n'→Gl (Q (.slice 2 (List.map Bz r) false) ⟨m,n'⟩)):ACall vE 48 args ⟨m,n⟩ Q:=by
 rw[JK]at h
 subst ha
 refine J9 hQ Tryz.func48 rfl Tryz.ntmps48 Tryz.results48 (.q (.r []) (.q (.q (.r []) (.c (.q (.r []) .z) .z)) (.q (.r []) .z))) fun R hR=>?_
 replace h:=And.intro trivial h
 rcases AC h with h|h
 obtain⟨y1,h⟩:=AA h
 simp(disch:=omega) only[vm,seval,h.1]
 refine⟨Hu h.1.1 tD fun n2 hn2=>?_⟩
 exact tR
 exact tR
theorem NK {a0 a1 r} (h:strings_Split N a0 a1=some r) (ha:args=[.str a0,.str a1]) (hQ: ∀n',n≤n'→Gl (Q (.slice 1 (List.map AVal.str r) false) ⟨m,n'⟩)):ACall vE 234 args ⟨m,n⟩ Q:=by
 rw[strings_Split]at h
 subst ha
 refine ent hQ Tryz.func234 rfl Tryz.ntmps234 Tryz.results234 (.q (.r []) (.q (.r []) .z)) fun R hR=>?_
 replace h:=And.intro trivial h
 obtain⟨y1,h⟩:=AA h
 simp(disch:=omega) only[vm,seval,h.1]
 refine⟨Ky h.1.1 tD fun n2 hn2=>?_⟩
 exact tR
theorem YA {a0 r} (h:Md N a0=some r) (ha:args=[.str a0]) (hQ: ∀n',n≤n'→Gl (Q (.tuple [.int .i64 r.1,.int .i64 r.2]) ⟨m,n'⟩)):ACall vE 163 args ⟨m,n⟩ Q:=by
 rw[Md]at h
 subst ha
 refine ent hQ Tryz.func163 rfl Tryz.ntmps163 Tryz.results163 (.q (.r []) (.q (.r []) (.q .z (.q (.r []) .z)))) fun R hR=>?_
 replace h:=And.intro trivial h
 obtain⟨y1,h⟩:=AA h
 simp(disch:=omega) only[vm,seval,h.1]
 refine⟨Jl h.1.1 tD fun n2 hn2=>?_⟩
 simp(disch:=omega) only[vm,seval,h.1]
 refine⟨AP (γ:=Unit) h [11,12,13,14,15] [16] (fun j3 g=>[.bool j3]) (fun j3 g=>m) (.r []) ?_ ?_⟩<;>clear h
 rintro j3 _ n6 hnn6 _ _ h
 refine AB (.c (.q (.r []) .z) .z) ?_
 rcases AC h with h|h
 exact tR
 exact tR
 intro k4 Jk4 hk4 h
 rcases AC h with h|h
 exact tJ (hk4 true ())
 exact tJ (hk4 (y1.1==0) ())
end Go.Proofs.YtjgdhjpafjpjgaaGreatDoor
