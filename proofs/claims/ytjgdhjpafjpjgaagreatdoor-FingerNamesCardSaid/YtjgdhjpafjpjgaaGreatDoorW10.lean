import Derived.Test.YtjgdhjpafjpjgaaGreatDoorVmFacts
import Derived.Test.YtjgdhjpafjpjgaaGreatDoorDefs
import Derived.Test.YtjgdhjpafjpjgaaGreatDoorVM2
import Derived.Test.YtjgdhjpafjpjgaaGreatDoorW0
import Derived.Test.YtjgdhjpafjpjgaaGreatDoorW4
import Derived.Test.YtjgdhjpafjpjgaaGreatDoorW6
import Derived.Test.YtjgdhjpafjpjgaaGreatDoorW8
set_option linter.unusedVariables false
set_option linter.unusedSimpArgs false
set_option maxHeartbeats 4000000
set_option maxRecDepth 100000
set_option linter.defProp false
namespace Go.Proofs.YtjgdhjpafjpjgaaGreatDoor
open Go.VM
variable{N n:Nat}{m:MS}{Q:PQ}{args:List AVal}
theorem KJ {a0 a1 r} (h:strings_Split N a0 a1=some r) (ha:args=[.str a0,.str a1]) (hQ: ∀n',n≤n'→Gl (Q (.slice 1 (List.map AVal.str r) false) ⟨m,n'⟩)):ACall vE 234 args ⟨m,n⟩ Q:=by
 rw[strings_Split]at h
 subst ha
 refine ent hQ Tryz.func234 rfl Tryz.ntmps234 Tryz.results234 (.q (.r []) (.q (.r []) .z)) fun R hR=>?_
 replace h:=And.intro trivial h
 obtain⟨y1,h⟩:=AA h
 simp(disch:=omega) only[vm,seval,h.1]
 refine⟨PX h.1.1 tD fun n2 hn2=>?_⟩
 exact tR
theorem U4 {a0 r} (h:KF N a0=some r) (ha:args=[K6 a0]) (hQ: ∀n',n≤n'→Gl (Q (.str r) ⟨m,n'⟩)):ACall vE 243 args ⟨m,n⟩ Q:=by
 rw[KF]at h
 subst ha
 refine ent hQ Tryz.func243 rfl Tryz.ntmps243 Tryz.results243 (.q (.r []) (.q .z .z)) fun R hR=>?_
 replace h:=And.intro trivial h
 obtain⟨y1,h⟩:=AA h
 have cy1:=h.1.1
 obtain⟨c,h⟩:=AR h
 try simp only[liE,seval]at c
 replace h:=AP c h
 obtain⟨c,h⟩:=AR h
 try simp only[liE,seval]at c
 replace h:=AP c h
 obtain⟨c,h⟩:=AR h
 try simp only[liE,seval]at c
 replace h:=AP c h
 simp(disch:=omega) only[vm,seval,h.1]
 refine⟨BI [] (.take 0 (.take 1 (.take 5 (.take 6 (.alt 2 [6,5,0] (.take 3 (.take 4 (.take 7 (.alt 8 [] (.done) (.stop))))) (.stop)))))) Au (by kernel_rfl) ?_⟩
 simp(disch:=omega) only[vm,seval,h.1]
 refine⟨Hz cy1 tD fun n2 hn2=>?_⟩
 exact tR
theorem ADq {a0 r} (h:MI N a0=some r) (ha:args=[.str a0]) (hQ: ∀n',n≤n'→Gl (Q (.tuple [.int .i64 r.1,.int .i64 r.2]) ⟨m,n'⟩)):ACall vE 163 args ⟨m,n⟩ Q:=by
 rw[MI]at h
 subst ha
 refine ent hQ Tryz.func163 rfl Tryz.ntmps163 Tryz.results163 (.q (.r []) (.q (.r []) (.q .z (.q (.r []) .z)))) fun R hR=>?_
 replace h:=And.intro trivial h
 obtain⟨y1,h⟩:=AA h
 simp(disch:=omega) only[vm,seval,h.1]
 refine⟨M9 h.1.1 tD fun n2 hn2=>?_⟩
 simp(disch:=omega) only[vm,seval,h.1]
 refine⟨AQ (γ:=Unit) h [11,12,13,14,15] [16] (fun j3 g=>[.bool j3]) (fun j3 g=>m) (.r []) ?_ ?_⟩<;>clear h
 rintro j3 _ n6 hnn6 _ _ h
 refine AB (.c (.q (.r []) .z) .z) ?_
 rcases AC h with h|h
 exact tR
 exact tR
 intro k4 Jk4 hk4 h
 rcases AC h with h|h
 exact tJ (hk4 true ())
 exact tJ (hk4 (y1.1==0) ())
theorem KC {a0 a1 a2 r} (h:strings_ReplaceAll N a0 a1 a2=some r) (ha:args=[.str a0,.str a1,.str a2]) (hQ: ∀n',n≤n'→Gl (Q (.str r) ⟨m,n'⟩)):ACall vE 201 args ⟨m,n⟩ Q:=by
 rw[strings_ReplaceAll]at h
 subst ha
 refine ent hQ Tryz.func201 rfl Tryz.ntmps201 Tryz.results201 (.q (.r []) (.q (.r []) .z)) fun R hR=>?_
 replace h:=And.intro trivial h
 obtain⟨y1,h⟩:=AA h
 simp(disch:=omega) only[vm,seval,h.1]
 refine⟨QZ h.1.1 tD fun n2 hn2=>?_⟩
 exact tR
theorem PT {a0 a1 r}{i0:Nat} (h:F3 N a0 a1=some r) (ha:args=[.ptr i0 0,.str a1]) (hi0:Bo m i0=some ([.int .i64 a0.e])) (hQ: ∀n',n≤n'→Gl (Q (.str r.1) ⟨CJ m i0 ([.int .i64 r.2.e]),n'⟩)):ACall vE 267 args ⟨m,n⟩ Q:=by
 rw[F3]at h
 subst ha
 refine ACall.front hi0 fun hin=>ent (fun n' k=>⟨_,rfl,(hQ n' k).go⟩) Tryz.func267 rfl Tryz.ntmps267 Tryz.results267 (.q (.r []) (.q (.r []) .z)) fun R hR=>?_
 replace h:=And.intro trivial h
 obtain⟨y1,h⟩:=AA h
 simp(disch:=omega) only[vm,seval,h.1]
 refine⟨Fp h.1.1 tD fun n2 hn2=>?_⟩
 simp(disch:=omega) only[vm,seval,h.1]
 refine⟨AQ (γ:=Unit) h [12,13,14,15,16,17,18,19,20,21,22,23,24,25,26,27,28] [] (fun j3 g=>[]) (fun j3 g=>(i0,[.int .i64 j3])::DW m i0) .z ?_ ?_⟩<;>clear h
 rintro j3 _ n6 hnn6 _ _ h
 refine AB (.q (.r []) .z) ?_
 obtain⟨y11,h⟩:=AA h
 simp(disch:=omega) only[vm,seval,h.1]
 refine⟨Hz h.1.1 tD fun n12 hn12=>?_⟩
 obtain⟨c,h⟩:=AR h
 try simp only[liE,seval]at c
 replace h:=AP c h
 exact tR
 intro k4 Jk4 hk4 h
 simp(disch:=omega) only[vm,seval,h.1]
 refine⟨AQ (γ:=Unit) h [12,13,14,15,16,17,18,19,20,21,22,23,24] [25] (fun j7 g=>[.bool j7]) (fun j7 g=>(i0,[.int .i64 a0.e])::DW m i0) (.r []) ?_ ?_⟩<;>clear h
 rintro j7 _ n10 hnn10 _ _ h
 refine AB (.c (.r []) .z) ?_
 rcases AC h with h|h
 exact tJ (hk4 110 ())
 exact tJ (hk4 a0.e ())
 intro k8 Jk8 hk8 h
 rcases AC h with h|h
 exact tJ (hk8 true ())
 rcases AC h with h|h
 exact tJ (hk8 true ())
 rcases AC h with h|h
 exact tJ (hk8 true ())
 exact tJ (hk8 (y1.1==([46,46]:List UInt8)) ())
theorem M8 {a0 r} (h:IX N a0=some r) (ha:args=[.str a0]) (hQ: ∀n',n≤n'→Gl (Q (.tuple [.str r.1,.int .i64 r.2]) ⟨m,n'⟩)):ACall vE 127 args ⟨m,n⟩ Q:=by
 rw[IX]at h
 subst ha
 refine ent hQ Tryz.func127 rfl Tryz.ntmps127 Tryz.results127 (.q (.r []) (.q (.q (.r []) (.c (.q (.r []) .z) (.q (.r []) (.c (.q (.r []) .z) .z)))) (.q (.r []) .z))) fun R hR=>?_
 replace h:=And.intro trivial h
 rcases AC h with h|h
 exact tR
 rcases AC h with h|h
 exact tR
 simp(disch:=omega) only[vm,seval,h.1]
 refine⟨AQ (γ:=Unit) h [12,13,14,15,16,17,18,19] [11] (fun j1 g=>[.bool j1]) (fun j1 g=>m) (.r []) ?_ ?_⟩<;>clear h
 rintro j1 _ n4 hnn4 _ _ h
 refine AB (.c (.q (.r []) .z) .z) ?_
 rcases AC h with h|h
 exact tR
 obtain⟨y9,h⟩:=AA h
 simp(disch:=omega) only[vm,seval,h.1]
 refine⟨Jy h.1.1 tD fun n10 hn10=>?_⟩
 exact tR
 intro k2 Jk2 hk2 h
 obtain⟨y5,h⟩:=AA h
 simp(disch:=omega) only[vm,seval,h.1]
 refine⟨OJ h.1.1 tD fun n6 hn6=>?_⟩
 rcases AC h with h|h
 exact tJ (hk2 false ())
 obtain⟨y7,h⟩:=AA h
 simp(disch:=omega) only[vm,seval,h.1]
 refine⟨XG h.1.1 tD fun n8 hn8=>?_⟩
 exact tJ (hk2 (!y7) ())
end Go.Proofs.YtjgdhjpafjpjgaaGreatDoor
