import Derived.Test.YtjgdhjpafjpjgaaGreatDoorVmFacts
import Derived.Test.YtjgdhjpafjpjgaaGreatDoorDefs
import Derived.Test.YtjgdhjpafjpjgaaGreatDoorVM2
import Derived.Test.YtjgdhjpafjpjgaaGreatDoorW4
import Derived.Test.YtjgdhjpafjpjgaaGreatDoorW10
import Derived.Test.YtjgdhjpafjpjgaaGreatDoorW11
import Derived.Test.YtjgdhjpafjpjgaaGreatDoorW13
import Derived.Test.YtjgdhjpafjpjgaaGreatDoorW14
set_option linter.unusedVariables false
set_option linter.unusedSimpArgs false
set_option maxHeartbeats 4000000
set_option maxRecDepth 100000
set_option linter.defProp false
namespace Go.Proofs.YtjgdhjpafjpjgaaGreatDoor
open Go.VM
variable{N n:Nat}{m:MS}{Q:PQ}{args:List AVal}
theorem Ph {a0 r} (h:Fz N a0=some r) (ha:args=[.str a0]) (hQ: ∀n',n≤n'→Gl (Q (.tuple [A9 r.1,.int .i64 r.2]) ⟨m,n'⟩)):ACall vE 223 args ⟨m,n⟩ Q:=by
 rw[Fz]at h
 subst ha
 refine ent hQ Tryz.func223 rfl Tryz.ntmps223 Tryz.results223 (.q (.r []) (.q (.r []) (.q (.q (.r []) (.c (.q (.r []) .z) .z)) (.q .z .z)))) fun R hR=>?_
 replace h:=And.intro trivial h
 obtain⟨y1,h⟩:=AA h
 simp(disch:=omega) only[vm,seval,h.1]
 refine⟨Na h.1.1 tD fun n2 hn2=>?_⟩
 rcases AC h with h|h
 exact tR
 obtain⟨y3,h⟩:=AA h
 have cy3:=h.1.1
 simp(disch:=omega) only[vm,seval,h.1]
 refine⟨BI [] (.take 0 (.take 2 (.take 3 (.take 4 (.take 5 (.alt 1 [5,4,3,2] (.alt 6 [4,2,0] (.alt 7 [] (.alt 8 [] (.done) (.stop)) (.stop)) (.stop)) (.stop))))))) Au (by kernel_rfl) ?_⟩
 simp(disch:=omega) only[vm,seval,h.1]
 refine⟨GV cy3 tD fun n4 hn4=>?_⟩
 exact tR
theorem TW {a0 r} (h:I8 N a0=some r) (ha:args=[EF a0]) (hQ: ∀n',n≤n'→Gl (Q (.tuple [Dt r.1,.int .i64 r.2]) ⟨m,n'⟩)):ACall vE 257 args ⟨m,n⟩ Q:=by
 rw[I8]at h
 subst ha
 refine ent hQ Tryz.func257 rfl Tryz.ntmps257 Tryz.results257 (.q (.r []) (.q (.r []) (.q (.q (.r []) (.c (.q (.r []) .z) .z)) (.q (.r []) .z)))) fun R hR=>?_
 replace h:=And.intro trivial h
 obtain⟨y1,h⟩:=AA h
 simp(disch:=omega) only[vm,seval,h.1]
 refine⟨Ku h.1.1 tD fun n2 hn2=>?_⟩
 rcases AC h with h|h
 exact tR
 simp(disch:=omega) only[vm,seval,h.1]
 refine⟨AQ (γ:=Unit) h [3,7,8,23,24,25,26,27,28,29,30,31,32,33,34,35,36,37,38,39,40,41] [] (fun j3 g=>[]) (fun j3 g=>((n2+1),[.str y1.1.host,.int .i64 y1.1.port,.str j3,.str [],.str [],.bool false,.bool false])::(n2,[.str y1.1.host,.int .i64 y1.1.port])::((n+1),[.str [],.int .i64 0,.str [],.str [],.str [],.bool false,.bool false])::(n,[.str a0.method,.str a0.iD])::m) (.q (.r []) (.q (.r []) (.c (.q (.r []) (.q (.r []) (.q (.r []) (.c (.q .z .z) .z)))) .z))) ?_ ?_⟩<;>clear h
 rintro j3 _ n6 hnn6 _ _ h
 refine AB (.q (.q (.r []) (.c (.q (.r []) .z) .z)) (.q (.r []) .z)) ?_
 obtain⟨y12,h⟩:=AA h
 simp(disch:=omega) only[vm,seval,h.1]
 refine⟨GV h.1.1 tD fun n13 hn13=>?_⟩
 rcases AC h with h|h
 exact tR
 exact tR
 intro k4 Jk4 hk4 h
 obtain⟨y7,h⟩:=AA h
 simp(disch:=omega) only[vm,seval,h.1]
 refine⟨KJ h.1.1 tD fun n8 hn8=>?_⟩
 obtain⟨x9,h⟩:=AA h
 rcases AC h with h|h
 obtain⟨y10,h⟩:=AA h
 simp(disch:=omega) only[vm,seval,h.1]
 refine⟨JV h.1.1 tD (i1_0:=n8) (by simp(disch:=omega) only[vm,seval,h.1]) fun n11 hn11=>?_⟩
 obtain⟨c,h⟩:=AR h
 try simp only[liE,seval]at c
 replace h:=AP c h
 obtain⟨c,h⟩:=AR h
 try simp only[liE,seval]at c
 replace h:=AP c h
 rcases AC h with h|h
 simp(disch:=omega) only[vm,seval,h.1]
 refine⟨BI [] (.take 1 (.take 2 (.alt 0 [2,1] (.alt 3 [2,1] (.alt 4 [] (.done) (.stop)) (.stop)) (.stop)))) Au (by kernel_rfl) ?_⟩
 exact tR
 exact tJ (hk4 ((y10.1++([47]:List UInt8))++([100,105,100,46,106,115,111,110]:List UInt8)) ())
 exact tJ (hk4 ([47,46,119,101,108,108,45,107,110,111,119,110,47,100,105,100,46,106,115,111,110]:List UInt8) ())
theorem TS {a0 r} (h:JM N a0=some r) (ha:args=[Dt a0]) (hQ: ∀n',n≤n'→Gl (Q (.bool r) ⟨m,n'⟩)):ACall vE 111 args ⟨m,n⟩ Q:=by
 rw[JM]at h
 subst ha
 refine ent hQ Tryz.func111 rfl Tryz.ntmps111 Tryz.results111 (.q (.r []) (.q (.r []) (.q (.r []) .z))) fun R hR=>?_
 replace h:=And.intro trivial h
 obtain⟨y1,h⟩:=AA h
 simp(disch:=omega) only[vm,seval,h.1]
 refine⟨GV h.1.1 tD fun n2 hn2=>?_⟩
 obtain⟨y3,h⟩:=AA h
 simp(disch:=omega) only[vm,seval,h.1]
 refine⟨Na h.1.1 tD fun n4 hn4=>?_⟩
 rcases AC h with h|h
 exact tR
 exact tR
theorem Qh {a0 r} (h:GQ N a0=some r) (ha:args=[EF a0]) (hQ: ∀n',n≤n'→Gl (Q (.tuple [EF r.1,.int .i64 r.2]) ⟨m,n'⟩)):ACall vE 130 args ⟨m,n⟩ Q:=by
 rw[GQ]at h
 subst ha
 refine ent hQ Tryz.func130 rfl Tryz.ntmps130 Tryz.results130 (.q (.r []) (.q (.r []) (.q (.q (.r []) (.c (.q (.r []) .z) .z)) (.q (.r []) .z)))) fun R hR=>?_
 replace h:=And.intro trivial h
 obtain⟨y1,h⟩:=AA h
 simp(disch:=omega) only[vm,seval,h.1]
 refine⟨VG h.1.1 tD fun n2 hn2=>?_⟩
 rcases AC h with h|h
 exact tR
 obtain⟨y3,h⟩:=AA h
 simp(disch:=omega) only[vm,seval,h.1]
 refine⟨SB h.1.1 tD fun n4 hn4=>?_⟩
 exact tR
end Go.Proofs.YtjgdhjpafjpjgaaGreatDoor
