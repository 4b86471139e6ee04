import Derived.Test.YtjgdhjpafjpjgaaGreatDoorVmFacts
import Derived.Test.YtjgdhjpafjpjgaaGreatDoorDefs
import Derived.Test.YtjgdhjpafjpjgaaGreatDoorVM2
import Derived.Test.YtjgdhjpafjpjgaaGreatDoorW1
import Derived.Test.YtjgdhjpafjpjgaaGreatDoorW20
set_option linter.unusedVariables false
set_option linter.unusedSimpArgs false
set_option maxHeartbeats 4000000
set_option maxRecDepth 100000
set_option linter.defProp false
namespace Go.Proofs.YtjgdhjpafjpjgaaGreatDoor
open Go.VM
variable{N n:Nat}{m:MS}{Q:PQ}{args:List AVal}
theorem AFR {a0 a1 r} (h:RL N a0 a1=some r) (ha:args=[A9 a0,.str a1]) (hQ: ∀n',n≤n'→Gl (Q (.tuple [Dt r.1,.int .i64 r.2]) ⟨m,n'⟩)):ACall vE 32 args ⟨m,n⟩ Q:=by
 rw[RL]at h
 subst ha
 refine ent hQ Tryz.func32 rfl Tryz.ntmps32 Tryz.results32 (.q (.r []) (.q (.q (.r []) (.c (.q (.r []) .z) .z)) (.q (.r []) .z))) fun R hR=>?_
 replace h:=And.intro trivial h
 obtain⟨y1,h⟩:=AA h
 simp(disch:=omega) only[vm,seval,h.1]
 refine⟨Ud h.1.1 tD fun n2 hn2=>?_⟩
 rcases AC h with h|h
 exact tR
 exact tR
theorem LG {a0 a1 r} (h:Hu N a0 a1=some r) (ha:args=[Hm a0,A9 a1]) (hQ: ∀n',n≤n'→Gl (Q (.slice 4 (List.map A9 r) false) ⟨m,n'⟩)):ACall vE 25 args ⟨m,n⟩ Q:=by
 rw[Hu]at h
 subst ha
 refine ent hQ Tryz.func25 rfl Tryz.ntmps25 Tryz.results25 (.q (.r []) (.q (.r []) .z)) fun R hR=>?_
 replace h:=And.intro trivial h
 simp(disch:=omega) only[vm,seval,h.1]
 refine⟨AQ (γ:=Unit) h [7,8,9,10,11,12,13,14,15,16,17,18,19,20] [5] (fun j1 g=>[.slice 1 (List.map AVal.str j1) true]) (fun j1 g=>((n+1),[.int .i64 a1.kind,.str a1.text,.str a1.host,.int .i64 a1.port])::(n,[.str a0.subject,.slice 1 (List.map AVal.str a0.aliases) false,.slice 3 (List.map AY a0.properties) false,.slice 6 (List.map Aw a0.links) false])::m) (.q (.r []) .z) ?_ ?_⟩<;>clear h
 rintro j1 _ n4 hnn4 _ _ h
 refine AB (.q (.r []) .z) ?_
 refine L6 h ?_
 clear h
 intro l8 c h
 replace c:=congrArg (List.map (fun l=>AVal.slice 1 (List.map AVal.str l) false)) c
 simp only[List.map_cons,List.map_nil,eE]at c
 replace h:=AP c h
 obtain⟨y9,h⟩:=AA h
 simp(disch:=omega) only[vm,seval,h.1]
 refine⟨AHJ h.1.1 tD fun n10 hn10=>?_⟩
 exact tR
 intro k2 Jk2 hk2 h
 obtain⟨y5,h⟩:=AA h
 simp(disch:=omega) only[vm,seval,h.1]
 refine⟨AFw h.1.1 tD fun n6 hn6=>?_⟩
 obtain⟨hfk7,h⟩:=AR h
 simp(disch:=omega) only[vm,seval,h.1]
 refine⟨BM (σ:=(List (List UInt8))) (γ:=Unit) y5 hfk7 (fun xs i s=>Ck N k2 xs s) (fun i s g=>[.slice 1 (List.map AVal.str s) true,.int .i64 i]) (fun i s g=>((n+1),[.int .i64 a1.kind,.str a1.text,.str a1.host,.int .i64 a1.port])::(n,[.str a0.subject,.slice 1 (List.map AVal.str a0.aliases) false,.slice 3 (List.map AY a0.properties) false,.slice 6 (List.map Aw a0.links) false])::m) [7,12,13,14,15,16,17,18,19,20] [5,11] [] () h tD tD ?_ ?_⟩<;>clear h
 rintro s11 s5 _ nL0_1 hnL0_1 _ h
 change _∧Ck N k2 [] s5=_ at h
 rw[Ck]at h
 refine AB (.q (.r []) (.q (.c .z .z) (.q (.q (.r []) (.r [15])) (.r [])))) ?_
 exact tJ (hk2 s5 ())
 rintro xk7 xsk7 s11 s5 _ nL0_1 hnL0_1 _ h Jk7 hk7
 change _∧Ck N k2 (xk7::xsk7) s5=_ at h
 rw[Ck]at h
 refine AB (.q (.r []) (.q (.c .z .z) (.q (.q (.r []) (.r [15])) (.r [])))) ?_
 obtain⟨c,h⟩:=AR h
 try simp only[liE,seval]at c
 replace h:=AP c h
 exact tJ (hk7 (s5++[xk7.href]) ())
end Go.Proofs.YtjgdhjpafjpjgaaGreatDoor
