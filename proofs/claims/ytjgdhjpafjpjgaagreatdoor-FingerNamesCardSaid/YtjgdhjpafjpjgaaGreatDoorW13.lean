import Derived.Test.YtjgdhjpafjpjgaaGreatDoorVmFacts
import Derived.Test.YtjgdhjpafjpjgaaGreatDoorDefs
import Derived.Test.YtjgdhjpafjpjgaaGreatDoorVM2
import Derived.Test.YtjgdhjpafjpjgaaGreatDoorW2
import Derived.Test.YtjgdhjpafjpjgaaGreatDoorW5
import Derived.Test.YtjgdhjpafjpjgaaGreatDoorW6
import Derived.Test.YtjgdhjpafjpjgaaGreatDoorW8
import Derived.Test.YtjgdhjpafjpjgaaGreatDoorW10
import Derived.Test.YtjgdhjpafjpjgaaGreatDoorW11
import Derived.Test.YtjgdhjpafjpjgaaGreatDoorW12
set_option linter.unusedVariables false
set_option linter.unusedSimpArgs false
set_option maxHeartbeats 4000000
set_option maxRecDepth 100000
set_option linter.defProp false
namespace Go.Proofs.YtjgdhjpafjpjgaaGreatDoor
open Go.VM
variable{N n:Nat}{m:MS}{Q:PQ}{args:List AVal}
theorem XQ {a0 r} (h:K9 N a0=some r) (ha:args=[.str a0]) (hQ: ∀n',n≤n'→Gl (Q (.tuple [LA r.1,.int .i64 r.2]) ⟨m,n'⟩)):ACall vE 240 args ⟨m,n⟩ Q:=by
 rw[K9]at h
 subst ha
 refine ent hQ Tryz.func240 rfl Tryz.ntmps240 Tryz.results240 (.q (.r []) (.q (.r []) (.q (.q (.r []) (.c (.q (.r []) .z) .z)) (.q (.r []) (.q .z (.q (.r []) (.q (.q (.r []) (.c (.q (.r []) .z) .z)) (.q (.r []) .z)))))))) fun R hR=>?_
 replace h:=And.intro trivial h
 obtain⟨y1,h⟩:=AA h
 simp(disch:=omega) only[vm,seval,h.1]
 refine⟨AFt h.1.1 tD fun n2 hn2=>?_⟩
 rcases AC h with h|h
 exact tR
 obtain⟨y3,h⟩:=AA h
 simp(disch:=omega) only[vm,seval,h.1]
 refine⟨Ej h.1.1 tD fun n4 hn4=>?_⟩
 simp(disch:=omega) only[vm,seval,h.1]
 refine⟨AQ (γ:=Unit) h [23,24,25,26,27,28,29,30,31,32] [33] (fun j5 g=>[.bool j5]) (fun j5 g=>(n,[.str [],.str []])::m) (.r []) ?_ ?_⟩<;>clear h
 rintro j5 _ n8 hnn8 _ _ h
 refine AB (.c (.q (.r []) .z) .z) ?_
 rcases AC h with h|h
 exact tR
 obtain⟨y10,h⟩:=AA h
 simp(disch:=omega) only[vm,seval,h.1]
 refine⟨NQ h.1.1 tD fun n11 hn11=>?_⟩
 rcases AC h with h|h
 exact tR
 exact tR
 intro k6 Jk6 hk6 h
 rcases AC h with h|h
 exact tJ (hk6 true ())
 rcases AC h with h|h
 exact tJ (hk6 true ())
 obtain⟨x9,h⟩:=AA h
 exact tJ (hk6 ((AL x9)==37) ())
theorem YP {a0 r} (h:K3 N a0=some r) (ha:args=[.str a0]) (hQ: ∀n',n≤n'→Gl (Q (.tuple [K6 r.1,.int .i64 r.2]) ⟨m,n'⟩)):ACall vE 242 args ⟨m,n⟩ Q:=by
 rw[K3]at h
 subst ha
 refine ent hQ Tryz.func242 rfl Tryz.ntmps242 Tryz.results242 (.q (.r []) (.q (.q (.r []) (.c (.q (.r []) .z) .z)) (.q .z (.q (.r []) (.q .z .z))))) fun R hR=>?_
 replace h:=And.intro trivial h
 rcases AC h with h|h
 exact tR
 simp(disch:=omega) only[vm,seval,h.1]
 refine⟨AQ (γ:=Unit) h [15,16,17,18,19,20,21,22] [23] (fun j1 g=>[.bool j1]) (fun j1 g=>(n,[.str [],.str []])::m) (.r []) ?_ ?_⟩<;>clear h
 rintro j1 _ n4 hnn4 _ _ h
 refine AB (.c (.q (.r []) .z) .z) ?_
 rcases AC h with h|h
 exact tR
 obtain⟨x8,h⟩:=AA h
 obtain⟨y9,h⟩:=AA h
 simp(disch:=omega) only[vm,seval,h.1]
 refine⟨ET h.1.1 tD fun n10 hn10=>?_⟩
 simp(disch:=omega) only[vm,seval,h.1]
 refine⟨AQ (γ:=Unit) h [32,33,34,35,36] [37] (fun j11 g=>[.bool j11]) (fun j11 g=>(n,[.str [],.str []])::m) (.r []) ?_ ?_⟩<;>clear h
 rintro j11 _ n14 hnn14 _ _ h
 refine AB (.c (.q (.r []) .z) .z) ?_
 rcases AC h with h|h
 exact tR
 simp(disch:=omega) only[vm,seval,h.1]
 refine⟨AQ (γ:=Unit) h [3,7,8,39,40,41,42,43,44,45,46,47,48,49,50,51,52,53,54,55,56] [] (fun j17 g=>[]) (fun j17 g=>(n,[.str [],.str []])::m) (.q (.r []) .z) ?_ ?_⟩<;>clear h
 rintro j17 _ n20 hnn20 _ _ h
 refine AB (.q (.r []) (.q (.q (.r []) (.c (.q (.r []) .z) (.q (.r []) (.c (.q (.r []) .z) .z)))) (.q (.r []) (.q (.q (.r []) (.c (.q (.r []) .z) (.q (.r []) (.c (.q (.r []) .z) .z)))) (.q (.r []) .z))))) ?_
 obtain⟨y30,h⟩:=AA h
 simp(disch:=omega) only[vm,seval,h.1]
 refine⟨Fp h.1.1 tD fun n31 hn31=>?_⟩
 rcases AC h with h|h
 exact tR
 obtain⟨y32,h⟩:=AA h
 simp(disch:=omega) only[vm,seval,h.1]
 refine⟨ZV h.1.1 tD fun n33 hn33=>?_⟩
 rcases AC h with h|h
 obtain⟨y34,h⟩:=AA h
 simp(disch:=omega) only[vm,seval,h.1]
 refine⟨NQ h.1.1 tD fun n35 hn35=>?_⟩
 rcases AC h with h|h
 exact tR
 obtain⟨y36,h⟩:=AA h
 simp(disch:=omega) only[vm,seval,h.1]
 refine⟨O1 h.1.1 tD fun n37 hn37=>?_⟩
 rcases AC h with h|h
 exact tR
 exact tR
 exact tR
 intro k18 Jk18 hk18 h
 obtain⟨hfk21,h⟩:=AR h
 simp(disch:=omega) only[vm,seval,h.1]
 refine⟨BM (σ:=Unit) (γ:=Unit) y9.1 hfk21 (fun xs i s=>Dz N k18 xs) (fun i s g=>[.int .i64 i]) (fun i s g=>(n,[.str [],.str []])::m) [3,7,8,42,43,44,45,46,47,48,49,50,51,52,53,54,55,56] [41] () () h tD tD ?_ ?_⟩<;>clear h
 rintro s41 _ _ nL0_1 hnL0_1 _ h
 change _∧Dz N k18 []=_ at h
 rw[Dz]at h
 refine AB (.q (.r []) (.q (.c .z .z) (.q (.q (.r []) (.q (.r []) .z)) (.r [])))) ?_
 exact tJ (hk18 () ())
 rintro xk21 xsk21 s41 _ _ nL0_1 hnL0_1 _ h Jk21 hk21
 change _∧Dz N k18 (xk21::xsk21)=_ at h
 rw[Dz]at h
 refine AB (.q (.r []) (.q (.c .z .z) (.q (.q (.r []) (.q (.r []) .z)) (.r [])))) ?_
 simp(disch:=omega) only[vm,seval,h.1]
 refine⟨AQ (γ:=Unit) h [47,48,49,50,51,52,53] [54] (fun j22 g=>[.bool j22]) (fun j22 g=>(n,[.str [],.str []])::m) (.r []) ?_ ?_⟩<;>clear h
 rintro j22 _ n25 hnn25 _ _ h
 refine AB (.c (.q (.r []) .z) .z) ?_
 rcases AC h with h|h
 exact tR
 exact tJ (hk21 () ())
 intro k23 Jk23 hk23 h
 obtain⟨y26,h⟩:=AA h
 simp(disch:=omega) only[vm,seval,h.1]
 refine⟨Ee h.1.1 tD fun n27 hn27=>?_⟩
 rcases AC h with h|h
 exact tJ (hk23 false ())
 obtain⟨y28,h⟩:=AA h
 simp(disch:=omega) only[vm,seval,h.1]
 refine⟨Bq h.1.1 tD fun n29 hn29=>?_⟩
 exact tJ (hk23 (decide (y28<0)) ())
 intro k12 Jk12 hk12 h
 rcases AC h with h|h
 obtain⟨y15,h⟩:=AA h
 simp(disch:=omega) only[vm,seval,h.1]
 refine⟨NM h.1.1 tD fun n16 hn16=>?_⟩
 exact tJ (hk12 y15 ())
 exact tJ (hk12 true ())
 intro k2 Jk2 hk2 h
 rcases AC h with h|h
 exact tJ (hk2 true ())
 obtain⟨x5,h⟩:=AA h
 obtain⟨y6,h⟩:=AA h
 simp(disch:=omega) only[vm,seval,h.1]
 refine⟨Lj h.1.1 tD fun n7 hn7=>?_⟩
 exact tJ (hk2 (!y6) ())
theorem QS {a0 r} (h:Jl N a0=some r) (ha:args=[.str a0]) (hQ: ∀n',n≤n'→Gl (Q (.tuple [DY r.1,.int .i64 r.2]) ⟨m,n'⟩)):ACall vE 108 args ⟨m,n⟩ Q:=by
 rw[Jl]at h
 subst ha
 refine ent hQ Tryz.func108 rfl Tryz.ntmps108 Tryz.results108 (.q (.r []) (.q (.r []) (.q (.r []) (.q (.q (.r []) (.c (.q (.r []) .z) .z)) (.q (.r []) .z))))) fun R hR=>?_
 replace h:=And.intro trivial h
 obtain⟨y1,h⟩:=AA h
 simp(disch:=omega) only[vm,seval,h.1]
 refine⟨ET h.1.1 tD fun n2 hn2=>?_⟩
 obtain⟨y3,h⟩:=AA h
 simp(disch:=omega) only[vm,seval,h.1]
 refine⟨NQ h.1.1 tD fun n4 hn4=>?_⟩
 rcases AC h with h|h
 exact tR
 simp(disch:=omega) only[vm,seval,h.1]
 refine⟨AQ (γ:=Unit) h [3,8,27,28,29,30,31,32,33,34,35,36,37] [] (fun j5 g=>[]) (fun j5 g=>(n4,[.str y3.1,.int .i64 j5])::(n,[.str [],.int .i64 0])::m) (.q (.r []) (.c (.q (.r []) (.q (.r []) (.c (.q (.r []) .z) .z))) .z)) ?_ ?_⟩<;>clear h
 rintro j5 _ n8 hnn8 _ _ h
 refine AB .z ?_
 simp(disch:=omega) only[vm,seval,h.1]
 refine⟨AQ (γ:=Unit) h [38,39,40,41] [] (fun j11 g=>[]) (fun j11 g=>(n4,[.str y3.1,.int .i64 j11])::(n,[.str [],.int .i64 0])::m) (.q (.r []) (.c (.r []) .z)) ?_ ?_⟩<;>clear h
 rintro j11 _ n14 hnn14 _ _ h
 refine AB (.q (.r []) .z) ?_
 exact tR
 intro k12 Jk12 hk12 h
 rcases AC h with h|h
 exact tJ (hk12 0 ())
 exact tJ (hk12 j5 ())
 intro k6 Jk6 hk6 h
 rcases AC h with h|h
 obtain⟨y9,h⟩:=AA h
 simp(disch:=omega) only[vm,seval,h.1]
 refine⟨ADq h.1.1 tD fun n10 hn10=>?_⟩
 rcases AC h with h|h
 exact tR
 exact tJ (hk6 y9.1 ())
 exact tJ (hk6 0 ())
theorem AEC {a0 r} (h:MH N a0=some r) (ha:args=[.str a0]) (hQ: ∀n',n≤n'→Gl (Q (.tuple [A9 r.1,.int .i64 r.2]) ⟨m,n'⟩)):ACall vE 71 args ⟨m,n⟩ Q:=by
 rw[MH]at h
 subst ha
 refine ent hQ Tryz.func71 rfl Tryz.ntmps71 Tryz.results71 (.q (.r []) (.q (.r []) (.q (.q (.r []) (.c (.q (.r []) .z) .z)) (.q .z .z)))) fun R hR=>?_
 replace h:=And.intro trivial h
 obtain⟨y1,h⟩:=AA h
 simp(disch:=omega) only[vm,seval,h.1]
 refine⟨O7 h.1.1 tD fun n2 hn2=>?_⟩
 rcases AC h with h|h
 exact tR
 obtain⟨y3,h⟩:=AA h
 have cy3:=h.1.1
 simp(disch:=omega) only[vm,seval,h.1]
 refine⟨BI [] (.take 0 (.take 2 (.take 3 (.take 4 (.take 5 (.alt 1 [5,4,3,2] (.alt 6 [4,2,0] (.alt 7 [] (.alt 8 [] (.done) (.stop)) (.stop)) (.stop)) (.stop))))))) Au (by kernel_rfl) ?_⟩
 simp(disch:=omega) only[vm,seval,h.1]
 refine⟨G7 cy3 tD fun n4 hn4=>?_⟩
 exact tR
theorem VG {a0 r} (h:J3 N a0=some r) (ha:args=[EF a0]) (hQ: ∀n',n≤n'→Gl (Q (.tuple [Dt r.1,.int .i64 r.2]) ⟨m,n'⟩)):ACall vE 188 args ⟨m,n⟩ Q:=by
 rw[J3]at h
 subst ha
 refine ent hQ Tryz.func188 rfl Tryz.ntmps188 Tryz.results188 (.q (.r []) (.q (.r []) (.q (.q (.r []) (.c (.q (.r []) .z) .z)) (.q (.r []) .z)))) fun R hR=>?_
 replace h:=And.intro trivial h
 obtain⟨y1,h⟩:=AA h
 simp(disch:=omega) only[vm,seval,h.1]
 refine⟨PI h.1.1 tD fun n2 hn2=>?_⟩
 rcases AC h with h|h
 exact tR
 simp(disch:=omega) only[vm,seval,h.1]
 refine⟨AQ (γ:=Unit) h [3,9,10,11,23,24,25,26,27,28,29,30,31,32,33,34,35,36,37,38,39,40,41,42,43,44,45,46,47,48,49,50,51] [7] (fun j3 g=>[.str j3]) (fun j3 g=>(n2,[.str y1.2.1.host,.int .i64 y1.2.1.port])::((n+1),[.str [],.int .i64 0,.str [],.str [],.str [],.bool false,.bool false])::(n,[.str a0.method,.str a0.iD])::m) (.q (.r []) .z) ?_ ?_⟩<;>clear h
 rintro j3 _ n6 hnn6 _ _ h
 refine AB .z ?_
 simp(disch:=omega) only[vm,seval,h.1]
 refine⟨AQ (γ:=Unit) h [52,53,54] [7] (fun j17 g=>[.str j17]) (fun j17 g=>(n2,[.str y1.2.1.host,.int .i64 y1.2.1.port])::((n+1),[.str [],.int .i64 0,.str [],.str [],.str [],.bool false,.bool false])::(n,[.str a0.method,.str a0.iD])::m) (.q (.r []) (.c (.r []) .z)) ?_ ?_⟩<;>clear h
 rintro j17 _ n20 hnn20 _ _ h
 refine AB (.q (.r []) (.q (.q (.r []) (.c (.q (.r []) .z) .z)) (.q (.r []) .z))) ?_
 obtain⟨c,h⟩:=AR h
 try simp only[liE,seval]at c
 replace h:=AP c h
 obtain⟨y21,h⟩:=AA h
 simp(disch:=omega) only[vm,seval,h.1]
 refine⟨G7 h.1.1 tD fun n22 hn22=>?_⟩
 rcases AC h with h|h
 exact tR
 exact tR
 intro k18 Jk18 hk18 h
 rcases AC h with h|h
 exact tJ (hk18 ([47,46,119,101,108,108,45,107,110,111,119,110]:List UInt8) ())
 exact tJ (hk18 j3 ())
 intro k4 Jk4 hk4 h
 obtain⟨x7,h⟩:=AA h
 obtain⟨hfk8,h⟩:=AR h
 simp(disch:=omega) only[vm,seval,h.1]
 refine⟨BM (σ:=(List UInt8)) (γ:=Unit) x7 hfk8 (fun xs i s=>DI N k4 xs s) (fun i s g=>[.str s,.int .i64 i]) (fun i s g=>(n2,[.str y1.2.1.host,.int .i64 y1.2.1.port])::((n+1),[.str [],.int .i64 0,.str [],.str [],.str [],.bool false,.bool false])::(n,[.str a0.method,.str a0.iD])::m) [3,9,10,11,27,28,29,30,31,32,33,34,35,36,37,38,39,40,41,42,43,44,45,46,47,48,49,50,51] [7,26] [] () h tD tD ?_ ?_⟩<;>clear h
 rintro s26 s7 _ nL0_1 hnL0_1 _ h
 change _∧DI N k4 [] s7=_ at h
 rw[DI]at h
 refine AB (.q (.r []) (.q (.c .z .z) (.q (.q (.r []) (.q (.r []) (.q .z (.r [])))) (.r [])))) ?_
 exact tJ (hk4 s7 ())
 rintro xk8 xsk8 s26 s7 _ nL0_1 hnL0_1 _ h Jk8 hk8
 change _∧DI N k4 (xk8::xsk8) s7=_ at h
 rw[DI]at h
 refine AB (.q (.r []) (.q (.c .z .z) (.q (.q (.r []) (.q (.r []) (.q .z (.r [])))) (.r [])))) ?_
 obtain⟨y9,h⟩:=AA h
 simp(disch:=omega) only[vm,seval,h.1]
 refine⟨Fv h.1.1 tD fun n10 hn10=>?_⟩
 simp(disch:=omega) only[vm,seval,h.1]
 refine⟨AQ (γ:=Unit) h [35,36,37,38,39,40,41,42,43] [44] (fun j11 g=>[.bool j11]) (fun j11 g=>(n2,[.str y1.2.1.host,.int .i64 y1.2.1.port])::((n+1),[.str [],.int .i64 0,.str [],.str [],.str [],.bool false,.bool false])::(n,[.str a0.method,.str a0.iD])::m) (.r []) ?_ ?_⟩<;>clear h
 rintro j11 _ n14 hnn14 _ _ h
 refine AB (.c (.q (.r []) .z) .z) ?_
 rcases AC h with h|h
 exact tR
 obtain⟨y15,h⟩:=AA h
 simp(disch:=omega) only[vm,seval,h.1]
 refine⟨Ni h.1.1 tD fun n16 hn16=>?_⟩
 obtain⟨c,h⟩:=AR h
 try simp only[liE,seval]at c
 replace h:=AP c h
 obtain⟨c,h⟩:=AR h
 try simp only[liE,seval]at c
 replace h:=AP c h
 exact tJ (hk8 (s7++(([47]:List UInt8)++y15)) ())
 intro k12 Jk12 hk12 h
 rcases AC h with h|h
 exact tJ (hk12 true ())
 rcases AC h with h|h
 exact tJ (hk12 true ())
 exact tJ (hk12 (y9.1==([46,46]:List UInt8)) ())
theorem Ur {a0 r} (h:KG N a0=some r) (ha:args=[Dt a0]) (hQ: ∀n',n≤n'→Gl (Q (.bool r) ⟨m,n'⟩)):ACall vE 180 args ⟨m,n⟩ Q:=by
 rw[KG]at h
 subst ha
 refine ent hQ Tryz.func180 rfl Tryz.ntmps180 Tryz.results180 (.q (.r []) (.q (.r []) (.q (.r []) .z))) fun R hR=>?_
 replace h:=And.intro trivial h
 obtain⟨y1,h⟩:=AA h
 simp(disch:=omega) only[vm,seval,h.1]
 refine⟨G7 h.1.1 tD fun n2 hn2=>?_⟩
 obtain⟨y3,h⟩:=AA h
 simp(disch:=omega) only[vm,seval,h.1]
 refine⟨O7 h.1.1 tD fun n4 hn4=>?_⟩
 rcases AC h with h|h
 exact tR
 exact tR
theorem QQ {a0 r} (h:GM N a0=some r) (ha:args=[EF a0]) (hQ: ∀n',n≤n'→Gl (Q (.tuple [DY r.1,.int .i64 r.2]) ⟨m,n'⟩)):ACall vE 131 args ⟨m,n⟩ Q:=by
 rw[GM]at h
 subst ha
 refine ent hQ Tryz.func131 rfl Tryz.ntmps131 Tryz.results131 (.q (.r []) (.q (.r []) (.q (.r []) .z))) fun R hR=>?_
 replace h:=And.intro trivial h
 obtain⟨y1,h⟩:=AA h
 simp(disch:=omega) only[vm,seval,h.1]
 refine⟨PI h.1.1 tD fun n2 hn2=>?_⟩
 exact tR
end Go.Proofs.YtjgdhjpafjpjgaaGreatDoor
