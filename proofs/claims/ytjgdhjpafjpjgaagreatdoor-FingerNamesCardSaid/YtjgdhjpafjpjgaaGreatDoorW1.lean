import Derived.Test.YtjgdhjpafjpjgaaGreatDoorVmFacts
import Derived.Test.YtjgdhjpafjpjgaaGreatDoorDefs
import Derived.Test.YtjgdhjpafjpjgaaGreatDoorVM2
import Derived.Test.YtjgdhjpafjpjgaaGreatDoorVM5
set_option linter.unusedVariables false
set_option linter.unusedSimpArgs false
set_option maxHeartbeats 4000000
set_option maxRecDepth 100000
set_option linter.defProp false
namespace Go.Proofs.YtjgdhjpafjpjgaaGreatDoor
open Go.VM
variable{N n:Nat}{m:MS}{Q:PQ}{args:List AVal}
theorem O5 {a0 r} (h:Iw N a0=some r) (ha:args=[.int .u8 a0]) (hQ: ∀n',n≤n'→Gl (Q (.int .u8 r) ⟨m,n'⟩)):ACall vE 142 args ⟨m,n⟩ Q:=by
 rw[Iw]at h
 subst ha
 refine ent hQ Tryz.func142 rfl Tryz.ntmps142 Tryz.results142 (.q (.r []) (.q (.q (.r []) (.c (.q (.r []) .z) (.q (.r []) (.c (.q (.r []) .z) .z)))) (.q (.r []) .z))) fun R hR=>?_
 replace h:=And.intro trivial h
 rcases AC h with h|h
 exact tR
 rcases AC h with h|h
 exact tR
 exact tR
theorem Gb {a0 a1 r} (h:Ea N a0 a1=some r) (ha:args=[.str a0,.int .u8 a1]) (hQ: ∀n',n≤n'→Gl (Q (.slice 1 (List.map AVal.str r) true) ⟨m,n'⟩)):ACall vE 40 args ⟨m,n⟩ Q:=by
 rw[Ea]at h
 subst ha
 refine ent hQ Tryz.func40 rfl Tryz.ntmps40 Tryz.results40 (.q (.r []) (.q (.r []) (.q (.r []) .z))) fun R hR=>?_
 replace h:=And.intro trivial h
 simp(disch:=omega) only[vm,seval,h.1]
 refine⟨AQ (γ:=Unit) h [7,8,9,10,11,12,13,14,15,16,17,18,19,20,21,22,23,24,25,26,27] [5,6] (fun j1 g=>[.slice 1 (List.map AVal.str j1.1) true,.int .i64 j1.2]) (fun j1 g=>m) (.q (.r []) .z) ?_ ?_⟩<;>clear h
 rintro j1 _ n4 hnn4 _ _ h
 refine AB (.q (.r [28]) .z) ?_
 obtain⟨x11,h⟩:=AA h
 obtain⟨c,h⟩:=AR h
 try simp only[liE,seval]at c
 replace h:=AP c h
 exact tR
 intro k2 Jk2 hk2 h
 obtain⟨hfk5,h⟩:=AR h
 simp(disch:=omega) only[vm,seval,h.1]
 refine⟨BM (σ:=(List (List UInt8))×Int) (γ:=Unit) a0 hfk5 (fun xs i s=>DT N a0 a1 k2 xs i s.1 s.2) (fun i s g=>[.slice 1 (List.map AVal.str s.1) true,.int .i64 s.2,.int .i64 i]) (fun i s g=>m) [8,9,10,11,12,13,14,15,16,17,18,19,20,21,22,23,24,25,26,27] [5,6,7] ([],0) () h tD tD ?_ ?_⟩<;>clear h
 rintro s7 ⟨s5,s6⟩ _ nL0_1 hnL0_1 _ h
 change _∧DT N a0 a1 k2 [] s7 s5 s6=_ at h
 rw[DT]at h
 refine AB (.q (.q (.r []) (.c .z .z)) .z) ?_
 exact tJ (hk2 (s5,s6) ())
 rintro xk5 xsk5 s7 ⟨s5,s6⟩ _ nL0_1 hnL0_1 _ h Jk5 hk5
 change _∧DT N a0 a1 k2 (xk5::xsk5) s7 s5 s6=_ at h
 rw[DT]at h
 refine AB (.q (.q (.r []) (.c .z .z)) .z) ?_
 simp(disch:=omega) only[vm,seval,h.1]
 refine⟨AQ (γ:=Unit) h [14,15,16,17,18,19,20,21,22,23,24,25,26,27] [5,6] (fun j6 g=>[.slice 1 (List.map AVal.str j6.1) true,.int .i64 j6.2]) (fun j6 g=>m) (.q (.r []) (.c (.r [19]) .z)) ?_ ?_⟩<;>clear h
 rintro j6 _ n9 hnn9 _ _ h
 refine AB (.r []) ?_
 exact tJ (hk5 (j6.1,j6.2) ())
 intro k7 Jk7 hk7 h
 rcases AC h with h|h
 obtain⟨x10,h⟩:=AA h
 obtain⟨c,h⟩:=AR h
 try simp only[liE,seval]at c
 replace h:=AP c h
 exact tJ (hk7 ((s5++[x10]),(s7+1)) ())
 exact tJ (hk7 (s5,s6) ())
theorem UM {a0 r} (h:JK N a0=some r) (ha:args=[LA a0]) (hQ: ∀n',n≤n'→Gl (Q (.str r) ⟨m,n'⟩)):ACall vE 68 args ⟨m,n⟩ Q:=by
 rw[JK]at h
 subst ha
 refine ent hQ Tryz.func68 rfl Tryz.ntmps68 Tryz.results68 (.q (.r []) (.q (.r []) .z)) fun R hR=>?_
 replace h:=And.intro trivial h
 obtain⟨c,h⟩:=AR h
 try simp only[liE,seval]at c
 replace h:=AP c h
 obtain⟨c,h⟩:=AR h
 try simp only[liE,seval]at c
 replace h:=AP c h
 obtain⟨c,h⟩:=AR h
 try simp only[liE,seval]at c
 replace h:=AP c h
 exact tR
theorem Fw {a0 a1 r} (h:EE N a0 a1=some r) (ha:args=[.str a0,.str a1]) (hQ: ∀n',n≤n'→Gl (Q (.bool r) ⟨m,n'⟩)):ACall vE 171 args ⟨m,n⟩ Q:=by
 rw[EE]at h
 subst ha
 refine ent hQ Tryz.func171 rfl Tryz.ntmps171 Tryz.results171 (.q (.r []) (.q (.r []) .z)) fun R hR=>?_
 replace h:=And.intro trivial h
 rcases AC h with h|h
 obtain⟨x1,h⟩:=AA h
 exact tR
 exact tR
theorem NE {a0 r} (h:Gc N a0=some r) (ha:args=[.str a0]) (hQ: ∀n',n≤n'→Gl (Q (.str r) ⟨m,n'⟩)):ACall vE 219 args ⟨m,n⟩ Q:=by
 rw[Gc]at h
 subst ha
 refine ent hQ Tryz.func219 rfl Tryz.ntmps219 Tryz.results219 (.q (.r []) .z) fun R hR=>?_
 replace h:=And.intro trivial h
 simp(disch:=omega) only[vm,seval,h.1]
 refine⟨AQ (γ:=Unit) h [2,3,4,5,6,7,8,9,10,11,12,13,14,15,16,17] [] (fun j1 g=>[]) (fun j1 g=>m) (.q (.r []) .z) ?_ ?_⟩<;>clear h
 rintro j1 _ n4 hnn4 _ _ h
 refine AB (.q (.r []) .z) ?_
 exact tR
 intro k2 Jk2 hk2 h
 simp(disch:=omega) only[vm,seval,h.1]
 refine⟨Kq (σ:=Int) (γ:=Unit) (fun k s=>Dq N a0 k2 k s) (fun s g=>[.int .i64 s]) (fun s g=>m) [2,7,8,9,10,11,12,13,14,15,16,17] [3] (wr .i64 ((a0.length:Int)-1)) () h (fun _=>rfl) tD tD ?_⟩
 clear h
 rintro k5 s3 _ nL0_1 hnL0_1 _ h Jk5 hk5
 change _∧Dq N a0 k2 (k5+1) s3=_ at h
 rw[Dq]at h
 refine AB (.q (.q (.r []) (.c .z .z)) (.q (.q (.r []) (.c (.q (.r []) .z) .z)) (.r []))) ?_
 rcases AC h with h|h
 obtain⟨x6,h⟩:=AA h
 rcases AC h with h|h
 obtain⟨x7,h⟩:=AA h
 exact tR
 exact tJ (hk5 (wr .i64 (s3-1)) ())
 exact tJ (hk2 () ())
theorem JE {a0 r} (h:De N a0=some r) (ha:args=[EF a0]) (hQ: ∀n',n≤n'→Gl (Q (.str r) ⟨m,n'⟩)):ACall vE 57 args ⟨m,n⟩ Q:=by
 rw[De]at h
 subst ha
 refine ent hQ Tryz.func57 rfl Tryz.ntmps57 Tryz.results57 (.q (.r []) (.q (.r []) .z)) fun R hR=>?_
 replace h:=And.intro trivial h
 obtain⟨c,h⟩:=AR h
 try simp only[liE,seval]at c
 replace h:=AP c h
 obtain⟨c,h⟩:=AR h
 try simp only[liE,seval]at c
 replace h:=AP c h
 obtain⟨c,h⟩:=AR h
 try simp only[liE,seval]at c
 replace h:=AP c h
 exact tR
theorem Ma {a0 a1 r}{i0:Nat} (h:Fj N a0 a1=some r) (ha:args=[.ptr i0 0,.int .i64 a1]) (hi0:Bo m i0=some ([.slice 1 (List.map (AVal.int .u8) a0.l) false])) (hQ: ∀n',n≤n'→Gl (Q (.int .i64 r.1) ⟨CJ m i0 ([.slice 1 (List.map (AVal.int .u8) r.2.l) false]),n'⟩)):ACall vE 74 args ⟨m,n⟩ Q:=by
 rw[Fj]at h
 subst ha
 refine ACall.front hi0 fun hin=>ent (fun n' k=>⟨_,rfl,(hQ n' k).go⟩) Tryz.func74 rfl Tryz.ntmps74 Tryz.results74 (.q (.r []) (.q .z (.q (.r []) (.q (.r []) (.q (.r []) .z))))) fun R hR=>?_
 replace h:=And.intro trivial h
 simp(disch:=omega) only[vm,seval,h.1]
 refine⟨AQ (γ:=Unit) h [6,7,8,9,10,11,12,13,14] [15] (fun j1 g=>[.bool j1]) (fun j1 g=>(i0,[.slice 1 (List.map (AVal.int .u8) a0.l) false])::DW m i0) (.r []) ?_ ?_⟩<;>clear h
 rintro j1 _ n4 hnn4 _ _ h
 refine AB (.c (.q (.r []) .z) .z) ?_
 rcases AC h with h|h
 exact tR
 obtain⟨x5,h⟩:=AA h
 obtain⟨x6,h⟩:=AA h
 obtain⟨c,h⟩:=AR h
 try simp only[liE,seval]at c
 replace h:=AP c h
 exact tR
 intro k2 Jk2 hk2 h
 rcases AC h with h|h
 exact tJ (hk2 true ())
 exact tJ (hk2 (decide (a1≤1)) ())
theorem AFu {a0 r} (h:QR N a0=some r) (ha:args=[.slice 1 (List.map (AVal.int .u8) a0) false]) (hQ: ∀i n',n≤i→i<n'→Gl (Q (.ptr i 0) ⟨(i,[.slice 1 (List.map (AVal.int .u8) r.l) false])::m,n'⟩)):ACall vE 31 args ⟨m,n⟩ Q:=by
 rw[QR]at h
 subst ha
 refine AL9 Tryz.func31 rfl Tryz.ntmps31 Tryz.results31 (.q (.r []) (.q (.r []) .z)) fun R hR=>?_
 replace h:=And.intro trivial h
 obtain⟨x1,h⟩:=AA h
 obtain⟨H,h⟩:=h
 cases h
 simp(disch:=omega) only[vm,seval,H]
 refine⟨(hR _ _ [.ptr n 0] ((n,[.slice 1 (List.map (AVal.int .u8) x1) false])::m) _ (n+1) (by first|(simp(disch:=omega) only[vm,seval,H];done)|(simp(disch:=omega) only[vm,seval,H];rfl)) slr (by omega) (hQ (n) (n+1) (by omega) (by omega)).go).1⟩
theorem AGC {a0 r} (h:Ny N a0=some r) (ha:args=[Hm a0]) (hQ: ∀n',n≤n'→Gl (Q (.bool r) ⟨m,n'⟩)):ACall vE 23 args ⟨m,n⟩ Q:=by
 rw[Ny]at h
 subst ha
 refine ent hQ Tryz.func23 rfl Tryz.ntmps23 Tryz.results23 (.q (.r []) (.q .z .z)) fun R hR=>?_
 replace h:=And.intro trivial h
 simp(disch:=omega) only[vm,seval,h.1]
 refine⟨AQ (γ:=Unit) h [7,8,9,10,11,12,13,14,15,16,17,18,19,20,21,22,23,24,25,26,27] [28] (fun j1 g=>[.bool j1]) (fun j1 g=>(n,[.str a0.subject,.slice 1 (List.map AVal.str a0.aliases) false,.slice 3 (List.map AY a0.properties) false,.slice 6 (List.map Aw a0.links) false])::m) (.r []) ?_ ?_⟩<;>clear h
 rintro j1 _ n4 hnn4 _ _ h
 refine AB (.c (.q (.r []) .z) .z) ?_
 rcases AC h with h|h
 exact tR
 simp(disch:=omega) only[vm,seval,h.1]
 refine⟨AQ (γ:=Unit) h [2,4,29,30,31,32,33,34,35,36,37,38,39] [] (fun j5 g=>[]) (fun j5 g=>(n,[.str a0.subject,.slice 1 (List.map AVal.str a0.aliases) false,.slice 3 (List.map AY a0.properties) false,.slice 6 (List.map Aw a0.links) false])::m) (.q (.r []) .z) ?_ ?_⟩<;>clear h
 rintro j5 _ n8 hnn8 _ _ h
 refine AB .z ?_
 simp(disch:=omega) only[vm,seval,h.1]
 refine⟨AQ (γ:=Unit) h [2,6,40,41,42,43,44,45,46,47,48,49,50,51,52,53,54,55,56,57,58,59,60,61,62,63,64,65,66,67,68,69,70,71,72,73,74,75] [] (fun j10 g=>[]) (fun j10 g=>(n,[.str a0.subject,.slice 1 (List.map AVal.str a0.aliases) false,.slice 3 (List.map AY a0.properties) false,.slice 6 (List.map Aw a0.links) false])::m) (.q (.r []) .z) ?_ ?_⟩<;>clear h
 rintro j10 _ n13 hnn13 _ _ h
 refine AB (.q (.r []) .z) ?_
 exact tR
 intro k11 Jk11 hk11 h
 obtain⟨hfk14,h⟩:=AR h
 simp(disch:=omega) only[vm,seval,h.1]
 refine⟨BM (σ:=Unit) (γ:=Unit) a0.links hfk14 (fun xs i s=>Er N k11 xs) (fun i s g=>[.int .i64 i]) (fun i s g=>(n,[.str a0.subject,.slice 1 (List.map AVal.str a0.aliases) false,.slice 3 (List.map AY a0.properties) false,.slice 6 (List.map Aw a0.links) false])::m) [2,6,44,45,46,47,48,49,50,51,52,53,54,55,56,57,58,59,60,61,62,63,64,65,66,67,68,69,70,71,72,73,74,75] [43] () () h tD tD ?_ ?_⟩<;>clear h
 rintro s43 _ _ nL1_1 hnL1_1 _ h
 change _∧Er N k11 []=_ at h
 rw[Er]at h
 refine AB (.q (.r []) (.q (.c .z .z) (.q (.q (.r []) .z) (.r [])))) ?_
 exact tJ (hk11 () ())
 rintro xk14 xsk14 s43 _ _ nL1_1 hnL1_1 _ h Jk14 hk14
 change _∧Er N k11 (xk14::xsk14)=_ at h
 rw[Er]at h
 refine AB (.q (.r []) (.q (.c .z .z) (.q (.q (.r []) .z) (.r [])))) ?_
 simp(disch:=omega) only[vm,seval,h.1]
 refine⟨AQ (γ:=Unit) h [47,48,49,50,51,52,53,54,55,56,57,58,59,60,61,62,63,64,65,66,67,68,69,70,71,72,73] [74] (fun j15 g=>[.bool j15]) (fun j15 g=>(nL1_1,[.str xk14.rel,.str xk14.type_,.str xk14.href,.str xk14.template,.slice 3 (List.map AY xk14.titles) false,.slice 3 (List.map AY xk14.properties) false])::(n,[.str a0.subject,.slice 1 (List.map AVal.str a0.aliases) false,.slice 3 (List.map AY a0.properties) false,.slice 6 (List.map Aw a0.links) false])::m) (.r []) ?_ ?_⟩<;>clear h
 rintro j15 _ n18 hnn18 _ _ h
 refine AB (.c (.q (.r []) .z) .z) ?_
 rcases AC h with h|h
 exact tR
 exact tJ (hk14 () ())
 intro k16 Jk16 hk16 h
 rcases AC h with h|h
 exact tJ (hk16 true ())
 rcases AC h with h|h
 exact tJ (hk16 true ())
 exact tJ (hk16 (decide ((xk14.properties.length:Int)>70)) ())
 intro k6 Jk6 hk6 h
 obtain⟨hfk9,h⟩:=AR h
 simp(disch:=omega) only[vm,seval,h.1]
 refine⟨BM (σ:=Unit) (γ:=Unit) a0.aliases hfk9 (fun xs i s=>Ev N k6 xs) (fun i s g=>[.int .i64 i]) (fun i s g=>(n,[.str a0.subject,.slice 1 (List.map AVal.str a0.aliases) false,.slice 3 (List.map AY a0.properties) false,.slice 6 (List.map Aw a0.links) false])::m) [2,4,33,34,35,36,37,38,39] [32] () () h tD tD ?_ ?_⟩<;>clear h
 rintro s32 _ _ nL0_1 hnL0_1 _ h
 change _∧Ev N k6 []=_ at h
 rw[Ev]at h
 refine AB (.q (.r []) (.q (.c .z .z) (.q (.q (.r []) (.q (.r []) (.c (.q (.r []) .z) .z))) (.r [])))) ?_
 exact tJ (hk6 () ())
 rintro xk9 xsk9 s32 _ _ nL0_1 hnL0_1 _ h Jk9 hk9
 change _∧Ev N k6 (xk9::xsk9)=_ at h
 rw[Ev]at h
 refine AB (.q (.r []) (.q (.c .z .z) (.q (.q (.r []) (.q (.r []) (.c (.q (.r []) .z) .z))) (.r [])))) ?_
 rcases AC h with h|h
 exact tR
 exact tJ (hk9 () ())
 intro k2 Jk2 hk2 h
 rcases AC h with h|h
 exact tJ (hk2 true ())
 rcases AC h with h|h
 exact tJ (hk2 true ())
 rcases AC h with h|h
 exact tJ (hk2 true ())
 exact tJ (hk2 (decide ((a0.properties.length:Int)>70)) ())
theorem I6 {a0 a1 r} (h:FJ N a0 a1=some r) (ha:args=[.slice 4 (List.map A9 a0) false,.slice 4 (List.map A9 a1) false]) (hQ: ∀n',n≤n'→Gl (Q (.bool r) ⟨m,n'⟩)):ACall vE 24 args ⟨m,n⟩ Q:=by
 rw[FJ]at h
 subst ha
 refine ent hQ Tryz.func24 rfl Tryz.ntmps24 Tryz.results24 (.q (.r []) (.q (.q (.r []) (.c (.q (.r []) .z) .z)) .z)) fun R hR=>?_
 replace h:=And.intro trivial h
 rcases AC h with h|h
 exact tR
 simp(disch:=omega) only[vm,seval,h.1]
 refine⟨AQ (γ:=Unit) h [4,5,11,12,13,14,15,16,17,18,19,20,21,22,23,24,25] [] (fun j1 g=>[]) (fun j1 g=>m) (.q (.r []) .z) ?_ ?_⟩<;>clear h
 rintro j1 _ n4 hnn4 _ _ h
 refine AB (.q (.r []) .z) ?_
 exact tR
 intro k2 Jk2 hk2 h
 obtain⟨hfk5,h⟩:=AR h
 simp(disch:=omega) only[vm,seval,h.1]
 refine⟨BM (σ:=Unit) (γ:=Unit) a0 hfk5 (fun xs i s=>Bl N a1 k2 xs i) (fun i s g=>[.int .i64 i]) (fun i s g=>m) [4,5,14,15,16,17,18,19,20,21,22,23,24,25] [13] () () h tD tD ?_ ?_⟩<;>clear h
 rintro s13 _ _ nL0_1 hnL0_1 _ h
 change _∧Bl N a1 k2 [] s13=_ at h
 rw[Bl]at h
 refine AB (.q (.r []) (.q (.c .z .z) (.q (.q (.r []) (.q .z (.c (.q (.r []) .z) .z))) (.r [])))) ?_
 exact tJ (hk2 () ())
 rintro xk5 xsk5 s13 _ _ nL0_1 hnL0_1 _ h Jk5 hk5
 change _∧Bl N a1 k2 (xk5::xsk5) s13=_ at h
 rw[Bl]at h
 refine AB (.q (.r []) (.q (.c .z .z) (.q (.q (.r []) (.q .z (.c (.q (.r []) .z) .z))) (.r [])))) ?_
 obtain⟨x6,h⟩:=AA h
 simp(disch:=omega) only[vm,seval,h.1]
 refine⟨BI [] (.take 0 (.take 1 (.take 2 (.take 3 (.take 4 (.take 5 (.take 6 (.take 7 (.take 8 (.done)))))))))) Au (by kernel_rfl) ?_⟩
 rcases AC h with h|h
 exact tJ (hk5 () ())
 exact tR
theorem AFw {a0 a1 r} (h:Pt N a0 a1=some r) (ha:args=[Hm a0,.str a1]) (hQ: ∀n',n≤n'→Gl (Q (.slice 6 (List.map Aw r) false) ⟨m,n'⟩)):ACall vE 59 args ⟨m,n⟩ Q:=by
 rw[Pt]at h
 subst ha
 refine ent hQ Tryz.func59 rfl Tryz.ntmps59 Tryz.results59 (.q (.r []) (.q (.r []) .z)) fun R hR=>?_
 replace h:=And.intro trivial h
 simp(disch:=omega) only[vm,seval,h.1]
 refine⟨AQ (γ:=Unit) h [7,8,9,10,11,12,13,14,15,16,17,18,19,20,21,22,23,24,25,26,27,28,29,30,31] [5] (fun j1 g=>[.slice 6 (List.map Aw j1) true]) (fun j1 g=>(n,[.str a0.subject,.slice 1 (List.map AVal.str a0.aliases) false,.slice 3 (List.map AY a0.properties) false,.slice 6 (List.map Aw a0.links) false])::m) (.q (.r []) .z) ?_ ?_⟩<;>clear h
 rintro j1 _ n4 hnn4 _ _ h
 refine AB (.q (.r []) .z) ?_
 exact tR
 intro k2 Jk2 hk2 h
 obtain⟨hfk5,h⟩:=AR h
 simp(disch:=omega) only[vm,seval,h.1]
 refine⟨BM (σ:=(List ApiLink)) (γ:=Unit) a0.links hfk5 (fun xs i s=>EZ N a1 k2 xs s) (fun i s g=>[.slice 6 (List.map Aw s) true,.int .i64 i]) (fun i s g=>(n,[.str a0.subject,.slice 1 (List.map AVal.str a0.aliases) false,.slice 3 (List.map AY a0.properties) false,.slice 6 (List.map Aw a0.links) false])::m) [7,12,13,14,15,16,17,18,19,20,21,22,23,24,25,26,27,28,29,30,31] [5,11] [] () h tD tD ?_ ?_⟩<;>clear h
 rintro s11 s5 _ nL0_1 hnL0_1 _ h
 change _∧EZ N a1 k2 [] s5=_ at h
 rw[EZ]at h
 refine AB (.q (.r []) (.q (.c .z .z) .z)) ?_
 exact tJ (hk2 s5 ())
 rintro xk5 xsk5 s11 s5 _ nL0_1 hnL0_1 _ h Jk5 hk5
 change _∧EZ N a1 k2 (xk5::xsk5) s5=_ at h
 rw[EZ]at h
 refine AB (.q (.r []) (.q (.c .z .z) .z)) ?_
 simp(disch:=omega) only[vm,seval,h.1]
 refine⟨AQ (γ:=Unit) h [7,13,14,15,16,17,18,19,20,21,22,23,24,25,26,27,28,29,30] [5] (fun j6 g=>[.slice 6 (List.map Aw j6) true]) (fun j6 g=>(n,[.str a0.subject,.slice 1 (List.map AVal.str a0.aliases) false,.slice 3 (List.map AY a0.properties) false,.slice 6 (List.map Aw a0.links) false])::m) (.q (.r []) (.q (.r []) (.c (.q (.r []) (.q (.r []) (.r [27]))) .z))) ?_ ?_⟩<;>clear h
 rintro j6 _ n9 hnn9 _ _ h
 refine AB (.r []) ?_
 exact tJ (hk5 j6 ())
 intro k7 Jk7 hk7 h
 rcases AC h with h|h
 obtain⟨c,h⟩:=AR h
 try simp only[liE,seval]at c
 replace h:=AP c h
 obtain⟨c,h⟩:=AR h
 try simp only[liE,seval]at c
 replace h:=AP c h
 obtain⟨c,h⟩:=AR h
 try simp only[liE,seval]at c
 replace h:=AP c h
 exact tJ (hk7 (s5++[xk5]) ())
 exact tJ (hk7 s5 ())
theorem KI {a0 a1 r} (h:ED N a0 a1=some r) (ha:args=[.slice 4 (List.map A9 a0) false,A9 a1]) (hQ: ∀n',n≤n'→Gl (Q (.int .i64 r) ⟨m,n'⟩)):ACall vE 184 args ⟨m,n⟩ Q:=by
 rw[ED]at h
 subst ha
 refine ent hQ Tryz.func184 rfl Tryz.ntmps184 Tryz.results184 (.q (.r []) .z) fun R hR=>?_
 replace h:=And.intro trivial h
 simp(disch:=omega) only[vm,seval,h.1]
 refine⟨AQ (γ:=Unit) h [4,5,6,7,8,9,10,11,12,13,14,15,16,17,18] [] (fun j1 g=>[]) (fun j1 g=>(n,[.int .i64 a1.kind,.str a1.text,.str a1.host,.int .i64 a1.port])::m) (.q (.r []) .z) ?_ ?_⟩<;>clear h
 rintro j1 _ n4 hnn4 _ _ h
 refine AB (.q (.r []) .z) ?_
 exact tR
 intro k2 Jk2 hk2 h
 obtain⟨hfk5,h⟩:=AR h
 simp(disch:=omega) only[vm,seval,h.1]
 refine⟨BM (σ:=Unit) (γ:=Unit) a0 hfk5 (fun xs i s=>Aq N a1 k2 xs i) (fun i s g=>[.int .i64 i]) (fun i s g=>(n,[.int .i64 a1.kind,.str a1.text,.str a1.host,.int .i64 a1.port])::m) [4,5,9,10,11,12,13,14,15,16,17,18] [8] () () h tD tD ?_ ?_⟩<;>clear h
 rintro s8_0 _ _ nL0_1 hnL0_1 _ h
 change _∧Aq N a1 k2 [] s8_0=_ at h
 rw[Aq]at h
 refine AB (.q (.r []) (.q (.c .z .z) (.q (.q (.r []) (.q .z (.c (.q (.r []) .z) .z))) (.r [])))) ?_
 exact tJ (hk2 () ())
 rintro xk5 xsk5 s8_0 _ _ nL0_1 hnL0_1 _ h Jk5 hk5
 change _∧Aq N a1 k2 (xk5::xsk5) s8_0=_ at h
 rw[Aq]at h
 refine AB (.q (.r []) (.q (.c .z .z) (.q (.q (.r []) (.q .z (.c (.q (.r []) .z) .z))) (.r [])))) ?_
 simp(disch:=omega) only[vm,seval,h.1]
 refine⟨BI [] (.take 0 (.take 1 (.take 2 (.take 3 (.take 4 (.take 5 (.done))))))) Au (by kernel_rfl) ?_⟩
 rcases AC h with h|h
 exact tR
 exact tJ (hk5 () ())
theorem AAV {a0 a1 r} (h:Mg N a0 a1=some r) (ha:args=[Hm a0,.str a1]) (hQ: ∀n',n≤n'→Gl (Q (.slice 6 (List.map Aw r) false) ⟨m,n'⟩)):ACall vE 61 args ⟨m,n⟩ Q:=by
 rw[Mg]at h
 subst ha
 refine ent hQ Tryz.func61 rfl Tryz.ntmps61 Tryz.results61 (.q (.r []) (.q (.r []) .z)) fun R hR=>?_
 replace h:=And.intro trivial h
 simp(disch:=omega) only[vm,seval,h.1]
 refine⟨AQ (γ:=Unit) h [7,8,9,10,11,12,13,14,15,16,17,18,19,20,21,22,23] [5] (fun j1 g=>[.slice 6 (List.map Aw j1) true]) (fun j1 g=>(n,[.str a0.subject,.slice 1 (List.map AVal.str a0.aliases) false,.slice 3 (List.map AY a0.properties) false,.slice 6 (List.map Aw a0.links) false])::m) (.q (.r []) .z) ?_ ?_⟩<;>clear h
 rintro j1 _ n4 hnn4 _ _ h
 refine AB (.q (.r []) .z) ?_
 exact tR
 intro k2 Jk2 hk2 h
 obtain⟨hfk5,h⟩:=AR h
 simp(disch:=omega) only[vm,seval,h.1]
 refine⟨BM (σ:=(List ApiLink)) (γ:=Unit) a0.links hfk5 (fun xs i s=>DJ N a1 k2 xs s) (fun i s g=>[.slice 6 (List.map Aw s) true,.int .i64 i]) (fun i s g=>(n,[.str a0.subject,.slice 1 (List.map AVal.str a0.aliases) false,.slice 3 (List.map AY a0.properties) false,.slice 6 (List.map Aw a0.links) false])::m) [7,12,13,14,15,16,17,18,19,20,21,22,23] [5,11] [] () h tD tD ?_ ?_⟩<;>clear h
 rintro s11 s5 _ nL0_1 hnL0_1 _ h
 change _∧DJ N a1 k2 [] s5=_ at h
 rw[DJ]at h
 refine AB (.q (.r []) (.q (.c .z .z) .z)) ?_
 exact tJ (hk2 s5 ())
 rintro xk5 xsk5 s11 s5 _ nL0_1 hnL0_1 _ h Jk5 hk5
 change _∧DJ N a1 k2 (xk5::xsk5) s5=_ at h
 rw[DJ]at h
 refine AB (.q (.r []) (.q (.c .z .z) .z)) ?_
 simp(disch:=omega) only[vm,seval,h.1]
 refine⟨AQ (γ:=Unit) h [7,13,14,15,16,17,18,19,20,21,22] [5] (fun j6 g=>[.slice 6 (List.map Aw j6) true]) (fun j6 g=>(n,[.str a0.subject,.slice 1 (List.map AVal.str a0.aliases) false,.slice 3 (List.map AY a0.properties) false,.slice 6 (List.map Aw a0.links) false])::m) (.q (.r []) (.q (.r []) (.c (.r [19]) .z))) ?_ ?_⟩<;>clear h
 rintro j6 _ n9 hnn9 _ _ h
 refine AB (.r []) ?_
 exact tJ (hk5 j6 ())
 intro k7 Jk7 hk7 h
 rcases AC h with h|h
 obtain⟨c,h⟩:=AR h
 try simp only[liE,seval]at c
 replace h:=AP c h
 exact tJ (hk7 (s5++[xk5]) ())
 exact tJ (hk7 s5 ())
end Go.Proofs.YtjgdhjpafjpjgaaGreatDoor
