import Derived.Test.YtjgdhjpafjpjgaaGreatDoorVmFacts
import Derived.Test.YtjgdhjpafjpjgaaGreatDoorDefs
import Derived.Test.YtjgdhjpafjpjgaaGreatDoorVM2
import Derived.Test.YtjgdhjpafjpjgaaGreatDoorVM5
set_option linter.unusedVariables false
set_option linter.unusedSimpArgs false
set_option maxHeartbeats 4000000
set_option maxRecDepth 100000
set_option linter.defProp false
namespace Go.Proofs.YtjgdhjpafjpjgaaGreatDoor
open Go.VM
variable{N n:Nat}{m:MS}{Q:PQ}{args:List AVal}
theorem FK {a0 a1 r} (h:A8 N a0 a1=some r) (ha:args=[.str a0,.int .u8 a1]) (hQ: ∀n',n≤n'→Gl (Q (.int .i64 r) ⟨m,n'⟩)):ACall vE 134 args ⟨m,n⟩ Q:=by
 rw[A8]at h
 subst ha
 refine ent hQ Tryz.func134 rfl Tryz.ntmps134 Tryz.results134 (.q (.r []) (.q (.r []) .z)) fun R hR=>?_
 replace h:=And.intro trivial h
 simp(disch:=omega) only[vm,seval,h.1]
 refine⟨ARU ?_⟩
 exact tR
theorem Ju {a0 r} (h:F5 N a0=some r) (ha:args=[.str a0]) (hQ: ∀n',n≤n'→Gl (Q (.str r) ⟨m,n'⟩)):ACall vE 160 args ⟨m,n⟩ Q:=by
 rw[F5]at h
 subst ha
 refine ent hQ Tryz.func160 rfl Tryz.ntmps160 Tryz.results160 (.q (.r []) (.q (.r []) .z)) fun R hR=>?_
 replace h:=And.intro trivial h
 simp(disch:=omega) only[vm,seval,h.1]
 refine⟨AQ (γ:=Unit) h [4,5,8,9,10,11,12,13,14,15,16,17,18,19,20,21,22,23,24,25,26] [] (fun j1 g=>[]) (fun j1 g=>(n,List.map (AVal.int .u8) j1)::m) (.q (.r []) .z) ?_ ?_⟩<;>clear h
 rintro j1 _ n4 hnn4 _ _ h
 refine AB (.q (.r []) .z) ?_
 obtain⟨c,h⟩:=AR h
 try simp only[liE,seval]at c
 replace h:=AP c h
 exact tR
 intro k2 Jk2 hk2 h
 obtain⟨hfk5,h⟩:=AR h
 simp(disch:=omega) only[vm,seval,h.1]
 refine⟨BM (σ:=(List Int)) (γ:=Unit) a0 hfk5 (fun xs i s=>Db N a0 k2 xs i s) (fun i s g=>[.int .i64 i]) (fun i s g=>(n,List.map (AVal.int .u8) s)::m) [4,5,11,12,13,14,15,16,17,18,19,20,21,22,23,24,25,26] [10] (List.map AL a0) () h tD tD ?_ ?_⟩<;>clear h
 rintro s10 bn _ nL0_1 hnL0_1 _ h
 change _∧Db N a0 k2 [] s10 bn=_ at h
 rw[Db]at h
 refine AB (.q (.r []) (.q (.c .z .z) .z)) ?_
 exact tJ (hk2 bn ())
 rintro xk5 xsk5 s10 bn _ nL0_1 hnL0_1 _ h Jk5 hk5
 change _∧Db N a0 k2 (xk5::xsk5) s10 bn=_ at h
 rw[Db]at h
 refine AB (.q (.r []) (.q (.c .z .z) .z)) ?_
 simp(disch:=omega) only[vm,seval,h.1]
 refine⟨AQ (γ:=Unit) h [4,5,12,13,14,15,16,17,18,19,20,21,22,23,24,25] [] (fun j6 g=>[]) (fun j6 g=>(n,List.map (AVal.int .u8) j6)::m) (.q (.r []) .z) ?_ ?_⟩<;>clear h
 rintro j6 _ n9 hnn9 _ _ h
 refine AB (.r []) ?_
 exact tJ (hk5 j6 ())
 intro k7 Jk7 hk7 h
 obtain⟨c,h⟩:=AR h
 try simp only[liE,seval]at c
 replace h:=AP c h
 obtain⟨x10,h⟩:=AA h
 simp(disch:=omega) only[vm,seval,h.1]
 refine⟨AQ (γ:=Unit) h [15,16,17,18,19] [20] (fun j11 g=>[.bool j11]) (fun j11 g=>(n,List.map (AVal.int .u8) bn)::m) (.r []) ?_ ?_⟩<;>clear h
 rintro j11 _ n14 hnn14 _ _ h
 refine AB (.c (.r []) .z) ?_
 rcases AC h with h|h
 obtain⟨c,h⟩:=AR h
 try simp only[liE,seval]at c
 replace h:=AP c h
 exact tJ (hk7 (bn.set s10.toNat (wr .u8 (x10+32))) ())
 exact tJ (hk7 bn ())
 intro k12 Jk12 hk12 h
 rcases AC h with h|h
 exact tJ (hk12 (decide (x10≤90)) ())
 exact tJ (hk12 false ())
theorem IV {a0 r} (h:En N a0=some r) (ha:args=[.int .u8 a0]) (hQ: ∀n',n≤n'→Gl (Q (.bool r) ⟨m,n'⟩)):ACall vE 191 args ⟨m,n⟩ Q:=by
 rw[En]at h
 subst ha
 refine ent hQ Tryz.func191 rfl Tryz.ntmps191 Tryz.results191 (.q (.r []) (.q (.r []) .z)) fun R hR=>?_
 replace h:=And.intro trivial h
 rcases AC h with h|h
 exact tR
 exact tR
theorem Cs {a0 r} (h:Bw N a0=some r) (ha:args=[.int .u8 a0]) (hQ: ∀n',n≤n'→Gl (Q (.bool r) ⟨m,n'⟩)):ACall vE 192 args ⟨m,n⟩ Q:=by
 rw[Bw]at h
 subst ha
 refine ent hQ Tryz.func192 rfl Tryz.ntmps192 Tryz.results192 (.q (.r []) (.q (.r []) .z)) fun R hR=>?_
 replace h:=And.intro trivial h
 rcases AC h with h|h
 exact tR
 exact tR
theorem JZ {a0 a1 r}{i0:Nat} (h:EG N a0 a1=some r) (ha:args=[.ptr i0 0,.int .u8 a1]) (hi0:Bo m i0=some ([.slice 1 (List.map (AVal.int .u8) a0) true])) (hQ: ∀n',n≤n'→Gl (Q (.tuple []) ⟨CJ m i0 ([.slice 1 (List.map (AVal.int .u8) r) true]),n'⟩)):ACall vE 79 args ⟨m,n⟩ Q:=by
 rw[EG]at h
 subst ha
 refine ACall.front hi0 fun hin=>ent (fun n' k=>⟨_,rfl,(hQ n' k).go⟩) Tryz.func79 rfl Tryz.ntmps79 Tryz.results79 .z fun R hR=>?_
 replace h:=And.intro trivial h
 obtain⟨x1,h⟩:=AA h
 obtain⟨x2,h⟩:=AA h
 obtain⟨c,h⟩:=AR h
 try simp only[liE,seval]at c
 replace h:=AP c h
 simp(disch:=omega) only[vm,seval,h.1]
 refine⟨BI [7] (.take 0 (.take 1 (.take 2 (.take 4 (.take 5 (.take 6 (.take 7 (.take 8 (.take 9 (.take 10 (.alt 3 [10,9,8,7,6,5,4,1,0] (.alt 11 [9,8,7,6,5,4,2,1,0] (.take 12 (.alt 13 [] (.done) (.stop))) (.stop)) (.stop)))))))))))) Au (by kernel_rfl) ?_⟩
 obtain⟨H,h⟩:=h
 cases h
 simp(disch:=omega) only[vm,seval,H]
 refine⟨(hR _ _ _ _ _ _ (by simp(disch:=omega) only[vm,seval,H];rfl) slr ?_ (by omega) ?_).2⟩<;>first|(simp(disch:=omega) only[vm,seval,H];done)|rfl
theorem FO {a0 r} (h:Cu N a0=some r) (ha:args=[.str a0]) (hQ: ∀n',n≤n'→Gl (Q (.int .i64 r) ⟨m,n'⟩)):ACall vE 259 args ⟨m,n⟩ Q:=by
 rw[Cu]at h
 subst ha
 refine ent hQ Tryz.func259 rfl Tryz.ntmps259 Tryz.results259 (.q (.r []) .z) fun R hR=>?_
 replace h:=And.intro trivial h
 simp(disch:=omega) only[vm,seval,h.1]
 refine⟨AQ (γ:=Unit) h [3,4,5,6,7,8] [2] (fun j1 g=>[.int .i64 j1]) (fun j1 g=>m) (.q (.r []) .z) ?_ ?_⟩<;>clear h
 rintro j1 _ n4 hnn4 _ _ h
 refine AB (.q (.r []) .z) ?_
 exact tR
 intro k2 Jk2 hk2 h
 simp(disch:=omega) only[vm,seval,h.1]
 refine⟨Kq (σ:=Int×Nat) (γ:=Unit) (fun k s=>Bb N a0 k2 k s.1 s.2) (fun s g=>[.int .i64 s.1,.iter a0 s.2]) (fun s g=>m) [5,6,7,8] [2,4] (0,0) () h (fun _=>rfl) tD tD ?_⟩
 clear h
 rintro k5 ⟨s2,s4⟩ _ nL0_1 hnL0_1 _ h Jk5 hk5
 change _∧Bb N a0 k2 (k5+1) s2 s4=_ at h
 rw[Bb]at h
 refine AB (.q (.r []) (.q (.c .z .z) (.r []))) ?_
 rcases AC h with h|h
 exact tJ (hk5 ((wr .i64 (s2+1)),(s4+(Cx a0 s4).2)) ())
 exact tJ (hk2 s2 ())
theorem HZ {a0 r} (h:DF N a0=some r) (ha:args=[.str a0]) (hQ: ∀n',n≤n'→Gl (Q (.tuple [.int .i32 r.1,.int .i64 r.2]) ⟨m,n'⟩)):ACall vE 262 args ⟨m,n⟩ Q:=by
 rw[DF]at h
 subst ha
 refine ent hQ Tryz.func262 rfl Tryz.ntmps262 Tryz.results262 (.q (.r []) (.q (.r []) (.q (.q (.r []) (.c (.q (.r []) .z) .z)) (.q (.r []) (.q (.r []) (.q (.q (.r []) (.c (.q (.r []) (.q (.r []) .z)) .z)) (.q (.r []) (.q (.r []) (.q (.q (.r []) (.c (.q (.r []) .z) .z)) (.q (.r []) (.q .z (.q (.q (.r []) (.c (.q (.r []) .z) .z)) (.q (.r []) (.q .z (.q (.q (.r []) (.c (.q (.r []) .z) .z)) (.q (.r []) (.q .z (.q (.r []) .z)))))))))))))))))) fun R hR=>?_
 replace h:=And.intro trivial h
 rcases AC h with h|h
 exact tR
 obtain⟨x1,h⟩:=AA h
 cases h.2
theorem Ut {a0 r} (h:KA N a0=some r) (ha:args=[LA a0]) (hQ: ∀n',n≤n'→Gl (Q (.str r) ⟨m,n'⟩)):ACall vE 241 args ⟨m,n⟩ Q:=by
 rw[KA]at h
 subst ha
 refine ent hQ Tryz.func241 rfl Tryz.ntmps241 Tryz.results241 (.q (.r []) (.q (.r []) .z)) fun R hR=>?_
 replace h:=And.intro trivial h
 obtain⟨c,h⟩:=AR h
 try simp only[liE,seval]at c
 replace h:=AP c h
 obtain⟨c,h⟩:=AR h
 try simp only[liE,seval]at c
 replace h:=AP c h
 obtain⟨c,h⟩:=AR h
 try simp only[liE,seval]at c
 replace h:=AP c h
 exact tR
theorem Lr {a0 r} (h:GD N a0=some r) (ha:args=[.int .i32 a0]) (hQ: ∀n',n≤n'→Gl (Q (.bool r) ⟨m,n'⟩)):ACall vE 233 args ⟨m,n⟩ Q:=by
 rw[GD]at h
 subst ha
 refine ent hQ Tryz.func233 rfl Tryz.ntmps233 Tryz.results233 (.q (.r []) (.q .z (.q (.r []) .z))) fun R hR=>?_
 replace h:=And.intro trivial h
 simp(disch:=omega) only[vm,seval,h.1]
 refine⟨AQ (γ:=Unit) h [4,5,6,7,8,9] [3] (fun j1 g=>[.bool j1]) (fun j1 g=>m) (.r []) ?_ ?_⟩<;>clear h
 rintro j1 _ n4 hnn4 _ _ h
 refine AB (.c (.q (.r []) .z) .z) ?_
 rcases AC h with h|h
 exact tR
 simp(disch:=omega) only[vm,seval,h.1]
 refine⟨AQ (γ:=Unit) h [11,12,13,14,15,16] [10] (fun j5 g=>[.bool j5]) (fun j5 g=>m) (.r []) ?_ ?_⟩<;>clear h
 rintro j5 _ n8 hnn8 _ _ h
 refine AB (.c (.q (.r []) .z) .z) ?_
 rcases AC h with h|h
 exact tR
 exact tR
 intro k6 Jk6 hk6 h
 rcases AC h with h|h
 exact tJ (hk6 (decide (a0≤1114111)) ())
 exact tJ (hk6 false ())
 intro k2 Jk2 hk2 h
 rcases AC h with h|h
 exact tJ (hk2 (decide (a0<55296)) ())
 exact tJ (hk2 false ())
theorem Kg {a0 r} (h:strings_shouldUseASCIISet N a0=some r) (ha:args=[.int .i64 a0]) (hQ: ∀n',n≤n'→Gl (Q (.bool r) ⟨m,n'⟩)):ACall vE 205 args ⟨m,n⟩ Q:=by
 rw[strings_shouldUseASCIISet]at h
 subst ha
 refine ent hQ Tryz.func205 rfl Tryz.ntmps205 Tryz.results205 (.q (.r []) (.q (.r []) .z)) fun R hR=>?_
 replace h:=And.intro trivial h
 exact tR
theorem Mj {a0 r} (h:strings_makeASCIISet N a0=some r) (ha:args=[.str a0]) (hQ: ∀n',n≤n'→Gl (Q (.tuple [.agg (List.map AVal.bool r.1),.bool r.2]) ⟨m,n'⟩)):ACall vE 206 args ⟨m,n⟩ Q:=by
 rw[strings_makeASCIISet]at h
 subst ha
 refine ent hQ Tryz.func206 rfl Tryz.ntmps206 Tryz.results206 (.q (.r []) .z) fun R hR=>?_
 replace h:=And.intro trivial h
 simp(disch:=omega) only[vm,seval,h.1]
 refine⟨AQ (γ:=Unit) h [3,4,5,6,7,8,9,10,11,12,13,14,15,16,17,18,19] [] (fun j1 g=>[]) (fun j1 g=>(n,List.map AVal.bool j1)::m) (.q (.r []) .z) ?_ ?_⟩<;>clear h
 rintro j1 _ n4 hnn4 _ _ h
 refine AB (.q (.r []) .z) ?_
 obtain⟨c,h⟩:=AR h
 try simp only[liE,seval]at c
 replace h:=AP c h
 exact tR
 intro k2 Jk2 hk2 h
 obtain⟨hfk5,h⟩:=AR h
 simp(disch:=omega) only[vm,seval,h.1]
 refine⟨BM (σ:=(List Bool)) (γ:=Unit) a0 hfk5 (fun xs i s=>BD N k2 xs s) (fun i s g=>[.int .i64 i]) (fun i s g=>(n,List.map AVal.bool s)::m) [3,5,6,7,8,9,10,11,12,13,14,15,16,17,18,19] [4] (ACj 256) () h tD tD ?_ ?_⟩<;>clear h
 rintro s4 bn _ nL0_1 hnL0_1 _ h
 change _∧BD N k2 [] bn=_ at h
 rw[BD]at h
 refine AB (.q (.q (.r []) (.c .z .z)) (.q (.q (.r []) (.q (.q (.r []) (.c (.q (.r []) .z) .z)) (.r []))) (.r []))) ?_
 exact tJ (hk2 bn ())
 rintro xk5 xsk5 s4 bn _ nL0_1 hnL0_1 _ h Jk5 hk5
 change _∧BD N k2 (xk5::xsk5) bn=_ at h
 rw[BD]at h
 refine AB (.q (.q (.r []) (.c .z .z)) (.q (.q (.r []) (.q (.q (.r []) (.c (.q (.r []) .z) .z)) (.r []))) (.r []))) ?_
 rcases AC h with h|h
 obtain⟨c,h⟩:=AR h
 try simp only[liE,seval]at c
 replace h:=AP c h
 exact tR
 obtain⟨c,h⟩:=AR h
 try simp only[liE,seval]at c
 replace h:=AP c h
 obtain⟨c,h⟩:=AR h
 try simp only[liE,seval]at c
 replace h:=AP c h
 exact tJ (hk5 (bn.set ((AL xk5).toNat) true) ())
theorem Ki {a0 a1 r}{i0:Nat} (h:Cy N a0 a1=some r) (ha:args=[.ptr i0 0,.int .u8 a1]) (hi0:Bo m i0=some (List.map AVal.bool a0)) (hQ: ∀n',n≤n'→Gl (Q (.bool r.1) ⟨CJ m i0 (List.map AVal.bool r.2),n'⟩)):ACall vE 207 args ⟨m,n⟩ Q:=by
 rw[Cy]at h
 subst ha
 refine ACall.front hi0 fun hin=>ent (fun n' k=>⟨_,rfl,(hQ n' k).go⟩) Tryz.func207 rfl Tryz.ntmps207 Tryz.results207 (.q (.r []) (.q (.r []) .z)) fun R hR=>?_
 replace h:=And.intro trivial h
 obtain⟨c,h⟩:=AR h
 try simp only[liE,seval]at c
 replace h:=AP c h
 obtain⟨x1,h⟩:=AA h
 exact tR
theorem KH {a0 r} (h:Ep N a0=some r) (ha:args=[.int .u64 a0]) (hQ: ∀n',n≤n'→Gl (Q (.str r) ⟨m,n'⟩)):ACall vE 135 args ⟨m,n⟩ Q:=by
 rw[Ep]at h
 subst ha
 refine ent hQ Tryz.func135 rfl Tryz.ntmps135 Tryz.results135 (.q (.r []) (.q (.r []) (.q (.r []) .z))) fun R hR=>?_
 replace h:=And.intro trivial h
 simp(disch:=omega) only[vm,seval,h.1]
 refine⟨AQ (γ:=Unit) h [5,6,7,8,9,10,11,12,13,14,15,16] [0,4] (fun j1 g=>[.int .u64 j1.1,.int .i64 j1.2.1]) (fun j1 g=>(n,List.map (AVal.int .u8) j1.2.2)::m) .z ?_ ?_⟩<;>clear h
 rintro j1 _ n4 hnn4 _ _ h
 refine AB (.q (.r []) (.q (.r []) .z)) ?_
 obtain⟨c,h⟩:=AR h
 try simp only[liE,seval]at c
 replace h:=AP c h
 obtain⟨c,h⟩:=AR h
 try simp only[liE,seval]at c
 replace h:=AP c h
 obtain⟨c,h⟩:=AR h
 try simp only[liE,seval]at c
 replace h:=AP c h
 obtain⟨c,h⟩:=AR h
 try simp only[liE,seval]at c
 replace h:=AP c h
 exact tR
 intro k2 Jk2 hk2 h
 simp(disch:=omega) only[vm,seval,h.1]
 refine⟨Kq (σ:=Int×Int×(List Int)) (γ:=Unit) (fun k s=>ER N k2 k s.1 s.2.1 s.2.2) (fun s g=>[.int .u64 s.1,.int .i64 s.2.1]) (fun s g=>(n,List.map (AVal.int .u8) s.2.2)::m) [5,6,7,8,9,10,11,12,13,14,15,16] [0,4] (a0,19,(List.replicate 20 0)) () h (fun _=>rfl) tD tD ?_⟩
 clear h
 rintro k5 ⟨s0,s4,bn⟩ _ nL0_1 hnL0_1 _ h Jk5 hk5
 change _∧ER N k2 (k5+1) s0 s4 bn=_ at h
 rw[ER]at h
 refine AB (.q (.q (.r []) (.c .z .z)) (.q (.q (.r []) (.r [])) (.r []))) ?_
 rcases AC h with h|h
 obtain⟨c,h⟩:=AR h
 try simp only[liE,seval]at c
 replace h:=AP c h
 obtain⟨c,h⟩:=AR h
 try simp only[liE,seval]at c
 replace h:=AP c h
 exact tJ (hk5 ((wr .u64 (s0.tdiv 10)),(wr .i64 (s4-1)),(bn.set s4.toNat (wr .u8 (wr .u64 (48+(s0.tmod 10)))))) ())
 exact tJ (hk2 (s0,s4,bn) ())
theorem R3 {a0 r} (h:Jq N a0=some r) (ha:args=[Dt a0]) (hQ: ∀n',n≤n'→Gl (Q (DY r) ⟨m,n'⟩)):ACall vE 81 args ⟨m,n⟩ Q:=by
 rw[Jq]at h
 subst ha
 refine ent hQ Tryz.func81 rfl Tryz.ntmps81 Tryz.results81 (.q (.r []) (.q (.r []) .z)) fun R hR=>?_
 replace h:=And.intro trivial h
 exact tR
theorem SA {a0 r} (h:II N a0=some r) (ha:args=[Dt a0]) (hQ: ∀n',n≤n'→Gl (Q (.str r) ⟨m,n'⟩)):ACall vE 82 args ⟨m,n⟩ Q:=by
 rw[II]at h
 subst ha
 refine ent hQ Tryz.func82 rfl Tryz.ntmps82 Tryz.results82 (.q (.r []) (.q (.q (.r []) (.c (.q (.r []) .z) .z)) (.q (.r []) .z))) fun R hR=>?_
 replace h:=And.intro trivial h
 rcases AC h with h|h
 obtain⟨c,h⟩:=AR h
 try simp only[liE,seval]at c
 replace h:=AP c h
 obtain⟨c,h⟩:=AR h
 try simp only[liE,seval]at c
 replace h:=AP c h
 exact tR
 exact tR
theorem EB {a0 a1 r} (h:BG N a0 a1=some r) (ha:args=[.str a0,.str a1]) (hQ: ∀n',n≤n'→Gl (Q (.bool r) ⟨m,n'⟩)):ACall vE 211 args ⟨m,n⟩ Q:=by
 rw[BG]at h
 subst ha
 refine ent hQ Tryz.func211 rfl Tryz.ntmps211 Tryz.results211 (.q (.r []) (.q (.r []) .z)) fun R hR=>?_
 replace h:=And.intro trivial h
 rcases AC h with h|h
 obtain⟨x1,h⟩:=AA h
 exact tR
 exact tR
theorem Gt {a0 a1 r} (h:Bp N a0 a1=some r) (ha:args=[.str a0,.int .u8 a1]) (hQ: ∀n',n≤n'→Gl (Q (.int .i64 r) ⟨m,n'⟩)):ACall vE 213 args ⟨m,n⟩ Q:=by
 rw[Bp]at h
 subst ha
 refine ent hQ Tryz.func213 rfl Tryz.ntmps213 Tryz.results213 (.q (.r []) .z) fun R hR=>?_
 replace h:=And.intro trivial h
 simp(disch:=omega) only[vm,seval,h.1]
 refine⟨AQ (γ:=Unit) h [4,5,6,7,8,9,10,11,12,13,14,15,16,17,18] [] (fun j1 g=>[]) (fun j1 g=>m) (.q (.r []) .z) ?_ ?_⟩<;>clear h
 rintro j1 _ n4 hnn4 _ _ h
 refine AB (.q (.r []) .z) ?_
 exact tR
 intro k2 Jk2 hk2 h
 simp(disch:=omega) only[vm,seval,h.1]
 refine⟨Kq (σ:=Int) (γ:=Unit) (fun k s=>Ae N a0 a1 k2 k s) (fun s g=>[.int .i64 s]) (fun s g=>m) [4,9,10,11,12,13,14,15,16,17,18] [5] (wr .i64 ((a0.length:Int)-1)) () h (fun _=>rfl) tD tD ?_⟩
 clear h
 rintro k5 s5 _ nL0_1 hnL0_1 _ h Jk5 hk5
 change _∧Ae N a0 a1 k2 (k5+1) s5=_ at h
 rw[Ae]at h
 refine AB (.q (.q (.r []) (.c .z .z)) (.q (.q (.r []) (.c (.q (.r []) .z) .z)) (.r []))) ?_
 rcases AC h with h|h
 obtain⟨x6,h⟩:=AA h
 rcases AC h with h|h
 exact tR
 exact tJ (hk5 (wr .i64 (s5-1)) ())
 exact tJ (hk2 () ())
theorem KL {a0 r} (h:Dx N a0=some r) (ha:args=[EF a0]) (hQ: ∀n',n≤n'→Gl (Q (.str r) ⟨m,n'⟩)):ACall vE 51 args ⟨m,n⟩ Q:=by
 rw[Dx]at h
 subst ha
 refine ent hQ Tryz.func51 rfl Tryz.ntmps51 Tryz.results51 (.q (.r []) (.q (.r []) .z)) fun R hR=>?_
 replace h:=And.intro trivial h
 obtain⟨c,h⟩:=AR h
 try simp only[liE,seval]at c
 replace h:=AP c h
 obtain⟨c,h⟩:=AR h
 try simp only[liE,seval]at c
 replace h:=AP c h
 obtain⟨c,h⟩:=AR h
 try simp only[liE,seval]at c
 replace h:=AP c h
 exact tR
theorem Kb {a0 r}{i0:Nat} (h:EM N a0=some r) (ha:args=[.ptr i0 0]) (hi0:Bo m i0=some ([H7 i0 196 2 a0.addr,.buf 5 a0.buf true])) (hQ: ∀n',n≤n'→Gl (Q (.tuple []) ⟨CJ m i0 ([H7 i0 196 2 r.addr,.buf 5 r.buf true]),n'⟩)):ACall vE 214 args ⟨m,n⟩ Q:=by
 rw[EM]at h
 subst ha
 refine ACall.front hi0 fun hin=>ent (fun n' k=>⟨_,rfl,(hQ n' k).go⟩) Tryz.func214 rfl Tryz.ntmps214 Tryz.results214 (.q (.r []) (.c (.r []) (.q (.r []) (.c .z .z)))) fun R hR=>?_
 replace h:=And.intro trivial h
 rcases AC h with h|h
 obtain⟨H,h⟩:=h
 cases h
 simp(disch:=omega) only[vm,seval,H]
 refine⟨(hR _ _ _ _ _ _ (by simp(disch:=omega) only[vm,seval,H];rfl) slr ?_ (by omega) ?_).2⟩<;>first|(simp(disch:=omega) only[vm,seval,H];done)|rfl
 simp(disch:=omega) only[vm,seval,h.1]
 refine⟨AIc ?_⟩
 obtain⟨H,h⟩:=h
 cases h
 simp(disch:=omega) only[vm,seval,H]
 refine⟨(hR _ _ _ _ _ _ (by simp(disch:=omega) only[vm,seval,H];rfl) slr ?_ (by omega) ?_).2⟩<;>first|(simp(disch:=omega) only[vm,seval,H];done)|rfl
theorem FY {a0 r}{i0:Nat} (h:CL N a0=some r) (ha:args=[.ptr i0 0]) (hi0:Bo m i0=some ([H7 i0 196 2 a0.addr,.buf 5 a0.buf true])) (hQ: ∀n',n≤n'→Gl (Q (.str r.1) ⟨CJ m i0 ([H7 i0 196 2 r.2.addr,.buf 5 r.2.buf false]),n'⟩)):ACall vE 170 args ⟨m,n⟩ Q:=by
 rw[CL]at h
 subst ha
 refine ACall.front hi0 fun hin=>ent (fun n' k=>⟨_,rfl,(hQ n' k).go⟩) Tryz.func170 rfl Tryz.ntmps170 Tryz.results170 (.q (.r []) (.q .z .z)) fun R hR=>?_
 replace h:=And.intro trivial h
 simp(disch:=omega) only[vm,seval,h.1]
 refine⟨BI [6] (.take 0 (.take 1 (.take 2 (.take 5 (.take 6 (.take 7 (.take 8 (.take 9 (.alt 3 [9,8,7,6,5,1,0] (.alt 4 [9,8,7,6,5,2,1,0] (.alt 10 [8,7,6,5,2,1,0] (.alt 11 [] (.done) (.stop)) (.stop)) (.stop)) (.stop)))))))))) Au (by kernel_rfl) ?_⟩
 exact tR
theorem AHL{i0:Nat} (ha:args=[.ptr i0 0]) (hi0:Bo m i0=some [.nself i0 196 2,.nbuf 5]) (hQ: ∀n',n≤n'→Gl (Q (.tuple []) ⟨CJ m i0 [.ptr i0 0,.nbuf 5],n'⟩)):ACall vE 214 args ⟨m,n⟩ Q:=by
 subst ha
 refine ACall.front hi0 fun hin=>ent (fun n' k=>⟨_,rfl,(hQ n' k).go⟩) Tryz.func214 rfl Tryz.ntmps214 Tryz.results214 (.q (.r []) (.c (.r []) (.q (.r []) (.c .z .z)))) fun R hR=>?_
 simp(disch:=omega) only[vm,seval]
 refine⟨AIc ?_⟩
 simp(disch:=omega) only[vm,seval]
 refine⟨(hR _ _ _ _ _ _ (by simp(disch:=omega) only[vm,seval];rfl) slr ?_ (by omega) ?_).2⟩<;>first|(simp(disch:=omega) only[vm,seval];done)|rfl
theorem AKM{k0:Nat}{i0:Nat} (h1:1≤k0) (h2:k0≤140737488355328) (hin:i0<n) (hQ: ∀j n',n≤n'→Gl (Q (.tuple []) ⟨(j,[.any])::(i0,[.ptr i0 0,.trow 5 j 0])::m,n'⟩)):ACall vE 261 [.ptr i0 0,.int .i64 k0] ⟨(i0,[.ptr i0 0,.nbuf 5])::m,n⟩ Q:=by
 have hw:wr .i64 (wr .i64 0+(k0:Int))=(k0:Int):=by rw[show wr .i64 0=0 from rfl];simp only[wr];rw[IntKind.wrap_i64];omega
 refine AL9 Tryz.func261 rfl Tryz.ntmps261 Tryz.results261 (.q .z (.q (.r []) (.r []))) fun R hR=>?_
 simp(disch:=omega) only[vm,seval]
 refine⟨BI [] (.take 0 (.take 1 (.take 2 (.take 3 (.take 6 (.take 9 (.take 10 (.take 11 (.take 12 (.take 13 (.alt 4 [13,12,11,10,9,6,2,1,0] (.take 5 (.take 7 (.alt 8 [5,13,12,11,10,9,6,3,2,1,0] (.take 14 (.alt 15 [] (.done) (.stop))) (.stop)))) (.stop)))))))))))) Au (by kernel_rfl) ?_⟩
 simp(disch:=omega) only[vm,seval,hw]
 refine⟨AR8 h1 h2 ?_⟩
 simp(disch:=omega) only[vm,seval,hw]
 refine⟨(hR _ _ [] ((n,[.any])::(i0,[.ptr i0 0,.trow 5 n 0])::m) _ (n+1) (by first|rfl|(simp(disch:=omega) only[vm,seval];rfl)) slr (by omega) (hQ n (n+1) (by omega)).go).2⟩
theorem Me{n0:Int}{r:Unit}{i0:Nat} (h:FQ N n0=some r) (ha:args=[.ptr i0 0,.int .i64 n0]) (hi0:Bo m i0=some [.nself i0 196 2,.nbuf 5]) (hQ: ∀n',n≤n'→Gl (Q (.tuple []) ⟨CJ m i0 [.ptr i0 0,.buf 5 [] true],n'⟩)):ACall vE 249 args ⟨m,n⟩ Q:=by
 unfold FQ at h
 replace h:=AR (And.intro trivial h)
 obtain⟨⟨c1,c2⟩,h⟩:=h
 obtain⟨k0,rfl⟩: ∃k0:Nat,n0=(k0:Int):=⟨n0.toNat,by omega⟩
 clear h
 subst ha
 have e1:decide ((k0:Int)<0)=false:=decide_eq_false (by omega)
 have e2:decide ((0:Int)<(k0:Int))=true:=decide_eq_true (by omega)
 have e3:wr .i64 (0-0)=0:=rfl
 have e4:wr .i64 0=0:=rfl
 refine ACall.front hi0 fun hin=>ACall.fuse (AL9 Tryz.func249 rfl Tryz.ntmps249 Tryz.results249 (.q (.r []) (.q (.q (.r []) (.c (.r []) .z)) (.q .z (.c (.r []) .z)))) fun R hR=>?_)
 simp(disch:=omega) only[vm,seval]
 refine⟨AHL rfl (i0:=i0) (by simp(disch:=omega) only[vm,seval]) fun n2 hn2=>?_⟩
 simp(disch:=omega) only[vm,seval,e1]
 refine⟨BI [] (.take 0 (.take 1 (.take 2 (.take 3 (.take 5 (.take 6 (.take 7 (.take 8 (.take 9 (.take 11 (.alt 4 [11,9,8,7,6,5,2,1,0] (.take 10 (.take 12 (.done))) (.stop)))))))))))) Au (by kernel_rfl) ?_⟩
 simp(disch:=omega) only[vm,seval,e1,e2,e3,e4]
 refine⟨AKM (by omega) (by omega) (by omega) fun j n3 hn3=>?_⟩
 simp(disch:=omega) only[vm,seval]
 refine⟨(hR _ _ [] ((j,[.any])::(i0,[.ptr i0 0,.trow 5 j 0])::DW m i0) _ n3 (by first|rfl|(simp(disch:=omega) only[vm,seval];rfl)) slr (by omega) ⟨_,_,_,_,_,rfl,_,rfl,(hQ n3 (by omega)).go⟩).2⟩
theorem JO {a0 a1 r} (h:Cw N a0 a1=some r) (ha:args=[.str a0,.str a1]) (hQ: ∀n',n≤n'→Gl (Q (.bool r) ⟨m,n'⟩)):ACall vE 202 args ⟨m,n⟩ Q:=by
 rw[Cw]at h
 subst ha
 refine ent hQ Tryz.func202 rfl Tryz.ntmps202 Tryz.results202 (.q (.r []) (.q (.r []) .z)) fun R hR=>?_
 replace h:=And.intro trivial h
 rcases AC h with h|h
 obtain⟨x1,h⟩:=AA h
 exact tR
 exact tR
theorem Uj {r} (h:Lh N=some r) (ha:args=[]) (hQ: ∀i n',n≤i→i<n'→Gl (Q (.sh i) ⟨(i,[.map [[97,99,99,116],[109,97,105,108,116,111],[104,116,116,112,115],[100,105,100]] [.fn (.func 221) [] [],.fn (.func 222) [] [],.fn (.func 223) [] [],.fn (.func 224) [] []]])::m,n'⟩)):ACall vE 183 args ⟨m,n⟩ Q:=by
 rw[Lh]at h
 subst ha
 refine AL9 Tryz.func183 rfl Tryz.ntmps183 Tryz.results183 (.q (.r []) (.q (.r []) .z)) fun R hR=>?_
 replace h:=And.intro trivial h
 obtain⟨H,h⟩:=h
 cases h
 simp(decide:=true) (disch:=omega) only[vm,seval,H,Kn,Ky]
 refine⟨(hR _ _ [.sh n] ((n,[.map [[97,99,99,116],[109,97,105,108,116,111],[104,116,116,112,115],[100,105,100]] [.fn (.func 221) [] [],.fn (.func 222) [] [],.fn (.func 223) [] [],.fn (.func 224) [] []]])::m) _ (n+1) (by first|(simp(decide:=true) (disch:=omega) only[vm,seval,H,Kn,Ky];done)|(simp(decide:=true) (disch:=omega) only[vm,seval,H,Kn,Ky];rfl)) slr (by omega) (hQ (n) (n+1) (by omega) (by omega)).go).1⟩
theorem AB2 {r} (h:Q4 N=some r) (ha:args=[]) (hQ: ∀n',n≤n'→Gl (Q (A9 r) ⟨m,n'⟩)):ACall vE 27 args ⟨m,n⟩ Q:=by
 rw[Q4]at h
 subst ha
 refine ent hQ Tryz.func27 rfl Tryz.ntmps27 Tryz.results27 (.q (.r []) (.q (.r []) .z)) fun R hR=>?_
 replace h:=And.intro trivial h
 obtain⟨H,h⟩:=h
 cases h
 simp(maxSteps:=10000000) (disch:=omega) only[vm,seval,H]
 refine⟨(hR _ _ _ _ _ _ (by simp(maxSteps:=10000000) (disch:=omega) only[vm,seval,H];rfl) (.cons _ slr) ?_ (by omega) ?_).1⟩<;>first|(simp(maxSteps:=10000000) (disch:=omega) only[vm,seval,H];done)|rfl
theorem Nw {a0 r} (h:Ho N a0=some r) (ha:args=[.int .u64 a0]) (hQ: ∀n',n≤n'→Gl (Q (.str r) ⟨m,n'⟩)):ACall vE 146 args ⟨m,n⟩ Q:=by
 rw[Ho]at h
 subst ha
 refine ent hQ Tryz.func146 rfl Tryz.ntmps146 Tryz.results146 (.q (.r []) (.q (.r []) .z)) fun R hR=>?_
 replace h:=And.intro trivial h
 simp(disch:=omega) only[vm,seval,h.1]
 refine⟨Kq (σ:=Int×(List UInt8)) (γ:=Unit) (fun k s=>Eh N k s.1 s.2) (fun s g=>[.int .u64 s.1,.str s.2]) (fun s g=>m) [2,4,5,6,7,8,9,10,11,12,13,14,15,16] [0,3] (a0,[]) () h (fun _=>rfl) tD tD ?_⟩
 clear h
 rintro k1 ⟨s0,s3⟩ _ nL0_1 hnL0_1 _ h Jk1 hk1
 change _∧Eh N (k1+1) s0 s3=_ at h
 rw[Eh]at h
 refine AB (.q (.r []) (.q (.r []) (.q (.r []) (.c (.q (.r []) .z) .z)))) ?_
 obtain⟨c,h⟩:=AR h
 try simp only[liE,seval]at c
 replace h:=AP c h
 rcases AC h with h|h
 exact tR
 exact tJ (hk1 ((wr .u64 (s0.tdiv 10)),((List.map FX [(wr .u8 (wr .u64 (48+(s0.tmod 10))))])++s3)) ())
theorem Si {a0 r} (h:Kh N a0=some r) (ha:args=[Dt a0]) (hQ: ∀n',n≤n'→Gl (Q (DY r) ⟨m,n'⟩)):ACall vE 64 args ⟨m,n⟩ Q:=by
 rw[Kh]at h
 subst ha
 refine ent hQ Tryz.func64 rfl Tryz.ntmps64 Tryz.results64 (.q (.r []) (.q (.r []) .z)) fun R hR=>?_
 replace h:=And.intro trivial h
 exact tR
theorem Sb {a0 r} (h:JA N a0=some r) (ha:args=[Dt a0]) (hQ: ∀n',n≤n'→Gl (Q (.str r) ⟨m,n'⟩)):ACall vE 65 args ⟨m,n⟩ Q:=by
 rw[JA]at h
 subst ha
 refine ent hQ Tryz.func65 rfl Tryz.ntmps65 Tryz.results65 (.q (.r []) (.q (.q (.r []) (.c (.q (.r []) .z) .z)) (.q (.r []) .z))) fun R hR=>?_
 replace h:=And.intro trivial h
 rcases AC h with h|h
 obtain⟨c,h⟩:=AR h
 try simp only[liE,seval]at c
 replace h:=AP c h
 obtain⟨c,h⟩:=AR h
 try simp only[liE,seval]at c
 replace h:=AP c h
 exact tR
 exact tR
theorem AKq {a0 r} (h:Qe N a0=some r) (ha:args=[A9 a0]) (hQ: ∀n',n≤n'→Gl (Q (.bool r) ⟨m,n'⟩)):ACall vE 8 args ⟨m,n⟩ Q:=by
 rw[Qe]at h
 subst ha
 refine ent hQ Tryz.func8 rfl Tryz.ntmps8 Tryz.results8 (.q (.r []) (.q (.r []) .z)) fun R hR=>?_
 replace h:=And.intro trivial h
 exact tR
theorem Gz {a0 a1 r} (h:GN N a0 a1=some r) (ha:args=[.int .u8 a0,.str a1]) (hQ: ∀n',n≤n'→Gl (Q (.bool r) ⟨m,n'⟩)):ACall vE 85 args ⟨m,n⟩ Q:=by
 rw[GN]at h
 subst ha
 refine ent hQ Tryz.func85 rfl Tryz.ntmps85 Tryz.results85 (.q (.r []) .z) fun R hR=>?_
 replace h:=And.intro trivial h
 simp(disch:=omega) only[vm,seval,h.1]
 refine⟨AQ (γ:=Unit) h [4,5,6,7,8,9,10,11,12,13,14,15,16] [] (fun j1 g=>[]) (fun j1 g=>m) (.q (.r []) .z) ?_ ?_⟩<;>clear h
 rintro j1 _ n4 hnn4 _ _ h
 refine AB (.q (.r []) .z) ?_
 exact tR
 intro k2 Jk2 hk2 h
 obtain⟨hfk5,h⟩:=AR h
 simp(disch:=omega) only[vm,seval,h.1]
 refine⟨BM (σ:=Unit) (γ:=Unit) a1 hfk5 (fun xs i s=>Ew N a0 k2 xs) (fun i s g=>[.int .i64 i]) (fun i s g=>m) [4,6,7,8,9,10,11,12,13,14,15,16] [5] () () h tD tD ?_ ?_⟩<;>clear h
 rintro s5 _ _ nL0_1 hnL0_1 _ h
 change _∧Ew N a0 k2 []=_ at h
 rw[Ew]at h
 refine AB (.q (.q (.r []) (.c .z .z)) (.q (.q (.r []) (.c (.q (.r []) .z) .z)) (.r []))) ?_
 exact tJ (hk2 () ())
 rintro xk5 xsk5 s5 _ _ nL0_1 hnL0_1 _ h Jk5 hk5
 change _∧Ew N a0 k2 (xk5::xsk5)=_ at h
 rw[Ew]at h
 refine AB (.q (.q (.r []) (.c .z .z)) (.q (.q (.r []) (.c (.q (.r []) .z) .z)) (.r []))) ?_
 rcases AC h with h|h
 exact tR
 exact tJ (hk5 () ())
theorem Jy {a0 r} (h:F9 N a0=some r) (ha:args=[.str a0]) (hQ: ∀n',n≤n'→Gl (Q (.str r) ⟨m,n'⟩)):ACall vE 66 args ⟨m,n⟩ Q:=by
 rw[F9]at h
 subst ha
 refine ent hQ Tryz.func66 rfl Tryz.ntmps66 Tryz.results66 (.q (.r []) (.q (.r []) .z)) fun R hR=>?_
 replace h:=And.intro trivial h
 simp(disch:=omega) only[vm,seval,h.1]
 refine⟨AQ (γ:=Unit) h [4,7,8,9,10,11,12,13,14,15,16,17,18,19,20,21,22,23,24,25,26,27,28,29,30] [] (fun j1 g=>[]) (fun j1 g=>(n,List.map (AVal.int .u8) j1)::m) (.q (.r []) .z) ?_ ?_⟩<;>clear h
 rintro j1 _ n4 hnn4 _ _ h
 refine AB (.q (.r []) .z) ?_
 obtain⟨c,h⟩:=AR h
 try simp only[liE,seval]at c
 replace h:=AP c h
 exact tR
 intro k2 Jk2 hk2 h
 obtain⟨hfk5,h⟩:=AR h
 simp(disch:=omega) only[vm,seval,h.1]
 refine⟨BM (σ:=(List Int)) (γ:=Unit) a0 hfk5 (fun xs i s=>DN N a0 k2 xs i s) (fun i s g=>[.int .i64 i]) (fun i s g=>(n,List.map (AVal.int .u8) s)::m) [4,10,11,12,13,14,15,16,17,18,19,20,21,22,23,24,25,26,27,28,29,30] [9] (List.map AL a0) () h tD tD ?_ ?_⟩<;>clear h
 rintro s9 bn _ nL0_1 hnL0_1 _ h
 change _∧DN N a0 k2 [] s9 bn=_ at h
 rw[DN]at h
 refine AB (.q (.r []) (.q (.c .z .z) .z)) ?_
 exact tJ (hk2 bn ())
 rintro xk5 xsk5 s9 bn _ nL0_1 hnL0_1 _ h Jk5 hk5
 change _∧DN N a0 k2 (xk5::xsk5) s9 bn=_ at h
 rw[DN]at h
 refine AB (.q (.r []) (.q (.c .z .z) .z)) ?_
 simp(disch:=omega) only[vm,seval,h.1]
 refine⟨AQ (γ:=Unit) h [4,11,12,13,14,15,16,17,18,19,20,21,22,23,24,25,26,27,28,29] [] (fun j6 g=>[]) (fun j6 g=>(n,List.map (AVal.int .u8) j6)::m) (.q (.r []) .z) ?_ ?_⟩<;>clear h
 rintro j6 _ n9 hnn9 _ _ h
 refine AB (.r []) ?_
 exact tJ (hk5 j6 ())
 intro k7 Jk7 hk7 h
 simp(disch:=omega) only[vm,seval,h.1]
 refine⟨AQ (γ:=Unit) h [12,13,14,15,16,17,18,19,20,21,22] [23] (fun j10 g=>[.bool j10]) (fun j10 g=>(n,List.map (AVal.int .u8) bn)::m) (.r []) ?_ ?_⟩<;>clear h
 rintro j10 _ n13 hnn13 _ _ h
 refine AB (.c (.r []) .z) ?_
 rcases AC h with h|h
 obtain⟨c,h⟩:=AR h
 try simp only[liE,seval]at c
 replace h:=AP c h
 obtain⟨x15,h⟩:=AA h
 obtain⟨c,h⟩:=AR h
 try simp only[liE,seval]at c
 replace h:=AP c h
 exact tJ (hk7 (bn.set s9.toNat (wr .u8 (x15+32))) ())
 exact tJ (hk7 bn ())
 intro k11 Jk11 hk11 h
 obtain⟨c,h⟩:=AR h
 try simp only[liE,seval]at c
 replace h:=AP c h
 obtain⟨x14,h⟩:=AA h
 rcases AC h with h|h
 exact tJ (hk11 (decide (x14≤90)) ())
 exact tJ (hk11 false ())
theorem GJ {a0 r} (h:ES N a0=some r) (ha:args=[.int .u8 a0]) (hQ: ∀n',n≤n'→Gl (Q (.bool r) ⟨m,n'⟩)):ACall vE 136 args ⟨m,n⟩ Q:=by
 rw[ES]at h
 subst ha
 refine ent hQ Tryz.func136 rfl Tryz.ntmps136 Tryz.results136 (.q (.r []) (.q (.r []) .z)) fun R hR=>?_
 replace h:=And.intro trivial h
 rcases AC h with h|h
 rcases AC h with h|h
 exact tR
 rcases AC h with h|h
 exact tR
 exact tR
 rcases AC h with h|h
 exact tR
 exact tR
theorem Dh {a0 r} (h:CY N a0=some r) (ha:args=[.int .u8 a0]) (hQ: ∀n',n≤n'→Gl (Q (.bool r) ⟨m,n'⟩)):ACall vE 137 args ⟨m,n⟩ Q:=by
 rw[CY]at h
 subst ha
 refine ent hQ Tryz.func137 rfl Tryz.ntmps137 Tryz.results137 (.q (.r []) (.q (.r []) .z)) fun R hR=>?_
 replace h:=And.intro trivial h
 rcases AC h with h|h
 exact tR
 exact tR
theorem K5 {a0 r} (h:FN N a0=some r) (ha:args=[.int .u8 a0]) (hQ: ∀n',n≤n'→Gl (Q (.str r) ⟨m,n'⟩)):ACall vE 86 args ⟨m,n⟩ Q:=by
 rw[FN]at h
 subst ha
 refine ent hQ Tryz.func86 rfl Tryz.ntmps86 Tryz.results86 (.q (.r []) (.q .z .z)) fun R hR=>?_
 replace h:=And.intro trivial h
 obtain⟨x1,h⟩:=AA h
 obtain⟨x2,h⟩:=AA h
 refine L6 h ?_
 clear h
 intro l3 c h
 replace c:=congrArg (List.map (AVal.int .u8)) c
 simp only[List.map_cons,List.map_nil,eE]at c
 replace h:=AP c h
 simp(disch:=omega) only[vm,seval,h.1]
 refine⟨BI [] (.take 0 (.take 1 (.take 2 (.take 3 (.take 4 (.take 5 (.take 6 (.alt 7 [5,4,3,2,1,0] (.alt 8 [] (.done) (.stop)) (.stop))))))))) Au (by kernel_rfl) ?_⟩
 exact tR
end Go.Proofs.YtjgdhjpafjpjgaaGreatDoor
