import Derived.Test.YtjgdhjpafjpjgaaGreatDoorVmFacts
import Derived.Test.YtjgdhjpafjpjgaaGreatDoorDefs
import Derived.Test.YtjgdhjpafjpjgaaGreatDoorVM2
import Derived.Test.YtjgdhjpafjpjgaaGreatDoorVM5
set_option linter.unusedVariables false
set_option linter.unusedSimpArgs false
set_option maxHeartbeats 4000000
set_option maxRecDepth 100000
set_option linter.defProp false
namespace Go.Proofs.YtjgdhjpafjpjgaaGreatDoor
open Go.VM
variable{N n:Nat}{m:MS}{Q:PQ}{args:List AVal}
theorem Dw {a0 a1 r} (h:BA N a0 a1=some r) (ha:args=[.str a0,.int .u8 a1]) (hQ: ∀n',n≤n'→Gl (Q (.int .i64 r) ⟨m,n'⟩)):ACall vE 134 args ⟨m,n⟩ Q:=by
 rw[BA]at h
 subst ha
 refine ent hQ Tryz.func134 rfl Tryz.ntmps134 Tryz.results134 (.q (.r []) (.q (.r []) .z)) fun R hR=>?_
 replace h:=And.intro trivial h
 simp(disch:=omega) only[vm,seval,h.1]
 refine⟨AJz ?_⟩
 exact tR
theorem CQ {a0 r} (h:CP N a0=some r) (ha:args=[.int .u8 a0]) (hQ: ∀n',n≤n'→Gl (Q (.bool r) ⟨m,n'⟩)):ACall vE 192 args ⟨m,n⟩ Q:=by
 rw[CP]at h
 subst ha
 refine ent hQ Tryz.func192 rfl Tryz.ntmps192 Tryz.results192 (.q (.r []) (.q (.r []) .z)) fun R hR=>?_
 replace h:=And.intro trivial h
 rcases AC h with h|h
 exact tR
 exact tR
theorem A8 {a0 a1 a2 r}{i0:Nat} (h:Az N a0 a1 a2=some r) (ha:args=[.ptr i0 0,.int .i64 a1,.int .i64 a2]) (hi0:BD m i0=some ([.str a0.s,.int .i64 a0.at_,.int .i64 a0.nodes,.int .i64 a0.fail,.int .i64 a0.where_])) (hQ: ∀n',n≤n'→Gl (Q (.tuple []) ⟨BQ m i0 ([.str r.s,.int .i64 r.at_,.int .i64 r.nodes,.int .i64 r.fail,.int .i64 r.where_]),n'⟩)):ACall vE 46 args ⟨m,n⟩ Q:=by
 rw[Az]at h
 subst ha
 refine ACall.front hi0 fun hin=>ent (fun n' k=>⟨_,rfl,(hQ n' k).go⟩) Tryz.func46 rfl Tryz.ntmps46 Tryz.results46 (.q (.r []) (.c (.r []) .z)) fun R hR=>?_
 replace h:=And.intro trivial h
 rcases AC h with h|h
 obtain⟨H,h⟩:=h
 cases h
 simp(disch:=omega) only[vm,seval,H]
 refine⟨(hR _ _ _ _ _ _ (by simp(disch:=omega) only[vm,seval,H];rfl) slr ?_ (by omega) ?_).2⟩<;>first|(simp(disch:=omega) only[vm,seval,H];done)|rfl
 obtain⟨H,h⟩:=h
 cases h
 simp(disch:=omega) only[vm,seval,H]
 refine⟨(hR _ _ _ _ _ _ (by simp(disch:=omega) only[vm,seval,H];rfl) slr ?_ (by omega) ?_).2⟩<;>first|(simp(disch:=omega) only[vm,seval,H];done)|rfl
theorem Dj {a0 a1 r} (h:EI N a0 a1=some r) (ha:args=[Fx a0,.str a1]) (hQ: ∀n',n≤n'→Gl (Q (.bool r) ⟨m,n'⟩)):ACall vE 91 args ⟨m,n⟩ Q:=by
 rw[EI]at h
 subst ha
 refine ent hQ Tryz.func91 rfl Tryz.ntmps91 Tryz.results91 (.q (.r []) (.q (.r []) .z)) fun R hR=>?_
 replace h:=And.intro trivial h
 rcases AC h with h|h
 exact tR
 exact tR
theorem Gb {a0 a1 r} (h:FX N a0 a1=some r) (ha:args=[.int .u8 a0,.str a1]) (hQ: ∀n',n≤n'→Gl (Q (.bool r) ⟨m,n'⟩)):ACall vE 85 args ⟨m,n⟩ Q:=by
 rw[FX]at h
 subst ha
 refine ent hQ Tryz.func85 rfl Tryz.ntmps85 Tryz.results85 (.q (.r []) .z) fun R hR=>?_
 replace h:=And.intro trivial h
 simp(disch:=omega) only[vm,seval,h.1]
 refine⟨AP (γ:=Unit) h [4,5,6,7,8,9,10,11,12,13,14,15,16] [] (fun j1 g=>[]) (fun j1 g=>m) (.q (.r []) .z) ?_ ?_⟩<;>clear h
 rintro j1 _ n4 hnn4 _ _ h
 refine AB (.q (.r []) .z) ?_
 exact tR
 intro k2 Jk2 hk2 h
 obtain⟨hfk5,h⟩:=AU h
 simp(disch:=omega) only[vm,seval,h.1]
 refine⟨C9 (σ:=Unit) (γ:=Unit) a1 hfk5 (fun xs i s=>DU N a0 k2 xs) (fun i s g=>[.int .i64 i]) (fun i s g=>m) [4,6,7,8,9,10,11,12,13,14,15,16] [5] () () h tD tD ?_ ?_⟩<;>clear h
 rintro s5 _ _ nL0_1 hnL0_1 _ h
 change _∧DU N a0 k2 []=_ at h
 rw[DU]at h
 refine AB (.q (.q (.r []) (.c .z .z)) (.q (.q (.r []) (.c (.q (.r []) .z) .z)) (.r []))) ?_
 exact tJ (hk2 () ())
 rintro xk5 xsk5 s5 _ _ nL0_1 hnL0_1 _ h Jk5 hk5
 change _∧DU N a0 k2 (xk5::xsk5)=_ at h
 rw[DU]at h
 refine AB (.q (.q (.r []) (.c .z .z)) (.q (.q (.r []) (.c (.q (.r []) .z) .z)) (.r []))) ?_
 rcases AC h with h|h
 exact tR
 exact tJ (hk5 () ())
theorem EZ {a0 r} (h:D9 N a0=some r) (ha:args=[.int .u8 a0]) (hQ: ∀n',n≤n'→Gl (Q (.bool r) ⟨m,n'⟩)):ACall vE 137 args ⟨m,n⟩ Q:=by
 rw[D9]at h
 subst ha
 refine ent hQ Tryz.func137 rfl Tryz.ntmps137 Tryz.results137 (.q (.r []) (.q (.r []) .z)) fun R hR=>?_
 replace h:=And.intro trivial h
 rcases AC h with h|h
 exact tR
 exact tR
theorem JY {a0 a1 r} (h:H6 N a0 a1=some r) (ha:args=[.str a0,.int .i64 a1]) (hQ: ∀n',n≤n'→Gl (Q (.str r) ⟨m,n'⟩)):ACall vE 145 args ⟨m,n⟩ Q:=by
 rw[H6]at h
 subst ha
 refine ent hQ Tryz.func145 rfl Tryz.ntmps145 Tryz.results145 (.q (.r []) (.q (.q (.r []) (.c (.q (.r []) .z) .z)) (.q (.r []) .z))) fun R hR=>?_
 replace h:=And.intro trivial h
 rcases AC h with h|h
 exact tR
 obtain⟨x1,h⟩:=AA h
 exact tR
theorem KO {a0 r} (h:HZ N a0=some r) (ha:args=[.int .u64 a0]) (hQ: ∀n',n≤n'→Gl (Q (.str r) ⟨m,n'⟩)):ACall vE 146 args ⟨m,n⟩ Q:=by
 rw[HZ]at h
 subst ha
 refine ent hQ Tryz.func146 rfl Tryz.ntmps146 Tryz.results146 (.q (.r []) (.q (.r []) .z)) fun R hR=>?_
 replace h:=And.intro trivial h
 simp(disch:=omega) only[vm,seval,h.1]
 refine⟨E8 (σ:=Int×(List UInt8)) (γ:=Unit) (fun k s=>Eb N k s.1 s.2) (fun s g=>[.int .u64 s.1,.str s.2]) (fun s g=>m) [2,4,5,6,7,8,9,10,11,12,13,14,15,16] [0,3] (a0,[]) () h (fun _=>rfl) tD tD ?_⟩
 clear h
 rintro k1 ⟨s0,s3⟩ _ nL0_1 hnL0_1 _ h Jk1 hk1
 change _∧Eb N (k1+1) s0 s3=_ at h
 rw[Eb]at h
 refine AB (.q (.r []) (.q (.r []) (.q (.r []) (.c (.q (.r []) .z) .z)))) ?_
 obtain⟨c,h⟩:=AU h
 try simp only[liE,seval]at c
 replace h:=AQ c h
 rcases AC h with h|h
 exact tR
 exact tJ (hk1 ((wr .u64 (s0.tdiv 10)),((List.map FQ [(wr .u8 (wr .u64 (48+(s0.tmod 10))))])++s3)) ())
theorem TS {a0 r} (h:LP N a0=some r) (ha:args=[.str a0]) (hQ: ∀n',n≤n'→Gl (Q (.int .i64 r) ⟨m,n'⟩)):ACall vE 93 args ⟨m,n⟩ Q:=by
 rw[LP]at h
 subst ha
 refine ent hQ Tryz.func93 rfl Tryz.ntmps93 Tryz.results93 (.q (.r []) (.q (.q (.r []) (.q (.r []) (.c (.q (.r []) .z) (.q (.r []) (.c (.q (.r []) .z) .z))))) (.q (.r []) .z))) fun R hR=>?_
 replace h:=And.intro trivial h
 rcases AC h with h|h
 exact tR
 rcases AC h with h|h
 exact tR
 exact tR
theorem NG {a0 r} (h:Im N a0=some r) (ha:args=[.int .u8 a0]) (hQ: ∀n',n≤n'→Gl (Q (.bool r) ⟨m,n'⟩)):ACall vE 136 args ⟨m,n⟩ Q:=by
 rw[Im]at h
 subst ha
 refine ent hQ Tryz.func136 rfl Tryz.ntmps136 Tryz.results136 (.q (.r []) (.q (.r []) .z)) fun R hR=>?_
 replace h:=And.intro trivial h
 rcases AC h with h|h
 rcases AC h with h|h
 exact tR
 rcases AC h with h|h
 exact tR
 exact tR
 rcases AC h with h|h
 exact tR
 exact tR
theorem Od {a0 r} (h:KG N a0=some r) (ha:args=[.int .i64 a0]) (hQ: ∀n',n≤n'→Gl (Q (.bool r) ⟨m,n'⟩)):ACall vE 247 args ⟨m,n⟩ Q:=by
 rw[KG]at h
 subst ha
 refine ent hQ Tryz.func247 rfl Tryz.ntmps247 Tryz.results247 (.q (.r []) (.q (.r []) .z)) fun R hR=>?_
 replace h:=And.intro trivial h
 rcases AC h with h|h
 rcases AC h with h|h
 rcases AC h with h|h
 exact tR
 exact tR
 exact tR
 exact tR
theorem PH {a0 r} (h:J3 N a0=some r) (ha:args=[.str a0]) (hQ: ∀n',n≤n'→Gl (Q (.int .i64 r) ⟨m,n'⟩)):ACall vE 231 args ⟨m,n⟩ Q:=by
 rw[J3]at h
 subst ha
 refine ent hQ Tryz.func231 rfl Tryz.ntmps231 Tryz.results231 (.q (.r []) (.q (.q (.r []) (.c (.q (.r []) .z) .z)) (.q .z .z))) fun R hR=>?_
 replace h:=And.intro trivial h
 rcases AC h with h|h
 obtain⟨x1,h⟩:=AA h
 exact tR
 obtain⟨x2,h⟩:=AA h
 obtain⟨c,h⟩:=AU h
 try simp only[liE,seval]at c
 replace h:=AQ c h
 simp(disch:=omega) only[vm,seval,h.1]
 refine⟨BL [] (.take 0 (.take 1 (.take 2 (.take 3 (.take 4 (.take 5 (.take 6 (.take 7 (.take 8 (.alt 9 [] (.done) (.stop))))))))))) Ar (by kernel_rfl) ?_⟩
 simp(disch:=omega) only[vm,seval,h.1]
 refine⟨AP (γ:=Unit) h [4,20,21,22,23,24,25,26,27,28,29,30,31,32,33] [3] (fun j3 g=>[.int .i64 j3]) (fun j3 g=>m) (.q (.r []) .z) ?_ ?_⟩<;>clear h
 rintro j3 _ n6 hnn6 _ _ h
 refine AB (.q (.r []) .z) ?_
 exact tR
 intro k4 Jk4 hk4 h
 obtain⟨hfk7,h⟩:=AU h
 simp(disch:=omega) only[vm,seval,h.1]
 refine⟨ML (σ:=Int) (γ:=Unit) 1 (a0.length:Int) hfk7 (fun xs i s=>DZ N a0 k4 xs i s) (fun i s g=>[.int .i64 s,.int .i64 i]) (fun i s g=>m) [20,21,22,23,24,25,26,27,28,29,30,31,32,33] [3,4] (GN .i64 (wr .i64 (AV x2)) (wr .i64 ((SC .i64 1 (wr .i64 (7-(a0.length:Int))))-1))) () h tD tD ?_ ?_⟩<;>clear h
 rintro s4 s3 _ nL0_1 hnL0_1 _ h
 change _∧DZ N a0 k4 0 s4 s3=_ at h
 rw[DZ]at h
 refine AB (.q (.q (.r []) (.c .z .z)) (.q (.r []) (.r []))) ?_
 exact tJ (hk4 s3 ())
 rintro xsk7 s4 s3 _ nL0_1 hnL0_1 _ h Jk7 hk7
 change _∧DZ N a0 k4 (xsk7+1) s4 s3=_ at h
 rw[DZ]at h
 refine AB (.q (.q (.r []) (.c .z .z)) (.q (.r []) (.r []))) ?_
 obtain⟨x8,h⟩:=AA h
 exact tJ (hk7 (HV .i64 (SC .i64 s3 6) (GN .i64 (wr .i64 (AV x8)) 63)) ())
theorem Vt {a0 a1 r} (h:Mf N a0 a1=some r) (ha:args=[AJ a0,.str a1]) (hQ: ∀n',n≤n'→Gl (Q (.tuple [AJ r.1,.bool r.2]) ⟨m,n'⟩)):ACall vE 147 args ⟨m,n⟩ Q:=by
 rw[Mf]at h
 subst ha
 refine J9 hQ Tryz.func147 rfl Tryz.ntmps147 Tryz.results147 (.q (.r []) (.q (.q (.r []) (.c (.q (.r []) .z) .z)) .z)) fun R hR=>?_
 replace h:=And.intro trivial h
 rcases AC h with h|h
 exact tR
 simp(disch:=omega) only[vm,seval,h.1]
 refine⟨AP (γ:=Unit) h [5,6,11,12,13,14,15,16,17,18,19,20,21,22,23,24,25,26,27,28,29,30,31,32,33,34,35,36] [] (fun j1 g=>[]) (fun j1 g=>((n+1),[.int .i64 0,.str [],.slice 1 (List.map AVal.str []) true,.slice 4 (List.map AJ []) true])::(n,[.int .i64 a0.kind,.str a0.text,.slice 1 (List.map AVal.str a0.keys) false,.slice 4 (List.map AJ a0.items) false])::m) (.q (.r []) .z) ?_ ?_⟩<;>clear h
 rintro j1 _ n4 hnn4 _ _ h
 refine AB (.q (.r []) .z) ?_
 exact tR
 intro k2 Jk2 hk2 h
 obtain⟨hfk5,h⟩:=AU h
 simp(disch:=omega) only[vm,seval,h.1]
 refine⟨C9 (σ:=Unit) (γ:=Unit) a0.keys hfk5 (fun xs i s=>ER N a0 a1 k2 xs i) (fun i s g=>[.int .i64 i]) (fun i s g=>((n+1),[.int .i64 0,.str [],.slice 1 (List.map AVal.str []) true,.slice 4 (List.map AJ []) true])::(n,[.int .i64 a0.kind,.str a0.text,.slice 1 (List.map AVal.str a0.keys) false,.slice 4 (List.map AJ a0.items) false])::m) [5,6,15,16,17,18,19,20,21,22,23,24,25,26,27,28,29,30,31,32,33,34,35,36] [14] () () h tD tD ?_ ?_⟩<;>clear h
 rintro s14 _ _ nL0_1 hnL0_1 _ h
 change _∧ER N a0 a1 k2 [] s14=_ at h
 rw[ER]at h
 refine AB (.q (.r []) (.q (.c .z .z) (.q (.q (.r []) .z) (.r [])))) ?_
 exact tJ (hk2 () ())
 rintro xk5 xsk5 s14 _ _ nL0_1 hnL0_1 _ h Jk5 hk5
 change _∧ER N a0 a1 k2 (xk5::xsk5) s14=_ at h
 rw[ER]at h
 refine AB (.q (.r []) (.q (.c .z .z) (.q (.q (.r []) .z) (.r [])))) ?_
 simp(disch:=omega) only[vm,seval,h.1]
 refine⟨AP (γ:=Unit) h [17,18,19,20,21,22,23,24,25,26,27,28,29] [30] (fun j6 g=>[.bool j6]) (fun j6 g=>((n+1),[.int .i64 0,.str [],.slice 1 (List.map AVal.str []) true,.slice 4 (List.map AJ []) true])::(n,[.int .i64 a0.kind,.str a0.text,.slice 1 (List.map AVal.str a0.keys) false,.slice 4 (List.map AJ a0.items) false])::m) (.r []) ?_ ?_⟩<;>clear h
 rintro j6 _ n9 hnn9 _ _ h
 refine AB (.c (.q (.r []) .z) .z) ?_
 rcases AC h with h|h
 obtain⟨x10,h⟩:=AA h
 exact tR
 exact tJ (hk5 () ())
 intro k7 Jk7 hk7 h
 rcases AC h with h|h
 exact tJ (hk7 (decide (s14<(a0.items.length:Int))) ())
 exact tJ (hk7 false ())
theorem Jk {a0 r} (h:Gf N a0=some r) (ha:args=[.int .u64 a0]) (hQ: ∀n',n≤n'→Gl (Q (.str r) ⟨m,n'⟩)):ACall vE 135 args ⟨m,n⟩ Q:=by
 rw[Gf]at h
 subst ha
 refine ent hQ Tryz.func135 rfl Tryz.ntmps135 Tryz.results135 (.q (.r []) (.q (.r []) (.q (.r []) .z))) fun R hR=>?_
 replace h:=And.intro trivial h
 simp(disch:=omega) only[vm,seval,h.1]
 refine⟨AP (γ:=Unit) h [5,6,7,8,9,10,11,12,13,14,15,16] [0,4] (fun j1 g=>[.int .u64 j1.1,.int .i64 j1.2.1]) (fun j1 g=>(n,List.map (AVal.int .u8) j1.2.2)::m) .z ?_ ?_⟩<;>clear h
 rintro j1 _ n4 hnn4 _ _ h
 refine AB (.q (.r []) (.q (.r []) .z)) ?_
 obtain⟨c,h⟩:=AU h
 try simp only[liE,seval]at c
 replace h:=AQ c h
 obtain⟨c,h⟩:=AU h
 try simp only[liE,seval]at c
 replace h:=AQ c h
 obtain⟨c,h⟩:=AU h
 try simp only[liE,seval]at c
 replace h:=AQ c h
 obtain⟨c,h⟩:=AU h
 try simp only[liE,seval]at c
 replace h:=AQ c h
 exact tR
 intro k2 Jk2 hk2 h
 simp(disch:=omega) only[vm,seval,h.1]
 refine⟨E8 (σ:=Int×Int×(List Int)) (γ:=Unit) (fun k s=>ED N k2 k s.1 s.2.1 s.2.2) (fun s g=>[.int .u64 s.1,.int .i64 s.2.1]) (fun s g=>(n,List.map (AVal.int .u8) s.2.2)::m) [5,6,7,8,9,10,11,12,13,14,15,16] [0,4] (a0,19,(List.replicate 20 0)) () h (fun _=>rfl) tD tD ?_⟩
 clear h
 rintro k5 ⟨s0,s4,bn⟩ _ nL0_1 hnL0_1 _ h Jk5 hk5
 change _∧ED N k2 (k5+1) s0 s4 bn=_ at h
 rw[ED]at h
 refine AB (.q (.q (.r []) (.c .z .z)) (.q (.q (.r []) (.r [])) (.r []))) ?_
 rcases AC h with h|h
 obtain⟨c,h⟩:=AU h
 try simp only[liE,seval]at c
 replace h:=AQ c h
 obtain⟨c,h⟩:=AU h
 try simp only[liE,seval]at c
 replace h:=AQ c h
 exact tJ (hk5 ((wr .u64 (s0.tdiv 10)),(wr .i64 (s4-1)),(bn.set s4.toNat (wr .u8 (wr .u64 (48+(s0.tmod 10)))))) ())
 exact tJ (hk2 (s0,s4,bn) ())
theorem NQ {a0 r} (h:Ic N a0=some r) (ha:args=[Fj a0]) (hQ: ∀n',n≤n'→Gl (Q (GH r) ⟨m,n'⟩)):ACall vE 81 args ⟨m,n⟩ Q:=by
 rw[Ic]at h
 subst ha
 refine ent hQ Tryz.func81 rfl Tryz.ntmps81 Tryz.results81 (.q (.r []) (.q (.r []) .z)) fun R hR=>?_
 replace h:=And.intro trivial h
 exact tR
theorem NT {a0 r} (h:Ij N a0=some r) (ha:args=[Fj a0]) (hQ: ∀n',n≤n'→Gl (Q (.str r) ⟨m,n'⟩)):ACall vE 82 args ⟨m,n⟩ Q:=by
 rw[Ij]at h
 subst ha
 refine ent hQ Tryz.func82 rfl Tryz.ntmps82 Tryz.results82 (.q (.r []) (.q (.q (.r []) (.c (.q (.r []) .z) .z)) (.q (.r []) .z))) fun R hR=>?_
 replace h:=And.intro trivial h
 rcases AC h with h|h
 obtain⟨c,h⟩:=AU h
 try simp only[liE,seval]at c
 replace h:=AQ c h
 obtain⟨c,h⟩:=AU h
 try simp only[liE,seval]at c
 replace h:=AQ c h
 exact tR
 exact tR
theorem Fa {a0 r} (h:Ej N a0=some r) (ha:args=[KU a0]) (hQ: ∀n',n≤n'→Gl (Q (.str r) ⟨m,n'⟩)):ACall vE 51 args ⟨m,n⟩ Q:=by
 rw[Ej]at h
 subst ha
 refine ent hQ Tryz.func51 rfl Tryz.ntmps51 Tryz.results51 (.q (.r []) (.q (.r []) .z)) fun R hR=>?_
 replace h:=And.intro trivial h
 obtain⟨c,h⟩:=AU h
 try simp only[liE,seval]at c
 replace h:=AQ c h
 obtain⟨c,h⟩:=AU h
 try simp only[liE,seval]at c
 replace h:=AQ c h
 obtain⟨c,h⟩:=AU h
 try simp only[liE,seval]at c
 replace h:=AQ c h
 exact tR
theorem Ce {a0 a1 r} (h:BU N a0 a1=some r) (ha:args=[.str a0,.str a1]) (hQ: ∀n',n≤n'→Gl (Q (.bool r) ⟨m,n'⟩)):ACall vE 211 args ⟨m,n⟩ Q:=by
 rw[BU]at h
 subst ha
 refine ent hQ Tryz.func211 rfl Tryz.ntmps211 Tryz.results211 (.q (.r []) (.q (.r []) .z)) fun R hR=>?_
 replace h:=And.intro trivial h
 rcases AC h with h|h
 obtain⟨x1,h⟩:=AA h
 exact tR
 exact tR
theorem G5 {a0 r} (h:FV N a0=some r) (ha:args=[.int .u8 a0]) (hQ: ∀n',n≤n'→Gl (Q (.bool r) ⟨m,n'⟩)):ACall vE 191 args ⟨m,n⟩ Q:=by
 rw[FV]at h
 subst ha
 refine ent hQ Tryz.func191 rfl Tryz.ntmps191 Tryz.results191 (.q (.r []) (.q (.r []) .z)) fun R hR=>?_
 replace h:=And.intro trivial h
 rcases AC h with h|h
 exact tR
 exact tR
theorem Jp {a0 a1 r}{i0:Nat} (h:FL N a0 a1=some r) (ha:args=[.ptr i0 0,.int .u8 a1]) (hi0:BD m i0=some ([.slice 1 (List.map (AVal.int .u8) a0) true])) (hQ: ∀n',n≤n'→Gl (Q (.tuple []) ⟨BQ m i0 ([.slice 1 (List.map (AVal.int .u8) r) true]),n'⟩)):ACall vE 79 args ⟨m,n⟩ Q:=by
 rw[FL]at h
 subst ha
 refine ACall.front hi0 fun hin=>ent (fun n' k=>⟨_,rfl,(hQ n' k).go⟩) Tryz.func79 rfl Tryz.ntmps79 Tryz.results79 .z fun R hR=>?_
 replace h:=And.intro trivial h
 obtain⟨x1,h⟩:=AA h
 obtain⟨x2,h⟩:=AA h
 obtain⟨c,h⟩:=AU h
 try simp only[liE,seval]at c
 replace h:=AQ c h
 simp(disch:=omega) only[vm,seval,h.1]
 refine⟨BL [7] (.take 0 (.take 1 (.take 2 (.take 4 (.take 5 (.take 6 (.take 7 (.take 8 (.take 9 (.take 10 (.alt 3 [10,9,8,7,6,5,4,1,0] (.alt 11 [9,8,7,6,5,4,2,1,0] (.take 12 (.alt 13 [] (.done) (.stop))) (.stop)) (.stop)))))))))))) Ar (by kernel_rfl) ?_⟩
 obtain⟨H,h⟩:=h
 cases h
 simp(disch:=omega) only[vm,seval,H]
 refine⟨(hR _ _ _ _ _ _ (by simp(disch:=omega) only[vm,seval,H];rfl) slr ?_ (by omega) ?_).2⟩<;>first|(simp(disch:=omega) only[vm,seval,H];done)|rfl
theorem Hf {a0 r}{i0:Nat} (h:Dq N a0=some r) (ha:args=[.ptr i0 0]) (hi0:BD m i0=some ([FJ i0 196 2 a0.addr,.buf 5 a0.buf true])) (hQ: ∀n',n≤n'→Gl (Q (.tuple []) ⟨BQ m i0 ([FJ i0 196 2 r.addr,.buf 5 r.buf true]),n'⟩)):ACall vE 214 args ⟨m,n⟩ Q:=by
 rw[Dq]at h
 subst ha
 refine ACall.front hi0 fun hin=>ent (fun n' k=>⟨_,rfl,(hQ n' k).go⟩) Tryz.func214 rfl Tryz.ntmps214 Tryz.results214 (.q (.r []) (.c (.r []) (.q (.r []) (.c .z .z)))) fun R hR=>?_
 replace h:=And.intro trivial h
 rcases AC h with h|h
 obtain⟨H,h⟩:=h
 cases h
 simp(disch:=omega) only[vm,seval,H]
 refine⟨(hR _ _ _ _ _ _ (by simp(disch:=omega) only[vm,seval,H];rfl) slr ?_ (by omega) ?_).2⟩<;>first|(simp(disch:=omega) only[vm,seval,H];done)|rfl
 simp(disch:=omega) only[vm,seval,h.1]
 refine⟨ABv ?_⟩
 obtain⟨H,h⟩:=h
 cases h
 simp(disch:=omega) only[vm,seval,H]
 refine⟨(hR _ _ _ _ _ _ (by simp(disch:=omega) only[vm,seval,H];rfl) slr ?_ (by omega) ?_).2⟩<;>first|(simp(disch:=omega) only[vm,seval,H];done)|rfl
theorem FW {a0 r}{i0:Nat} (h:DN N a0=some r) (ha:args=[.ptr i0 0]) (hi0:BD m i0=some ([FJ i0 196 2 a0.addr,.buf 5 a0.buf true])) (hQ: ∀n',n≤n'→Gl (Q (.str r.1) ⟨BQ m i0 ([FJ i0 196 2 r.2.addr,.buf 5 r.2.buf false]),n'⟩)):ACall vE 170 args ⟨m,n⟩ Q:=by
 rw[DN]at h
 subst ha
 refine ACall.front hi0 fun hin=>ent (fun n' k=>⟨_,rfl,(hQ n' k).go⟩) Tryz.func170 rfl Tryz.ntmps170 Tryz.results170 (.q (.r []) (.q .z .z)) fun R hR=>?_
 replace h:=And.intro trivial h
 simp(disch:=omega) only[vm,seval,h.1]
 refine⟨BL [6] (.take 0 (.take 1 (.take 2 (.take 5 (.take 6 (.take 7 (.take 8 (.take 9 (.alt 3 [9,8,7,6,5,1,0] (.alt 4 [9,8,7,6,5,2,1,0] (.alt 10 [8,7,6,5,2,1,0] (.alt 11 [] (.done) (.stop)) (.stop)) (.stop)) (.stop)))))))))) Ar (by kernel_rfl) ?_⟩
 exact tR
theorem D5 {a0 r} (h:Bo N a0=some r) (ha:args=[.str a0]) (hQ: ∀n',n≤n'→Gl (Q (.int .i64 r) ⟨m,n'⟩)):ACall vE 259 args ⟨m,n⟩ Q:=by
 rw[Bo]at h
 subst ha
 refine ent hQ Tryz.func259 rfl Tryz.ntmps259 Tryz.results259 (.q (.r []) .z) fun R hR=>?_
 replace h:=And.intro trivial h
 simp(disch:=omega) only[vm,seval,h.1]
 refine⟨AP (γ:=Unit) h [3,4,5,6,7,8] [2] (fun j1 g=>[.int .i64 j1]) (fun j1 g=>m) (.q (.r []) .z) ?_ ?_⟩<;>clear h
 rintro j1 _ n4 hnn4 _ _ h
 refine AB (.q (.r []) .z) ?_
 exact tR
 intro k2 Jk2 hk2 h
 simp(disch:=omega) only[vm,seval,h.1]
 refine⟨E8 (σ:=Int×Nat) (γ:=Unit) (fun k s=>BK N a0 k2 k s.1 s.2) (fun s g=>[.int .i64 s.1,.iter a0 s.2]) (fun s g=>m) [5,6,7,8] [2,4] (0,0) () h (fun _=>rfl) tD tD ?_⟩
 clear h
 rintro k5 ⟨s2,s4⟩ _ nL0_1 hnL0_1 _ h Jk5 hk5
 change _∧BK N a0 k2 (k5+1) s2 s4=_ at h
 rw[BK]at h
 refine AB (.q (.r []) (.q (.c .z .z) (.r []))) ?_
 rcases AC h with h|h
 exact tJ (hk5 ((wr .i64 (s2+1)),(s4+(Bp a0 s4).2)) ())
 exact tJ (hk2 s2 ())
theorem AA0{i0:Nat} (ha:args=[.ptr i0 0]) (hi0:BD m i0=some [.nself i0 196 2,.nbuf 5]) (hQ: ∀n',n≤n'→Gl (Q (.tuple []) ⟨BQ m i0 [.ptr i0 0,.nbuf 5],n'⟩)):ACall vE 214 args ⟨m,n⟩ Q:=by
 subst ha
 refine ACall.front hi0 fun hin=>ent (fun n' k=>⟨_,rfl,(hQ n' k).go⟩) Tryz.func214 rfl Tryz.ntmps214 Tryz.results214 (.q (.r []) (.c (.r []) (.q (.r []) (.c .z .z)))) fun R hR=>?_
 simp(disch:=omega) only[vm,seval]
 refine⟨ABv ?_⟩
 simp(disch:=omega) only[vm,seval]
 refine⟨(hR _ _ _ _ _ _ (by simp(disch:=omega) only[vm,seval];rfl) slr ?_ (by omega) ?_).2⟩<;>first|(simp(disch:=omega) only[vm,seval];done)|rfl
theorem ACH{k0:Nat}{i0:Nat} (h1:1≤k0) (h2:k0≤140737488355328) (hin:i0<n) (hQ: ∀j n',n≤n'→Gl (Q (.tuple []) ⟨(j,[.any])::(i0,[.ptr i0 0,.trow 5 j 0])::m,n'⟩)):ACall vE 261 [.ptr i0 0,.int .i64 k0] ⟨(i0,[.ptr i0 0,.nbuf 5])::m,n⟩ Q:=by
 have hw:wr .i64 (wr .i64 0+(k0:Int))=(k0:Int):=by rw[show wr .i64 0=0 from rfl];simp only[wr];rw[IntKind.wrap_i64];omega
 refine ALA Tryz.func261 rfl Tryz.ntmps261 Tryz.results261 (.q .z (.q (.r []) (.r []))) fun R hR=>?_
 simp(disch:=omega) only[vm,seval]
 refine⟨BL [] (.take 0 (.take 1 (.take 2 (.take 3 (.take 6 (.take 9 (.take 10 (.take 11 (.take 12 (.take 13 (.alt 4 [13,12,11,10,9,6,2,1,0] (.take 5 (.take 7 (.alt 8 [5,13,12,11,10,9,6,3,2,1,0] (.take 14 (.alt 15 [] (.done) (.stop))) (.stop)))) (.stop)))))))))))) Ar (by kernel_rfl) ?_⟩
 simp(disch:=omega) only[vm,seval,hw]
 refine⟨AKV h1 h2 ?_⟩
 simp(disch:=omega) only[vm,seval,hw]
 refine⟨(hR _ _ [] ((n,[.any])::(i0,[.ptr i0 0,.trow 5 n 0])::m) _ (n+1) (by first|rfl|(simp(disch:=omega) only[vm,seval];rfl)) slr (by omega) (hQ n (n+1) (by omega)).go).2⟩
theorem JP{n0:Int}{r:Unit}{i0:Nat} (h:Et N n0=some r) (ha:args=[.ptr i0 0,.int .i64 n0]) (hi0:BD m i0=some [.nself i0 196 2,.nbuf 5]) (hQ: ∀n',n≤n'→Gl (Q (.tuple []) ⟨BQ m i0 [.ptr i0 0,.buf 5 [] true],n'⟩)):ACall vE 249 args ⟨m,n⟩ Q:=by
 unfold Et at h
 replace h:=AU (And.intro trivial h)
 obtain⟨⟨c1,c2⟩,h⟩:=h
 obtain⟨k0,rfl⟩: ∃k0:Nat,n0=(k0:Int):=⟨n0.toNat,by omega⟩
 clear h
 subst ha
 have e1:decide ((k0:Int)<0)=false:=decide_eq_false (by omega)
 have e2:decide ((0:Int)<(k0:Int))=true:=decide_eq_true (by omega)
 have e3:wr .i64 (0-0)=0:=rfl
 have e4:wr .i64 0=0:=rfl
 refine ACall.front hi0 fun hin=>ACall.fuse (ALA Tryz.func249 rfl Tryz.ntmps249 Tryz.results249 (.q (.r []) (.q (.q (.r []) (.c (.r []) .z)) (.q .z (.c (.r []) .z)))) fun R hR=>?_)
 simp(disch:=omega) only[vm,seval]
 refine⟨AA0 rfl (i0:=i0) (by simp(disch:=omega) only[vm,seval]) fun n2 hn2=>?_⟩
 simp(disch:=omega) only[vm,seval,e1]
 refine⟨BL [] (.take 0 (.take 1 (.take 2 (.take 3 (.take 5 (.take 6 (.take 7 (.take 8 (.take 9 (.take 11 (.alt 4 [11,9,8,7,6,5,2,1,0] (.take 10 (.take 12 (.done))) (.stop)))))))))))) Ar (by kernel_rfl) ?_⟩
 simp(disch:=omega) only[vm,seval,e1,e2,e3,e4]
 refine⟨ACH (by omega) (by omega) (by omega) fun j n3 hn3=>?_⟩
 simp(disch:=omega) only[vm,seval]
 refine⟨(hR _ _ [] ((j,[.any])::(i0,[.ptr i0 0,.trow 5 j 0])::Bd m i0) _ n3 (by first|rfl|(simp(disch:=omega) only[vm,seval];rfl)) slr (by omega) ⟨_,_,_,_,_,rfl,_,rfl,(hQ n3 (by omega)).go⟩).2⟩
theorem FI {a0 r} (h:CL N a0=some r) (ha:args=[.str a0]) (hQ: ∀n',n≤n'→Gl (Q (.tuple [.int .i32 r.1,.int .i64 r.2]) ⟨m,n'⟩)):ACall vE 262 args ⟨m,n⟩ Q:=by
 rw[CL]at h
 subst ha
 refine ent hQ Tryz.func262 rfl Tryz.ntmps262 Tryz.results262 (.q (.r []) (.q (.r []) (.q (.q (.r []) (.c (.q (.r []) .z) .z)) (.q (.r []) (.q (.r []) (.q (.q (.r []) (.c (.q (.r []) (.q (.r []) .z)) .z)) (.q (.r []) (.q (.r []) (.q (.q (.r []) (.c (.q (.r []) .z) .z)) (.q (.r []) (.q .z (.q (.q (.r []) (.c (.q (.r []) .z) .z)) (.q (.r []) (.q .z (.q (.q (.r []) (.c (.q (.r []) .z) .z)) (.q (.r []) (.q .z (.q (.r []) .z)))))))))))))))))) fun R hR=>?_
 replace h:=And.intro trivial h
 rcases AC h with h|h
 exact tR
 obtain⟨x1,h⟩:=AA h
 cases h.2
theorem GA {a0 a1 r} (h:Cs N a0 a1=some r) (ha:args=[.str a0,.str a1]) (hQ: ∀n',n≤n'→Gl (Q (.bool r) ⟨m,n'⟩)):ACall vE 202 args ⟨m,n⟩ Q:=by
 rw[Cs]at h
 subst ha
 refine ent hQ Tryz.func202 rfl Tryz.ntmps202 Tryz.results202 (.q (.r []) (.q (.r []) .z)) fun R hR=>?_
 replace h:=And.intro trivial h
 rcases AC h with h|h
 obtain⟨x1,h⟩:=AA h
 exact tR
 exact tR
theorem Dm {a0 a1 r}{i0:Nat} (h:Ch N a0 a1=some r) (ha:args=[.ptr i0 0,.int .i64 a1]) (hi0:BD m i0=some ([.str a0.did.method,.str a0.did.iD,.int .i64 a0.e])) (hQ: ∀n',n≤n'→Gl (Q (.tuple []) ⟨BQ m i0 ([.str r.did.method,.str r.did.iD,.int .i64 r.e]),n'⟩)):ACall vE 154 args ⟨m,n⟩ Q:=by
 rw[Ch]at h
 subst ha
 refine ACall.front hi0 fun hin=>ent (fun n' k=>⟨_,rfl,(hQ n' k).go⟩) Tryz.func154 rfl Tryz.ntmps154 Tryz.results154 (.q (.r []) (.c (.r []) .z)) fun R hR=>?_
 replace h:=And.intro trivial h
 rcases AC h with h|h
 obtain⟨H,h⟩:=h
 cases h
 simp(disch:=omega) only[vm,seval,H]
 refine⟨(hR _ _ _ _ _ _ (by simp(disch:=omega) only[vm,seval,H];rfl) slr ?_ (by omega) ?_).2⟩<;>first|(simp(disch:=omega) only[vm,seval,H];done)|rfl
 obtain⟨H,h⟩:=h
 cases h
 simp(disch:=omega) only[vm,seval,H]
 refine⟨(hR _ _ _ _ _ _ (by simp(disch:=omega) only[vm,seval,H];rfl) slr ?_ (by omega) ?_).2⟩<;>first|(simp(disch:=omega) only[vm,seval,H];done)|rfl
theorem FT {a0 a1 r} (h:Ez N a0 a1=some r) (ha:args=[AJ a0,.str a1]) (hQ: ∀n',n≤n'→Gl (Q (.tuple [AJ r.1,.bool r.2]) ⟨m,n'⟩)):ACall vE 101 args ⟨m,n⟩ Q:=by
 rw[Ez]at h
 subst ha
 refine J9 hQ Tryz.func101 rfl Tryz.ntmps101 Tryz.results101 (.q (.r []) .z) fun R hR=>?_
 replace h:=And.intro trivial h
 simp(disch:=omega) only[vm,seval,h.1]
 refine⟨AP (γ:=Unit) h [5,6,7,8,9,10,11,12,13,14,15,16,17,18,19,20,21,22,23,24,25,26,27,28,29,30,31,32,33,34,35,36] [] (fun j1 g=>[]) (fun j1 g=>((n+1),[.int .i64 0,.str [],.slice 1 (List.map AVal.str []) true,.slice 4 (List.map AJ []) true])::(n,[.int .i64 a0.kind,.str a0.text,.slice 1 (List.map AVal.str a0.keys) false,.slice 4 (List.map AJ a0.items) false])::m) (.q (.r []) .z) ?_ ?_⟩<;>clear h
 rintro j1 _ n4 hnn4 _ _ h
 refine AB (.q (.r []) .z) ?_
 exact tR
 intro k2 Jk2 hk2 h
 obtain⟨hfk5,h⟩:=AU h
 simp(disch:=omega) only[vm,seval,h.1]
 refine⟨C9 (σ:=Unit) (γ:=Unit) a0.keys hfk5 (fun xs i s=>Dc N a0 a1 k2 xs i) (fun i s g=>[.int .i64 i]) (fun i s g=>((n+1),[.int .i64 0,.str [],.slice 1 (List.map AVal.str []) true,.slice 4 (List.map AJ []) true])::(n,[.int .i64 a0.kind,.str a0.text,.slice 1 (List.map AVal.str a0.keys) false,.slice 4 (List.map AJ a0.items) false])::m) [5,6,7,12,13,14,15,16,17,18,19,20,21,22,23,24,25,26,27,28,29,30,31,32,33,34,35,36] [11] () () h tD tD ?_ ?_⟩<;>clear h
 rintro s11 _ _ nL0_1 hnL0_1 _ h
 change _∧Dc N a0 a1 k2 [] s11=_ at h
 rw[Dc]at h
 refine AB (.q (.r []) (.q (.c .z .z) (.q (.q (.r []) .z) (.r [])))) ?_
 exact tJ (hk2 () ())
 rintro xk5 xsk5 s11 _ _ nL0_1 hnL0_1 _ h Jk5 hk5
 change _∧Dc N a0 a1 k2 (xk5::xsk5) s11=_ at h
 rw[Dc]at h
 refine AB (.q (.r []) (.q (.c .z .z) (.q (.q (.r []) .z) (.r [])))) ?_
 simp(disch:=omega) only[vm,seval,h.1]
 refine⟨AP (γ:=Unit) h [16,17,18,19,20,21,22,23,24,25,26,27,28,29] [30] (fun j6 g=>[.bool j6]) (fun j6 g=>((n+1),[.int .i64 0,.str [],.slice 1 (List.map AVal.str []) true,.slice 4 (List.map AJ []) true])::(n,[.int .i64 a0.kind,.str a0.text,.slice 1 (List.map AVal.str a0.keys) false,.slice 4 (List.map AJ a0.items) false])::m) (.r []) ?_ ?_⟩<;>clear h
 rintro j6 _ n9 hnn9 _ _ h
 refine AB (.c (.q (.r []) .z) .z) ?_
 rcases AC h with h|h
 obtain⟨x10,h⟩:=AA h
 exact tR
 exact tJ (hk5 () ())
 intro k7 Jk7 hk7 h
 rcases AC h with h|h
 rcases AC h with h|h
 exact tJ (hk7 (xk5==a1) ())
 exact tJ (hk7 false ())
 exact tJ (hk7 false ())
theorem Kr {a0 a1 r} (h:IU N a0 a1=some r) (ha:args=[.slice 2 (List.map Bz a0) false,.str a1]) (hQ: ∀n',n≤n'→Gl (Q (.tuple [.str r.1,.bool r.2]) ⟨m,n'⟩)):ACall vE 49 args ⟨m,n⟩ Q:=by
 rw[IU]at h
 subst ha
 refine ent hQ Tryz.func49 rfl Tryz.ntmps49 Tryz.results49 (.q (.r []) .z) fun R hR=>?_
 replace h:=And.intro trivial h
 simp(disch:=omega) only[vm,seval,h.1]
 refine⟨AP (γ:=Unit) h [4,5,7,8,9,10,11,12,13,14,15,16,17,18,19,20] [] (fun j1 g=>[]) (fun j1 g=>m) (.q (.r []) .z) ?_ ?_⟩<;>clear h
 rintro j1 _ n4 hnn4 _ _ h
 refine AB (.q (.r []) .z) ?_
 exact tR
 intro k2 Jk2 hk2 h
 obtain⟨hfk5,h⟩:=AU h
 simp(disch:=omega) only[vm,seval,h.1]
 refine⟨C9 (σ:=Unit) (γ:=Unit) a0 hfk5 (fun xs i s=>Da N a1 k2 xs) (fun i s g=>[.int .i64 i]) (fun i s g=>m) [4,5,7,11,12,13,14,15,16,17,18,19,20] [10] () () h tD tD ?_ ?_⟩<;>clear h
 rintro s10 _ _ nL0_1 hnL0_1 _ h
 change _∧Da N a1 k2 []=_ at h
 rw[Da]at h
 refine AB (.q (.r []) (.q (.c .z .z) (.q (.q (.r []) (.q (.r []) (.c (.q (.r []) .z) .z))) (.r [])))) ?_
 exact tJ (hk2 () ())
 rintro xk5 xsk5 s10 _ _ nL0_1 hnL0_1 _ h Jk5 hk5
 change _∧Da N a1 k2 (xk5::xsk5)=_ at h
 rw[Da]at h
 refine AB (.q (.r []) (.q (.c .z .z) (.q (.q (.r []) (.q (.r []) (.c (.q (.r []) .z) .z))) (.r [])))) ?_
 rcases AC h with h|h
 exact tR
 exact tJ (hk5 () ())
theorem Lj {a0 a1 r} (h:Gw N a0 a1=some r) (ha:args=[Me a0,.str a1]) (hQ: ∀n',n≤n'→Gl (Q (.tuple [.slice 1 (List.map AVal.str r.1) false,.bool r.2]) ⟨m,n'⟩)):ACall vE 50 args ⟨m,n⟩ Q:=by
 rw[Gw]at h
 subst ha
 refine J9 hQ Tryz.func50 rfl Tryz.ntmps50 Tryz.results50 (.q (.r []) .z) fun R hR=>?_
 replace h:=And.intro trivial h
 simp(disch:=omega) only[vm,seval,h.1]
 refine⟨AP (γ:=Unit) h [4,5,7,8,9,10,11,12,13,14,15,16,17,18,19,20,21] [] (fun j1 g=>[]) (fun j1 g=>(n,[.str a0.iD,.slice 1 (List.map AVal.str a0.also) false,.slice 1 (List.map AVal.str a0.controllers) false,.slice 3 (List.map Ad a0.methods) false,.slice 3 (List.map Ac a0.services) false])::m) (.q (.r []) .z) ?_ ?_⟩<;>clear h
 rintro j1 _ n4 hnn4 _ _ h
 refine AB (.q (.r []) .z) ?_
 exact tR
 intro k2 Jk2 hk2 h
 obtain⟨hfk5,h⟩:=AU h
 simp(disch:=omega) only[vm,seval,h.1]
 refine⟨C9 (σ:=Unit) (γ:=Unit) a0.services hfk5 (fun xs i s=>CZ N a1 k2 xs) (fun i s g=>[.int .i64 i]) (fun i s g=>(n,[.str a0.iD,.slice 1 (List.map AVal.str a0.also) false,.slice 1 (List.map AVal.str a0.controllers) false,.slice 3 (List.map Ad a0.methods) false,.slice 3 (List.map Ac a0.services) false])::m) [4,5,7,12,13,14,15,16,17,18,19,20,21] [11] () () h tD tD ?_ ?_⟩<;>clear h
 rintro s11 _ _ nL0_1 hnL0_1 _ h
 change _∧CZ N a1 k2 []=_ at h
 rw[CZ]at h
 refine AB (.q (.r []) (.q (.c .z .z) (.q (.q (.r []) (.q (.r []) (.c (.q (.r []) .z) .z))) (.r [])))) ?_
 exact tJ (hk2 () ())
 rintro xk5 xsk5 s11 _ _ nL0_1 hnL0_1 _ h Jk5 hk5
 change _∧CZ N a1 k2 (xk5::xsk5)=_ at h
 rw[CZ]at h
 refine AB (.q (.r []) (.q (.c .z .z) (.q (.q (.r []) (.q (.r []) (.c (.q (.r []) .z) .z))) (.r [])))) ?_
 rcases AC h with h|h
 exact tR
 exact tJ (hk5 () ())
end Go.Proofs.YtjgdhjpafjpjgaaGreatDoor
