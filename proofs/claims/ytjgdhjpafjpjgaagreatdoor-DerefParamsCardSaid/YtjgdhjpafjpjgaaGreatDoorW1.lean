import Derived.Test.YtjgdhjpafjpjgaaGreatDoorVmFacts
import Derived.Test.YtjgdhjpafjpjgaaGreatDoorDefs
import Derived.Test.YtjgdhjpafjpjgaaGreatDoorVM2
set_option linter.unusedVariables false
set_option linter.unusedSimpArgs false
set_option maxHeartbeats 4000000
set_option maxRecDepth 100000
set_option linter.defProp false
namespace Go.Proofs.YtjgdhjpafjpjgaaGreatDoor
open Go.VM
variable{N n:Nat}{m:MS}{Q:PQ}{args:List AVal}
theorem Ih {a0 r} (h:EU N a0=some r) (ha:args=[.int .i32 a0]) (hQ: ∀n',n≤n'→Gl (Q (.bool r) ⟨m,n'⟩)):ACall vE 233 args ⟨m,n⟩ Q:=by
 rw[EU]at h
 subst ha
 refine ent hQ Tryz.func233 rfl Tryz.ntmps233 Tryz.results233 (.q (.r []) (.q .z (.q (.r []) .z))) fun R hR=>?_
 replace h:=And.intro trivial h
 simp(disch:=omega) only[vm,seval,h.1]
 refine⟨AP (γ:=Unit) h [4,5,6,7,8,9] [3] (fun j1 g=>[.bool j1]) (fun j1 g=>m) (.r []) ?_ ?_⟩<;>clear h
 rintro j1 _ n4 hnn4 _ _ h
 refine AB (.c (.q (.r []) .z) .z) ?_
 rcases AC h with h|h
 exact tR
 simp(disch:=omega) only[vm,seval,h.1]
 refine⟨AP (γ:=Unit) h [11,12,13,14,15,16] [10] (fun j5 g=>[.bool j5]) (fun j5 g=>m) (.r []) ?_ ?_⟩<;>clear h
 rintro j5 _ n8 hnn8 _ _ h
 refine AB (.c (.q (.r []) .z) .z) ?_
 rcases AC h with h|h
 exact tR
 exact tR
 intro k6 Jk6 hk6 h
 rcases AC h with h|h
 exact tJ (hk6 (decide (a0≤1114111)) ())
 exact tJ (hk6 false ())
 intro k2 Jk2 hk2 h
 rcases AC h with h|h
 exact tJ (hk2 (decide (a0<55296)) ())
 exact tJ (hk2 false ())
theorem Hg {a0 r} (h:strings_shouldUseASCIISet N a0=some r) (ha:args=[.int .i64 a0]) (hQ: ∀n',n≤n'→Gl (Q (.bool r) ⟨m,n'⟩)):ACall vE 205 args ⟨m,n⟩ Q:=by
 rw[strings_shouldUseASCIISet]at h
 subst ha
 refine ent hQ Tryz.func205 rfl Tryz.ntmps205 Tryz.results205 (.q (.r []) (.q (.r []) .z)) fun R hR=>?_
 replace h:=And.intro trivial h
 exact tR
theorem JR {a0 r} (h:strings_makeASCIISet N a0=some r) (ha:args=[.str a0]) (hQ: ∀n',n≤n'→Gl (Q (.tuple [.agg (List.map AVal.bool r.1),.bool r.2]) ⟨m,n'⟩)):ACall vE 206 args ⟨m,n⟩ Q:=by
 rw[strings_makeASCIISet]at h
 subst ha
 refine ent hQ Tryz.func206 rfl Tryz.ntmps206 Tryz.results206 (.q (.r []) .z) fun R hR=>?_
 replace h:=And.intro trivial h
 simp(disch:=omega) only[vm,seval,h.1]
 refine⟨AP (γ:=Unit) h [3,4,5,6,7,8,9,10,11,12,13,14,15,16,17,18,19] [] (fun j1 g=>[]) (fun j1 g=>(n,List.map AVal.bool j1)::m) (.q (.r []) .z) ?_ ?_⟩<;>clear h
 rintro j1 _ n4 hnn4 _ _ h
 refine AB (.q (.r []) .z) ?_
 obtain⟨c,h⟩:=AU h
 try simp only[liE,seval]at c
 replace h:=AQ c h
 exact tR
 intro k2 Jk2 hk2 h
 obtain⟨hfk5,h⟩:=AU h
 simp(disch:=omega) only[vm,seval,h.1]
 refine⟨C9 (σ:=(List Bool)) (γ:=Unit) a0 hfk5 (fun xs i s=>BS N k2 xs s) (fun i s g=>[.int .i64 i]) (fun i s g=>(n,List.map AVal.bool s)::m) [3,5,6,7,8,9,10,11,12,13,14,15,16,17,18,19] [4] (AEk 256) () h tD tD ?_ ?_⟩<;>clear h
 rintro s4 bn _ nL0_1 hnL0_1 _ h
 change _∧BS N k2 [] bn=_ at h
 rw[BS]at h
 refine AB (.q (.q (.r []) (.c .z .z)) (.q (.q (.r []) (.q (.q (.r []) (.c (.q (.r []) .z) .z)) (.r []))) (.r []))) ?_
 exact tJ (hk2 bn ())
 rintro xk5 xsk5 s4 bn _ nL0_1 hnL0_1 _ h Jk5 hk5
 change _∧BS N k2 (xk5::xsk5) bn=_ at h
 rw[BS]at h
 refine AB (.q (.q (.r []) (.c .z .z)) (.q (.q (.r []) (.q (.q (.r []) (.c (.q (.r []) .z) .z)) (.r []))) (.r []))) ?_
 rcases AC h with h|h
 obtain⟨c,h⟩:=AU h
 try simp only[liE,seval]at c
 replace h:=AQ c h
 exact tR
 obtain⟨c,h⟩:=AU h
 try simp only[liE,seval]at c
 replace h:=AQ c h
 obtain⟨c,h⟩:=AU h
 try simp only[liE,seval]at c
 replace h:=AQ c h
 exact tJ (hk5 (bn.set ((AV xk5).toNat) true) ())
theorem Hd {a0 a1 r}{i0:Nat} (h:Dr N a0 a1=some r) (ha:args=[.ptr i0 0,.int .u8 a1]) (hi0:BD m i0=some (List.map AVal.bool a0)) (hQ: ∀n',n≤n'→Gl (Q (.bool r.1) ⟨BQ m i0 (List.map AVal.bool r.2),n'⟩)):ACall vE 207 args ⟨m,n⟩ Q:=by
 rw[Dr]at h
 subst ha
 refine ACall.front hi0 fun hin=>ent (fun n' k=>⟨_,rfl,(hQ n' k).go⟩) Tryz.func207 rfl Tryz.ntmps207 Tryz.results207 (.q (.r []) (.q (.r []) .z)) fun R hR=>?_
 replace h:=And.intro trivial h
 obtain⟨c,h⟩:=AU h
 try simp only[liE,seval]at c
 replace h:=AQ c h
 obtain⟨x1,h⟩:=AA h
 exact tR
theorem Ii {a0 r} (h:Gt N a0=some r) (ha:args=[.str a0]) (hQ: ∀n',n≤n'→Gl (Q (.str r) ⟨m,n'⟩)):ACall vE 160 args ⟨m,n⟩ Q:=by
 rw[Gt]at h
 subst ha
 refine ent hQ Tryz.func160 rfl Tryz.ntmps160 Tryz.results160 (.q (.r []) (.q (.r []) .z)) fun R hR=>?_
 replace h:=And.intro trivial h
 simp(disch:=omega) only[vm,seval,h.1]
 refine⟨AP (γ:=Unit) h [4,5,8,9,10,11,12,13,14,15,16,17,18,19,20,21,22,23,24,25,26] [] (fun j1 g=>[]) (fun j1 g=>(n,List.map (AVal.int .u8) j1)::m) (.q (.r []) .z) ?_ ?_⟩<;>clear h
 rintro j1 _ n4 hnn4 _ _ h
 refine AB (.q (.r []) .z) ?_
 obtain⟨c,h⟩:=AU h
 try simp only[liE,seval]at c
 replace h:=AQ c h
 exact tR
 intro k2 Jk2 hk2 h
 obtain⟨hfk5,h⟩:=AU h
 simp(disch:=omega) only[vm,seval,h.1]
 refine⟨C9 (σ:=(List Int)) (γ:=Unit) a0 hfk5 (fun xs i s=>Dh N a0 k2 xs i s) (fun i s g=>[.int .i64 i]) (fun i s g=>(n,List.map (AVal.int .u8) s)::m) [4,5,11,12,13,14,15,16,17,18,19,20,21,22,23,24,25,26] [10] (List.map AV a0) () h tD tD ?_ ?_⟩<;>clear h
 rintro s10 bn _ nL0_1 hnL0_1 _ h
 change _∧Dh N a0 k2 [] s10 bn=_ at h
 rw[Dh]at h
 refine AB (.q (.r []) (.q (.c .z .z) .z)) ?_
 exact tJ (hk2 bn ())
 rintro xk5 xsk5 s10 bn _ nL0_1 hnL0_1 _ h Jk5 hk5
 change _∧Dh N a0 k2 (xk5::xsk5) s10 bn=_ at h
 rw[Dh]at h
 refine AB (.q (.r []) (.q (.c .z .z) .z)) ?_
 simp(disch:=omega) only[vm,seval,h.1]
 refine⟨AP (γ:=Unit) h [4,5,12,13,14,15,16,17,18,19,20,21,22,23,24,25] [] (fun j6 g=>[]) (fun j6 g=>(n,List.map (AVal.int .u8) j6)::m) (.q (.r []) .z) ?_ ?_⟩<;>clear h
 rintro j6 _ n9 hnn9 _ _ h
 refine AB (.r []) ?_
 exact tJ (hk5 j6 ())
 intro k7 Jk7 hk7 h
 obtain⟨c,h⟩:=AU h
 try simp only[liE,seval]at c
 replace h:=AQ c h
 obtain⟨x10,h⟩:=AA h
 simp(disch:=omega) only[vm,seval,h.1]
 refine⟨AP (γ:=Unit) h [15,16,17,18,19] [20] (fun j11 g=>[.bool j11]) (fun j11 g=>(n,List.map (AVal.int .u8) bn)::m) (.r []) ?_ ?_⟩<;>clear h
 rintro j11 _ n14 hnn14 _ _ h
 refine AB (.c (.r []) .z) ?_
 rcases AC h with h|h
 obtain⟨c,h⟩:=AU h
 try simp only[liE,seval]at c
 replace h:=AQ c h
 exact tJ (hk7 (bn.set s10.toNat (wr .u8 (x10+32))) ())
 exact tJ (hk7 bn ())
 intro k12 Jk12 hk12 h
 rcases AC h with h|h
 exact tJ (hk12 (decide (x10≤90)) ())
 exact tJ (hk12 false ())
theorem Ex {a0 a1 r} (h:Bq N a0 a1=some r) (ha:args=[.str a0,.int .u8 a1]) (hQ: ∀n',n≤n'→Gl (Q (.int .i64 r) ⟨m,n'⟩)):ACall vE 213 args ⟨m,n⟩ Q:=by
 rw[Bq]at h
 subst ha
 refine ent hQ Tryz.func213 rfl Tryz.ntmps213 Tryz.results213 (.q (.r []) .z) fun R hR=>?_
 replace h:=And.intro trivial h
 simp(disch:=omega) only[vm,seval,h.1]
 refine⟨AP (γ:=Unit) h [4,5,6,7,8,9,10,11,12,13,14,15,16,17,18] [] (fun j1 g=>[]) (fun j1 g=>m) (.q (.r []) .z) ?_ ?_⟩<;>clear h
 rintro j1 _ n4 hnn4 _ _ h
 refine AB (.q (.r []) .z) ?_
 exact tR
 intro k2 Jk2 hk2 h
 simp(disch:=omega) only[vm,seval,h.1]
 refine⟨E8 (σ:=Int) (γ:=Unit) (fun k s=>Aq N a0 a1 k2 k s) (fun s g=>[.int .i64 s]) (fun s g=>m) [4,9,10,11,12,13,14,15,16,17,18] [5] (wr .i64 ((a0.length:Int)-1)) () h (fun _=>rfl) tD tD ?_⟩
 clear h
 rintro k5 s5 _ nL0_1 hnL0_1 _ h Jk5 hk5
 change _∧Aq N a0 a1 k2 (k5+1) s5=_ at h
 rw[Aq]at h
 refine AB (.q (.q (.r []) (.c .z .z)) (.q (.q (.r []) (.c (.q (.r []) .z) .z)) (.r []))) ?_
 rcases AC h with h|h
 obtain⟨x6,h⟩:=AA h
 rcases AC h with h|h
 exact tR
 exact tJ (hk5 (wr .i64 (s5-1)) ())
 exact tJ (hk2 () ())
theorem LF {a0 a1 r} (h:EC N a0 a1=some r) (ha:args=[.slice 2 (List.map Bz a0) false,.slice 2 (List.map Bz a1) false]) (hQ: ∀n',n≤n'→Gl (Q (.bool r) ⟨m,n'⟩)):ACall vE 17 args ⟨m,n⟩ Q:=by
 rw[EC]at h
 subst ha
 refine ent hQ Tryz.func17 rfl Tryz.ntmps17 Tryz.results17 (.q (.r []) (.q (.q (.r []) (.c (.q (.r []) .z) .z)) .z)) fun R hR=>?_
 replace h:=And.intro trivial h
 rcases AC h with h|h
 exact tR
 simp(disch:=omega) only[vm,seval,h.1]
 refine⟨AP (γ:=Unit) h [4,5,11,12,13,14,15,16,17,18,19,20,21,22,23,24,25] [] (fun j1 g=>[]) (fun j1 g=>m) (.q (.r []) .z) ?_ ?_⟩<;>clear h
 rintro j1 _ n4 hnn4 _ _ h
 refine AB (.q (.r []) .z) ?_
 exact tR
 intro k2 Jk2 hk2 h
 obtain⟨hfk5,h⟩:=AU h
 simp(disch:=omega) only[vm,seval,h.1]
 refine⟨C9 (σ:=Unit) (γ:=Unit) a0 hfk5 (fun xs i s=>BJ N a1 k2 xs i) (fun i s g=>[.int .i64 i]) (fun i s g=>m) [4,5,14,15,16,17,18,19,20,21,22,23,24,25] [13] () () h tD tD ?_ ?_⟩<;>clear h
 rintro s13 _ _ nL0_1 hnL0_1 _ h
 change _∧BJ N a1 k2 [] s13=_ at h
 rw[BJ]at h
 refine AB (.q (.r []) (.q (.c .z .z) (.q (.q (.r []) (.q .z (.c (.q (.r []) .z) .z))) (.r [])))) ?_
 exact tJ (hk2 () ())
 rintro xk5 xsk5 s13 _ _ nL0_1 hnL0_1 _ h Jk5 hk5
 change _∧BJ N a1 k2 (xk5::xsk5) s13=_ at h
 rw[BJ]at h
 refine AB (.q (.r []) (.q (.c .z .z) (.q (.q (.r []) (.q .z (.c (.q (.r []) .z) .z))) (.r [])))) ?_
 obtain⟨x6,h⟩:=AA h
 simp(disch:=omega) only[vm,seval,h.1]
 refine⟨BL [] (.take 0 (.take 1 (.take 2 (.take 3 (.take 4 (.take 5 (.take 6 (.take 7 (.take 8 (.done)))))))))) Ar (by kernel_rfl) ?_⟩
 rcases AC h with h|h
 exact tJ (hk5 () ())
 exact tR
theorem O8 {a0 a1 r} (h:Gq N a0 a1=some r) (ha:args=[.str a0,.int .u8 a1]) (hQ: ∀n',n≤n'→Gl (Q (.slice 1 (List.map AVal.str r) true) ⟨m,n'⟩)):ACall vE 40 args ⟨m,n⟩ Q:=by
 rw[Gq]at h
 subst ha
 refine ent hQ Tryz.func40 rfl Tryz.ntmps40 Tryz.results40 (.q (.r []) (.q (.r []) (.q (.r []) .z))) fun R hR=>?_
 replace h:=And.intro trivial h
 simp(disch:=omega) only[vm,seval,h.1]
 refine⟨AP (γ:=Unit) h [7,8,9,10,11,12,13,14,15,16,17,18,19,20,21,22,23,24,25,26,27] [5,6] (fun j1 g=>[.slice 1 (List.map AVal.str j1.1) true,.int .i64 j1.2]) (fun j1 g=>m) (.q (.r []) .z) ?_ ?_⟩<;>clear h
 rintro j1 _ n4 hnn4 _ _ h
 refine AB (.q (.r [28]) .z) ?_
 obtain⟨x11,h⟩:=AA h
 obtain⟨c,h⟩:=AU h
 try simp only[liE,seval]at c
 replace h:=AQ c h
 exact tR
 intro k2 Jk2 hk2 h
 obtain⟨hfk5,h⟩:=AU h
 simp(disch:=omega) only[vm,seval,h.1]
 refine⟨C9 (σ:=(List (List UInt8))×Int) (γ:=Unit) a0 hfk5 (fun xs i s=>CK N a0 a1 k2 xs i s.1 s.2) (fun i s g=>[.slice 1 (List.map AVal.str s.1) true,.int .i64 s.2,.int .i64 i]) (fun i s g=>m) [8,9,10,11,12,13,14,15,16,17,18,19,20,21,22,23,24,25,26,27] [5,6,7] ([],0) () h tD tD ?_ ?_⟩<;>clear h
 rintro s7 ⟨s5,s6⟩ _ nL0_1 hnL0_1 _ h
 change _∧CK N a0 a1 k2 [] s7 s5 s6=_ at h
 rw[CK]at h
 refine AB (.q (.q (.r []) (.c .z .z)) .z) ?_
 exact tJ (hk2 (s5,s6) ())
 rintro xk5 xsk5 s7 ⟨s5,s6⟩ _ nL0_1 hnL0_1 _ h Jk5 hk5
 change _∧CK N a0 a1 k2 (xk5::xsk5) s7 s5 s6=_ at h
 rw[CK]at h
 refine AB (.q (.q (.r []) (.c .z .z)) .z) ?_
 simp(disch:=omega) only[vm,seval,h.1]
 refine⟨AP (γ:=Unit) h [14,15,16,17,18,19,20,21,22,23,24,25,26,27] [5,6] (fun j6 g=>[.slice 1 (List.map AVal.str j6.1) true,.int .i64 j6.2]) (fun j6 g=>m) (.q (.r []) (.c (.r [19]) .z)) ?_ ?_⟩<;>clear h
 rintro j6 _ n9 hnn9 _ _ h
 refine AB (.r []) ?_
 exact tJ (hk5 (j6.1,j6.2) ())
 intro k7 Jk7 hk7 h
 rcases AC h with h|h
 obtain⟨x10,h⟩:=AA h
 obtain⟨c,h⟩:=AU h
 try simp only[liE,seval]at c
 replace h:=AQ c h
 exact tJ (hk7 ((s5++[x10]),(s7+1)) ())
 exact tJ (hk7 (s5,s6) ())
theorem Kq {a0 r} (h:Fw N a0=some r) (ha:args=[.int .u8 a0]) (hQ: ∀n',n≤n'→Gl (Q (.int .u8 r) ⟨m,n'⟩)):ACall vE 142 args ⟨m,n⟩ Q:=by
 rw[Fw]at h
 subst ha
 refine ent hQ Tryz.func142 rfl Tryz.ntmps142 Tryz.results142 (.q (.r []) (.q (.q (.r []) (.c (.q (.r []) .z) (.q (.r []) (.c (.q (.r []) .z) .z)))) (.q (.r []) .z))) fun R hR=>?_
 replace h:=And.intro trivial h
 rcases AC h with h|h
 exact tR
 rcases AC h with h|h
 exact tR
 exact tR
theorem Sj {a0 a1 r} (h:Hw N a0 a1=some r) (ha:args=[.str a0,.int .i64 a1]) (hQ: ∀n',n≤n'→Gl (Q (.str r) ⟨m,n'⟩)):ACall vE 43 args ⟨m,n⟩ Q:=by
 rw[Hw]at h
 subst ha
 refine ent hQ Tryz.func43 rfl Tryz.ntmps43 Tryz.results43 (.q (.r []) (.q (.q (.r []) (.c (.q (.r []) .z) .z)) (.q (.r []) .z))) fun R hR=>?_
 replace h:=And.intro trivial h
 rcases AC h with h|h
 exact tR
 obtain⟨x1,h⟩:=AA h
 exact tR
end Go.Proofs.YtjgdhjpafjpjgaaGreatDoor
