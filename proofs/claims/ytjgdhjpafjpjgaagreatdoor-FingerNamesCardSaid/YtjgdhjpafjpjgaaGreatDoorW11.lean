import Derived.Test.YtjgdhjpafjpjgaaGreatDoorVmFacts
import Derived.Test.YtjgdhjpafjpjgaaGreatDoorDefs
import Derived.Test.YtjgdhjpafjpjgaaGreatDoorVM2
import Derived.Test.YtjgdhjpafjpjgaaGreatDoorW0
import Derived.Test.YtjgdhjpafjpjgaaGreatDoorW2
import Derived.Test.YtjgdhjpafjpjgaaGreatDoorW4
import Derived.Test.YtjgdhjpafjpjgaaGreatDoorW6
import Derived.Test.YtjgdhjpafjpjgaaGreatDoorW8
import Derived.Test.YtjgdhjpafjpjgaaGreatDoorW10
set_option linter.unusedVariables false
set_option linter.unusedSimpArgs false
set_option maxHeartbeats 4000000
set_option maxRecDepth 100000
set_option linter.defProp false
namespace Go.Proofs.YtjgdhjpafjpjgaaGreatDoor
open Go.VM
variable{N n:Nat}{m:MS}{Q:PQ}{args:List AVal}
theorem O1 {a0 r} (h:Io N a0=some r) (ha:args=[.str a0]) (hQ: ∀n',n≤n'→Gl (Q (.bool r) ⟨m,n'⟩)):ACall vE 208 args ⟨m,n⟩ Q:=by
 rw[Io]at h
 subst ha
 refine ent hQ Tryz.func208 rfl Tryz.ntmps208 Tryz.results208 (.q (.r []) (.q (.r []) (.q (.q (.r []) (.c (.q (.r []) .z) .z)) .z))) fun R hR=>?_
 replace h:=And.intro trivial h
 obtain⟨y1,h⟩:=AA h
 simp(disch:=omega) only[vm,seval,h.1]
 refine⟨KJ h.1.1 tD fun n2 hn2=>?_⟩
 rcases AC h with h|h
 exact tR
 simp(disch:=omega) only[vm,seval,h.1]
 refine⟨AQ (γ:=Unit) h [2,5,6,7,13,14,15,16,17,18,19,20,21,22,23,24,25,26] [] (fun j3 g=>[]) (fun j3 g=>m) (.q (.r []) .z) ?_ ?_⟩<;>clear h
 rintro j3 _ n6 hnn6 _ _ h
 refine AB (.q (.r []) .z) ?_
 exact tR
 intro k4 Jk4 hk4 h
 obtain⟨hfk7,h⟩:=AR h
 simp(disch:=omega) only[vm,seval,h.1]
 refine⟨BM (σ:=Unit) (γ:=Unit) y1 hfk7 (fun xs i s=>DX N k4 xs) (fun i s g=>[.int .i64 i]) (fun i s g=>m) [2,5,6,7,16,17,18,19,20,21,22,23,24,25,26] [15] () () h tD tD ?_ ?_⟩<;>clear h
 rintro s15 _ _ nL0_1 hnL0_1 _ h
 change _∧DX N k4 []=_ at h
 rw[DX]at h
 refine AB (.q (.r []) (.q (.c .z .z) (.q (.q (.r []) (.q (.r []) (.q (.r []) (.c (.q (.r []) .z) .z)))) (.r [])))) ?_
 exact tJ (hk4 () ())
 rintro xk7 xsk7 s15 _ _ nL0_1 hnL0_1 _ h Jk7 hk7
 change _∧DX N k4 (xk7::xsk7)=_ at h
 rw[DX]at h
 refine AB (.q (.r []) (.q (.c .z .z) (.q (.q (.r []) (.q (.r []) (.q (.r []) (.c (.q (.r []) .z) .z)))) (.r [])))) ?_
 obtain⟨y8,h⟩:=AA h
 simp(disch:=omega) only[vm,seval,h.1]
 refine⟨M9 h.1.1 tD fun n9 hn9=>?_⟩
 rcases AC h with h|h
 exact tR
 exact tJ (hk7 () ())
theorem SC {a0 r} (h:IB N a0=some r) (ha:args=[.str a0]) (hQ: ∀n',n≤n'→Gl (Q (.tuple [.str r.1,.int .i64 r.2]) ⟨m,n'⟩)):ACall vE 152 args ⟨m,n⟩ Q:=by
 rw[IB]at h
 subst ha
 refine ent hQ Tryz.func152 rfl Tryz.ntmps152 Tryz.results152 (.q (.r []) (.q (.r []) (.q (.q (.r []) (.q (.r []) (.c (.q (.r []) .z) .z))) .z))) fun R hR=>?_
 replace h:=And.intro trivial h
 obtain⟨y1,h⟩:=AA h
 simp(disch:=omega) only[vm,seval,h.1]
 refine⟨Ej h.1.1 tD fun n2 hn2=>?_⟩
 obtain⟨y3,h⟩:=AA h
 simp(disch:=omega) only[vm,seval,h.1]
 refine⟨Fp h.1.1 tD fun n4 hn4=>?_⟩
 rcases AC h with h|h
 exact tR
 simp(disch:=omega) only[vm,seval,h.1]
 refine⟨AQ (γ:=Unit) h [21,22,23,24,25,26] [5] (fun j5 g=>[.int .i64 j5]) (fun j5 g=>m) .z ?_ ?_⟩<;>clear h
 rintro j5 _ n8 hnn8 _ _ h
 refine AB (.q (.r []) .z) ?_
 obtain⟨y15,h⟩:=AA h
 simp(disch:=omega) only[vm,seval,h.1]
 refine⟨KC h.1.1 tD fun n16 hn16=>?_⟩
 exact tR
 intro k6 Jk6 hk6 h
 simp(disch:=omega) only[vm,seval,h.1]
 refine⟨AQ (γ:=Unit) h [21,22,23,24,25] [26] (fun j9 g=>[.bool j9]) (fun j9 g=>m) (.r []) ?_ ?_⟩<;>clear h
 rintro j9 _ n12 hnn12 _ _ h
 refine AB (.c (.r []) .z) ?_
 rcases AC h with h|h
 exact tJ (hk6 1 ())
 exact tJ (hk6 y1.2 ())
 intro k10 Jk10 hk10 h
 rcases AC h with h|h
 obtain⟨y13,h⟩:=AA h
 simp(disch:=omega) only[vm,seval,h.1]
 refine⟨LK h.1.1 tD fun n14 hn14=>?_⟩
 exact tJ (hk10 y13 ())
 exact tJ (hk10 false ())
theorem JV {a0 b1_0 r}{i1_0:Nat} (h:CF N a0 b1_0=some r) (ha:args=[.slice 1 (List.map AVal.str a0) false,.fn (.func 267) [.ptr i1_0 0] []]) (hi1_0:Bo m i1_0=some ([.int .i64 b1_0.e])) (hQ: ∀n',n≤n'→Gl (Q (.str r.1) ⟨CJ m i1_0 ([.int .i64 r.2.e]),n'⟩)):ACall vE 266 args ⟨m,n⟩ Q:=by
 rw[CF]at h
 subst ha
 refine ACall.front hi1_0 fun hin=>ent (fun n' k=>⟨_,rfl,(hQ n' k).go⟩) Tryz.func266 rfl Tryz.ntmps266 Tryz.results266 (.q (.r []) (.q (.r []) .z)) fun R hR=>?_
 replace h:=And.intro trivial h
 simp(disch:=omega) only[vm,seval,h.1]
 refine⟨AQ (γ:=Unit) h [7,8,9,10,11,12,13,14,15,16,17,18] [] (fun j1 g=>[]) (fun j1 g=>(n,[H7 n 196 2 j1.1,.buf 5 j1.2.1 true])::(i1_0,[.int .i64 j1.2.2.e])::DW m i1_0) (.q (.r []) .z) ?_ ?_⟩<;>clear h
 rintro j1 _ n4 hnn4 _ _ h
 refine AB (.q (.r []) .z) ?_
 obtain⟨y10,h⟩:=AA h
 simp(disch:=omega) only[vm,seval,h.1]
 refine⟨FY h.1.1 tD (i0:=n) (by simp(disch:=omega) only[vm,seval,h.1]) fun n11 hn11=>?_⟩
 exact tR
 intro k2 Jk2 hk2 h
 obtain⟨hfk5,h⟩:=AR h
 simp(disch:=omega) only[vm,seval,h.1]
 refine⟨BM (σ:=Bool×(List UInt8)×DidwebMapper) (γ:=Unit) a0 hfk5 (fun xs i s=>Af N k2 xs s.1 s.2.1 s.2.2) (fun i s g=>[.int .i64 i]) (fun i s g=>(n,[H7 n 196 2 s.1,.buf 5 s.2.1 true])::(i1_0,[.int .i64 s.2.2.e])::DW m i1_0) [7,11,12,13,14,15,16,17,18] [10] (false,[],b1_0) () h tD tD ?_ ?_⟩<;>clear h
 rintro s10 ⟨bn_addr,bn_buf,bi1_0⟩ _ nL0_1 hnL0_1 _ h
 change _∧Af N k2 [] bn_addr bn_buf bi1_0=_ at h
 rw[Af]at h
 refine AB (.q (.r []) (.q (.c .z .z) (.q (.q (.r []) (.r [])) (.r [])))) ?_
 exact tJ (hk2 (bn_addr,bn_buf,bi1_0) ())
 rintro xk5 xsk5 s10 ⟨bn_addr,bn_buf,bi1_0⟩ _ nL0_1 hnL0_1 _ h Jk5 hk5
 change _∧Af N k2 (xk5::xsk5) bn_addr bn_buf bi1_0=_ at h
 rw[Af]at h
 refine AB (.q (.r []) (.q (.c .z .z) (.q (.q (.r []) (.r [])) (.r [])))) ?_
 obtain⟨y6,h⟩:=AA h
 simp(disch:=omega) only[vm,seval,h.1]
 refine⟨PT h.1.1 tD (i0:=i1_0) (by simp(disch:=omega) only[vm,seval,h.1]) fun n7 hn7=>?_⟩
 obtain⟨y8,h⟩:=AA h
 simp(disch:=omega) only[vm,seval,h.1]
 refine⟨BB h.1.1 tD (i0:=n) (by simp(disch:=omega) only[vm,seval,h.1]) fun n9 hn9=>?_⟩
 exact tJ (hk5 (y8.2.2.addr,y8.2.2.buf,y6.2) ())
theorem Nn {a0 a1 r}{i0:Nat} (h:E8 N a0 a1=some r) (ha:args=[.ptr i0 0,.str a1]) (hi0:Bo m i0=some ([.int .i64 a0.e])) (hQ: ∀n',n≤n'→Gl (Q (.str r.1) ⟨CJ m i0 ([.int .i64 r.2.e]),n'⟩)):ACall vE 268 args ⟨m,n⟩ Q:=by
 rw[E8]at h
 subst ha
 refine ACall.front hi0 fun hin=>ent (fun n' k=>⟨_,rfl,(hQ n' k).go⟩) Tryz.func268 rfl Tryz.ntmps268 Tryz.results268 (.q (.r []) .z) fun R hR=>?_
 replace h:=And.intro trivial h
 simp(disch:=omega) only[vm,seval,h.1]
 refine⟨AQ (γ:=Unit) h [5,8,9,10,11,12,13,14,15,16,17,18,19,20,21,22,23,24,25,26,27] [] (fun j1 g=>[]) (fun j1 g=>(i0,[.int .i64 j1])::DW m i0) (.q (.r []) .z) ?_ ?_⟩<;>clear h
 rintro j1 _ n4 hnn4 _ _ h
 refine AB (.q (.r []) .z) ?_
 obtain⟨y16,h⟩:=AA h
 simp(disch:=omega) only[vm,seval,h.1]
 refine⟨Fp h.1.1 tD fun n17 hn17=>?_⟩
 simp(disch:=omega) only[vm,seval,h.1]
 refine⟨AQ (γ:=Unit) h [33,34,35,36,37,38,39,40,41] [] (fun j18 g=>[]) (fun j18 g=>(i0,[.int .i64 j18])::DW m i0) .z ?_ ?_⟩<;>clear h
 rintro j18 _ n21 hnn21 _ _ h
 refine AB (.q (.r []) .z) ?_
 obtain⟨y26,h⟩:=AA h
 simp(disch:=omega) only[vm,seval,h.1]
 refine⟨Hz h.1.1 tD fun n27 hn27=>?_⟩
 obtain⟨y28,h⟩:=AA h
 simp(disch:=omega) only[vm,seval,h.1]
 refine⟨KC h.1.1 tD fun n29 hn29=>?_⟩
 obtain⟨c,h⟩:=AR h
 try simp only[liE,seval]at c
 replace h:=AP c h
 exact tR
 intro k19 Jk19 hk19 h
 simp(disch:=omega) only[vm,seval,h.1]
 refine⟨AQ (γ:=Unit) h [33,34,35,36,37] [38] (fun j22 g=>[.bool j22]) (fun j22 g=>(i0,[.int .i64 j1])::DW m i0) (.r []) ?_ ?_⟩<;>clear h
 rintro j22 _ n25 hnn25 _ _ h
 refine AB (.c (.r []) .z) ?_
 rcases AC h with h|h
 exact tJ (hk19 110 ())
 exact tJ (hk19 j1 ())
 intro k23 Jk23 hk23 h
 rcases AC h with h|h
 exact tJ (hk23 true ())
 exact tJ (hk23 (y16.1==[]) ())
 intro k2 Jk2 hk2 h
 obtain⟨hfk5,h⟩:=AR h
 simp(disch:=omega) only[vm,seval,h.1]
 refine⟨BM (σ:=Int) (γ:=Unit) a1 hfk5 (fun xs i s=>BK N k2 xs s) (fun i s g=>[.int .i64 i]) (fun i s g=>(i0,[.int .i64 s])::DW m i0) [5,11,12,13,14,15,16,17,18,19,20,21,22,23,24,25,26,27] [10] a0.e () h tD tD ?_ ?_⟩<;>clear h
 rintro s10 bi0_e _ nL0_1 hnL0_1 _ h
 change _∧BK N k2 [] bi0_e=_ at h
 rw[BK]at h
 refine AB (.q (.r []) (.q (.c .z .z) .z)) ?_
 exact tJ (hk2 bi0_e ())
 rintro xk5 xsk5 s10 bi0_e _ nL0_1 hnL0_1 _ h Jk5 hk5
 change _∧BK N k2 (xk5::xsk5) bi0_e=_ at h
 rw[BK]at h
 refine AB (.q (.r []) (.q (.c .z .z) .z)) ?_
 simp(disch:=omega) only[vm,seval,h.1]
 refine⟨AQ (γ:=Unit) h [5,12,13,14,15,16,17,18,19,20,21,22,23,24,25,26] [] (fun j6 g=>[]) (fun j6 g=>(i0,[.int .i64 j6])::DW m i0) (.q (.r []) .z) ?_ ?_⟩<;>clear h
 rintro j6 _ n9 hnn9 _ _ h
 refine AB (.r []) ?_
 exact tJ (hk5 j6 ())
 intro k7 Jk7 hk7 h
 simp(disch:=omega) only[vm,seval,h.1]
 refine⟨AQ (γ:=Unit) h [13,14,15,16,17,18,19,20,21,22] [23] (fun j10 g=>[.bool j10]) (fun j10 g=>(i0,[.int .i64 bi0_e])::DW m i0) (.r []) ?_ ?_⟩<;>clear h
 rintro j10 _ n13 hnn13 _ _ h
 refine AB (.c (.r []) .z) ?_
 rcases AC h with h|h
 exact tJ (hk7 110 ())
 exact tJ (hk7 bi0_e ())
 intro k11 Jk11 hk11 h
 rcases AC h with h|h
 obtain⟨y14,h⟩:=AA h
 simp(disch:=omega) only[vm,seval,h.1]
 refine⟨Ee h.1.1 tD fun n15 hn15=>?_⟩
 exact tJ (hk11 (!y14) ())
 exact tJ (hk11 false ())
theorem UY {a0 r} (h:J4 N a0=some r) (ha:args=[.str a0]) (hQ: ∀n',n≤n'→Gl (Q (.tuple [LA r.1,.int .i64 r.2]) ⟨m,n'⟩)):ACall vE 67 args ⟨m,n⟩ Q:=by
 rw[J4]at h
 subst ha
 refine ent hQ Tryz.func67 rfl Tryz.ntmps67 Tryz.results67 (.q (.r []) (.q (.q (.r []) (.c (.q (.r []) .z) .z)) (.q (.r []) (.q (.r []) (.q (.q (.r []) (.c (.q (.r []) .z) .z)) (.q (.r []) (.q .z (.q (.r []) (.q (.q (.r []) (.c (.q (.r []) .z) .z)) (.q (.r []) .z)))))))))) fun R hR=>?_
 replace h:=And.intro trivial h
 rcases AC h with h|h
 exact tR
 simp(disch:=omega) only[vm,seval,h.1]
 refine⟨AQ (γ:=Unit) h [14,15,16,17,18,19,20,21,22] [13] (fun j1 g=>[.bool j1]) (fun j1 g=>(n,[.str [],.str []])::m) (.r []) ?_ ?_⟩<;>clear h
 rintro j1 _ n4 hnn4 _ _ h
 refine AB (.c (.q (.r []) .z) .z) ?_
 rcases AC h with h|h
 exact tR
 obtain⟨x8,h⟩:=AA h
 obtain⟨y9,h⟩:=AA h
 simp(disch:=omega) only[vm,seval,h.1]
 refine⟨Cq h.1.1 tD fun n10 hn10=>?_⟩
 rcases AC h with h|h
 exact tR
 obtain⟨x11,h⟩:=AA h
 obtain⟨y12,h⟩:=AA h
 simp(disch:=omega) only[vm,seval,h.1]
 refine⟨Gn h.1.1 tD fun n13 hn13=>?_⟩
 simp(disch:=omega) only[vm,seval,h.1]
 refine⟨AQ (γ:=Unit) h [40,41,42,43,44,45,46,47,48,49] [50] (fun j14 g=>[.bool j14]) (fun j14 g=>(n,[.str [],.str []])::m) (.r []) ?_ ?_⟩<;>clear h
 rintro j14 _ n17 hnn17 _ _ h
 refine AB (.c (.q (.r []) .z) .z) ?_
 rcases AC h with h|h
 exact tR
 obtain⟨x19,h⟩:=AA h
 obtain⟨y20,h⟩:=AA h
 simp(disch:=omega) only[vm,seval,h.1]
 refine⟨M8 h.1.1 tD fun n21 hn21=>?_⟩
 rcases AC h with h|h
 exact tR
 exact tR
 intro k15 Jk15 hk15 h
 rcases AC h with h|h
 exact tJ (hk15 true ())
 rcases AC h with h|h
 exact tJ (hk15 true ())
 obtain⟨x18,h⟩:=AA h
 exact tJ (hk15 ((AL x18)==37) ())
 intro k2 Jk2 hk2 h
 rcases AC h with h|h
 exact tJ (hk2 true ())
 obtain⟨x5,h⟩:=AA h
 obtain⟨y6,h⟩:=AA h
 simp(disch:=omega) only[vm,seval,h.1]
 refine⟨Lp h.1.1 tD fun n7 hn7=>?_⟩
 exact tJ (hk2 (!y6) ())
theorem Ug {a0 r} (h:J7 N a0=some r) (ha:args=[.str a0]) (hQ: ∀n',n≤n'→Gl (Q (.tuple [K6 r.1,.int .i64 r.2]) ⟨m,n'⟩)):ACall vE 69 args ⟨m,n⟩ Q:=by
 rw[J7]at h
 subst ha
 refine ent hQ Tryz.func69 rfl Tryz.ntmps69 Tryz.results69 (.q (.r []) (.q (.q (.r []) (.c (.q (.r []) .z) .z)) (.q (.r []) (.q (.r []) (.q .z .z))))) fun R hR=>?_
 replace h:=And.intro trivial h
 rcases AC h with h|h
 exact tR
 simp(disch:=omega) only[vm,seval,h.1]
 refine⟨AQ (γ:=Unit) h [15,16,17,18,19,20,21,22,23] [14] (fun j1 g=>[.bool j1]) (fun j1 g=>(n,[.str [],.str []])::m) (.r []) ?_ ?_⟩<;>clear h
 rintro j1 _ n4 hnn4 _ _ h
 refine AB (.c (.q (.r []) .z) .z) ?_
 rcases AC h with h|h
 exact tR
 obtain⟨x8,h⟩:=AA h
 obtain⟨y9,h⟩:=AA h
 simp(disch:=omega) only[vm,seval,h.1]
 refine⟨Cq h.1.1 tD fun n10 hn10=>?_⟩
 simp(disch:=omega) only[vm,seval,h.1]
 refine⟨AQ (γ:=Unit) h [29,30,31,32,33,34,35,36,37,38] [39] (fun j11 g=>[.bool j11]) (fun j11 g=>(n,[.str [],.str []])::m) (.r []) ?_ ?_⟩<;>clear h
 rintro j11 _ n14 hnn14 _ _ h
 refine AB (.c (.q (.r []) .z) .z) ?_
 rcases AC h with h|h
 exact tR
 simp(disch:=omega) only[vm,seval,h.1]
 refine⟨AQ (γ:=Unit) h [3,5,41,42,43,44,45,46,47,48,49,50,51,52,53,54,55,56,57,58] [] (fun j17 g=>[]) (fun j17 g=>(n,[.str [],.str []])::m) (.q (.r []) .z) ?_ ?_⟩<;>clear h
 rintro j17 _ n20 hnn20 _ _ h
 refine AB (.q (.r []) (.q (.q (.r []) (.c (.q (.r []) .z) .z)) (.q (.q (.r []) (.c (.q (.r []) .z) .z)) (.q (.r []) (.q (.q (.r []) (.c (.q (.r []) .z) .z)) (.q (.q (.r []) (.c (.q (.r []) .z) .z)) (.q (.r []) .z))))))) ?_
 obtain⟨x31,h⟩:=AA h
 obtain⟨y32,h⟩:=AA h
 simp(disch:=omega) only[vm,seval,h.1]
 refine⟨Fv h.1.1 tD fun n33 hn33=>?_⟩
 rcases AC h with h|h
 exact tR
 obtain⟨y34,h⟩:=AA h
 simp(disch:=omega) only[vm,seval,h.1]
 refine⟨Uf h.1.1 tD fun n35 hn35=>?_⟩
 rcases AC h with h|h
 obtain⟨x36,h⟩:=AA h
 obtain⟨y37,h⟩:=AA h
 simp(disch:=omega) only[vm,seval,h.1]
 refine⟨M8 h.1.1 tD fun n38 hn38=>?_⟩
 rcases AC h with h|h
 exact tR
 obtain⟨y39,h⟩:=AA h
 simp(disch:=omega) only[vm,seval,h.1]
 refine⟨OJ h.1.1 tD fun n40 hn40=>?_⟩
 rcases AC h with h|h
 exact tR
 exact tR
 exact tR
 intro k18 Jk18 hk18 h
 obtain⟨hfk21,h⟩:=AR h
 simp(disch:=omega) only[vm,seval,h.1]
 refine⟨UN (σ:=Unit) (γ:=Unit) 0 y9 hfk21 (fun xs i s=>DL N x8 k18 xs i) (fun i s g=>[.int .i64 i]) (fun i s g=>(n,[.str [],.str []])::m) [3,41,42,43,44,45,46,47,48,49,50,51,52,53,54,55,56,57,58] [5] () () h tD tD ?_ ?_⟩<;>clear h
 rintro s5 _ _ nL0_1 hnL0_1 _ h
 change _∧DL N x8 k18 0 s5=_ at h
 rw[DL]at h
 refine AB (.q (.q (.r []) (.c .z .z)) (.q .z (.r []))) ?_
 exact tJ (hk18 () ())
 rintro xsk21 s5 _ _ nL0_1 hnL0_1 _ h Jk21 hk21
 change _∧DL N x8 k18 (xsk21+1) s5=_ at h
 rw[DL]at h
 refine AB (.q (.q (.r []) (.c .z .z)) (.q .z (.r []))) ?_
 simp(disch:=omega) only[vm,seval,h.1]
 refine⟨AQ (γ:=Unit) h [46,47,48,49,50,51,52,53,54,55,56] [57] (fun j22 g=>[.bool j22]) (fun j22 g=>(n,[.str [],.str []])::m) (.r []) ?_ ?_⟩<;>clear h
 rintro j22 _ n25 hnn25 _ _ h
 refine AB (.c (.q (.r []) .z) .z) ?_
 rcases AC h with h|h
 exact tR
 exact tJ (hk21 () ())
 intro k23 Jk23 hk23 h
 obtain⟨x26,h⟩:=AA h
 obtain⟨y27,h⟩:=AA h
 simp(disch:=omega) only[vm,seval,h.1]
 refine⟨Eb h.1.1 tD fun n28 hn28=>?_⟩
 rcases AC h with h|h
 exact tJ (hk23 false ())
 obtain⟨y29,h⟩:=AA h
 simp(disch:=omega) only[vm,seval,h.1]
 refine⟨Gz h.1.1 tD fun n30 hn30=>?_⟩
 exact tJ (hk23 (!y29) ())
 intro k12 Jk12 hk12 h
 rcases AC h with h|h
 exact tJ (hk12 true ())
 obtain⟨y15,h⟩:=AA h
 simp(disch:=omega) only[vm,seval,h.1]
 refine⟨Cq h.1.1 tD fun n16 hn16=>?_⟩
 exact tJ (hk12 (decide (y15<(x8.length:Int))) ())
 intro k2 Jk2 hk2 h
 rcases AC h with h|h
 exact tJ (hk2 true ())
 obtain⟨x5,h⟩:=AA h
 obtain⟨y6,h⟩:=AA h
 simp(disch:=omega) only[vm,seval,h.1]
 refine⟨Lp h.1.1 tD fun n7 hn7=>?_⟩
 exact tJ (hk2 (!y6) ())
theorem Oz {a0 r} (h:Ir N a0=some r) (ha:args=[.str a0]) (hQ: ∀n',n≤n'→Gl (Q (.tuple [DY r.1,.int .i64 r.2]) ⟨m,n'⟩)):ACall vE 178 args ⟨m,n⟩ Q:=by
 rw[Ir]at h
 subst ha
 refine ent hQ Tryz.func178 rfl Tryz.ntmps178 Tryz.results178 (.q (.r []) (.q (.r []) (.q (.r []) (.q (.q (.r []) (.c (.q (.r []) .z) .z)) (.q (.q (.r []) (.c (.q (.r []) .z) .z)) (.q (.r []) (.q (.q (.r []) (.c (.q (.r []) .z) .z)) .z))))))) fun R hR=>?_
 replace h:=And.intro trivial h
 obtain⟨y1,h⟩:=AA h
 simp(disch:=omega) only[vm,seval,h.1]
 refine⟨Cq h.1.1 tD fun n2 hn2=>?_⟩
 obtain⟨x3,h⟩:=AA h
 obtain⟨y4,h⟩:=AA h
 simp(disch:=omega) only[vm,seval,h.1]
 refine⟨M8 h.1.1 tD fun n5 hn5=>?_⟩
 rcases AC h with h|h
 exact tR
 rcases AC h with h|h
 exact tR
 obtain⟨x6,h⟩:=AA h
 obtain⟨y7,h⟩:=AA h
 simp(disch:=omega) only[vm,seval,h.1]
 refine⟨ABS h.1.1 tD fun n8 hn8=>?_⟩
 rcases AC h with h|h
 exact tR
 simp(disch:=omega) only[vm,seval,h.1]
 refine⟨AQ (γ:=Unit) h [39,40] [7] (fun j9 g=>[.int .i64 j9]) (fun j9 g=>(n,[.str [],.int .i64 0])::m) (.q (.r []) (.c (.r []) .z)) ?_ ?_⟩<;>clear h
 rintro j9 _ n12 hnn12 _ _ h
 refine AB (.q (.r []) .z) ?_
 exact tR
 intro k10 Jk10 hk10 h
 rcases AC h with h|h
 exact tJ (hk10 0 ())
 exact tJ (hk10 y7.1 ())
end Go.Proofs.YtjgdhjpafjpjgaaGreatDoor
