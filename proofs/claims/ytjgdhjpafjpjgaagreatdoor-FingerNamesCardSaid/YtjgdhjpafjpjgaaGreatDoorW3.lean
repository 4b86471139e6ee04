import Derived.Test.YtjgdhjpafjpjgaaGreatDoorVmFacts
import Derived.Test.YtjgdhjpafjpjgaaGreatDoorDefs
import Derived.Test.YtjgdhjpafjpjgaaGreatDoorVM2
import Derived.Test.YtjgdhjpafjpjgaaGreatDoorW0
import Derived.Test.YtjgdhjpafjpjgaaGreatDoorW1
set_option linter.unusedVariables false
set_option linter.unusedSimpArgs false
set_option maxHeartbeats 4000000
set_option maxRecDepth 100000
set_option linter.defProp false
namespace Go.Proofs.YtjgdhjpafjpjgaaGreatDoor
open Go.VM
variable{N n:Nat}{m:MS}{Q:PQ}{args:List AVal}
theorem Tp {a0 r} (h:JD N a0=some r) (ha:args=[.str a0]) (hQ: ∀n',n≤n'→Gl (Q (.bool r) ⟨m,n'⟩)):ACall vE 217 args ⟨m,n⟩ Q:=by
 rw[JD]at h
 subst ha
 refine ent hQ Tryz.func217 rfl Tryz.ntmps217 Tryz.results217 (.q (.r []) .z) fun R hR=>?_
 replace h:=And.intro trivial h
 simp(disch:=omega) only[vm,seval,h.1]
 refine⟨AQ (γ:=Unit) h [2,3,4,5,6,7,8,9,10,11,12,13,14,15,16,17,18,19,20,21,22,23,24,25,26,27,28,29,30,31,32] [] (fun j1 g=>[]) (fun j1 g=>m) (.q (.r []) .z) ?_ ?_⟩<;>clear h
 rintro j1 _ n4 hnn4 _ _ h
 refine AB (.q (.r []) .z) ?_
 exact tR
 intro k2 Jk2 hk2 h
 obtain⟨hfk5,h⟩:=AR h
 simp(disch:=omega) only[vm,seval,h.1]
 refine⟨BM (σ:=Unit) (γ:=Unit) a0 hfk5 (fun xs i s=>Cn N k2 xs i) (fun i s g=>[.int .i64 i]) (fun i s g=>m) [2,4,5,6,7,8,9,10,11,12,13,14,15,16,17,18,19,20,21,22,23,24,25,26,27,28,29,30,31,32] [3] () () h tD tD ?_ ?_⟩<;>clear h
 rintro s3 _ _ nL0_1 hnL0_1 _ h
 change _∧Cn N k2 [] s3=_ at h
 rw[Cn]at h
 refine AB (.q (.q (.r []) (.c .z .z)) (.q .z (.r []))) ?_
 exact tJ (hk2 () ())
 rintro xk5 xsk5 s3 _ _ nL0_1 hnL0_1 _ h Jk5 hk5
 change _∧Cn N k2 (xk5::xsk5) s3=_ at h
 rw[Cn]at h
 refine AB (.q (.q (.r []) (.c .z .z)) (.q .z (.r []))) ?_
 simp(disch:=omega) only[vm,seval,h.1]
 refine⟨AQ (γ:=Unit) h [10,11,12,13,14,15,16,17,18,19,20,21,22,23,24,25,26,27,28,29,30,31] [32] (fun j6 g=>[.bool j6]) (fun j6 g=>m) (.r []) ?_ ?_⟩<;>clear h
 rintro j6 _ n9 hnn9 _ _ h
 refine AB (.c (.q (.r []) .z) .z) ?_
 rcases AC h with h|h
 exact tR
 exact tJ (hk5 () ())
 intro k7 Jk7 hk7 h
 obtain⟨y10,h⟩:=AA h
 simp(disch:=omega) only[vm,seval,h.1]
 refine⟨GJ h.1.1 tD fun n11 hn11=>?_⟩
 rcases AC h with h|h
 exact tJ (hk7 false ())
 rcases AC h with h|h
 exact tJ (hk7 true ())
 obtain⟨y12,h⟩:=AA h
 simp(disch:=omega) only[vm,seval,h.1]
 refine⟨Dh h.1.1 tD fun n13 hn13=>?_⟩
 rcases AC h with h|h
 exact tJ (hk7 false ())
 obtain⟨y14,h⟩:=AA h
 simp(disch:=omega) only[vm,seval,h.1]
 refine⟨Gz h.1.1 tD fun n15 hn15=>?_⟩
 exact tJ (hk7 (!y14) ())
theorem UU {a0 r} (h:JS N a0=some r) (ha:args=[.str a0]) (hQ: ∀n',n≤n'→Gl (Q (.bool r) ⟨m,n'⟩)):ACall vE 172 args ⟨m,n⟩ Q:=by
 rw[JS]at h
 subst ha
 refine ent hQ Tryz.func172 rfl Tryz.ntmps172 Tryz.results172 (.q (.r []) .z) fun R hR=>?_
 replace h:=And.intro trivial h
 simp(disch:=omega) only[vm,seval,h.1]
 refine⟨AQ (γ:=Unit) h [2,3,4,5,6,7,8,9,10,11,12,13,14,15,16,17,18,19,20,21,22,23,24,25,26] [] (fun j1 g=>[]) (fun j1 g=>m) (.q (.r []) .z) ?_ ?_⟩<;>clear h
 rintro j1 _ n4 hnn4 _ _ h
 refine AB (.q (.r []) .z) ?_
 exact tR
 intro k2 Jk2 hk2 h
 obtain⟨hfk5,h⟩:=AR h
 simp(disch:=omega) only[vm,seval,h.1]
 refine⟨BM (σ:=Unit) (γ:=Unit) a0 hfk5 (fun xs i s=>Cj N k2 xs) (fun i s g=>[.int .i64 i]) (fun i s g=>m) [2,4,5,6,7,8,9,10,11,12,13,14,15,16,17,18,19,20,21,22,23,24,25,26] [3] () () h tD tD ?_ ?_⟩<;>clear h
 rintro s3 _ _ nL0_1 hnL0_1 _ h
 change _∧Cj N k2 []=_ at h
 rw[Cj]at h
 refine AB (.q (.q (.r []) (.c .z .z)) (.q .z (.r []))) ?_
 exact tJ (hk2 () ())
 rintro xk5 xsk5 s3 _ _ nL0_1 hnL0_1 _ h Jk5 hk5
 change _∧Cj N k2 (xk5::xsk5)=_ at h
 rw[Cj]at h
 refine AB (.q (.q (.r []) (.c .z .z)) (.q .z (.r []))) ?_
 simp(disch:=omega) only[vm,seval,h.1]
 refine⟨AQ (γ:=Unit) h [10,11,12,13,14,15,16,17,18,19,20,21,22,23,24,25] [26] (fun j6 g=>[.bool j6]) (fun j6 g=>m) (.r []) ?_ ?_⟩<;>clear h
 rintro j6 _ n9 hnn9 _ _ h
 refine AB (.c (.q (.r []) .z) .z) ?_
 rcases AC h with h|h
 exact tR
 exact tJ (hk5 () ())
 intro k7 Jk7 hk7 h
 obtain⟨y10,h⟩:=AA h
 simp(disch:=omega) only[vm,seval,h.1]
 refine⟨Dh h.1.1 tD fun n11 hn11=>?_⟩
 rcases AC h with h|h
 exact tJ (hk7 false ())
 rcases AC h with h|h
 exact tJ (hk7 true ())
 exact tJ (hk7 (decide ((AL xk5)>122)) ())
theorem Ox {a0 r} (h:Iq N a0=some r) (ha:args=[.int .u8 a0]) (hQ: ∀n',n≤n'→Gl (Q (.bool r) ⟨m,n'⟩)):ACall vE 173 args ⟨m,n⟩ Q:=by
 rw[Iq]at h
 subst ha
 refine ent hQ Tryz.func173 rfl Tryz.ntmps173 Tryz.results173 (.q (.r []) (.q (.r []) .z)) fun R hR=>?_
 replace h:=And.intro trivial h
 obtain⟨y1,h⟩:=AA h
 simp(disch:=omega) only[vm,seval,h.1]
 refine⟨GJ h.1.1 tD fun n2 hn2=>?_⟩
 rcases AC h with h|h
 exact tR
 obtain⟨y3,h⟩:=AA h
 simp(disch:=omega) only[vm,seval,h.1]
 refine⟨Dh h.1.1 tD fun n4 hn4=>?_⟩
 rcases AC h with h|h
 exact tR
 obtain⟨y5,h⟩:=AA h
 simp(disch:=omega) only[vm,seval,h.1]
 refine⟨Gz h.1.1 tD fun n6 hn6=>?_⟩
 exact tR
theorem EK {a0 a1 r}{i0:Nat} (h:Co N a0 a1=some r) (ha:args=[.ptr i0 0,.slice 1 (List.map AVal.str a1) false]) (hi0:Bo m i0=some ([.slice 1 (List.map (AVal.int .u8) a0.l) false])) (hQ: ∀n',n≤n'→Gl (Q (.str r.1) ⟨CJ m i0 ([.slice 1 (List.map (AVal.int .u8) r.2.l) false]),n'⟩)):ACall vE 75 args ⟨m,n⟩ Q:=by
 rw[Co]at h
 subst ha
 refine ACall.front hi0 fun hin=>ent (fun n' k=>⟨_,rfl,(hQ n' k).go⟩) Tryz.func75 rfl Tryz.ntmps75 Tryz.results75 (.q (.r []) (.q (.r []) .z)) fun R hR=>?_
 replace h:=And.intro trivial h
 obtain⟨y1,h⟩:=AA h
 simp(disch:=omega) only[vm,seval,h.1]
 refine⟨Ma h.1.1 tD (i0:=i0) (by simp(disch:=omega) only[vm,seval,h.1]) fun n2 hn2=>?_⟩
 obtain⟨x3,h⟩:=AA h
 exact tR
theorem JW {a0 a1 r} (h:CG N a0 a1=some r) (ha:args=[.slice 4 (List.map A9 a0) false,A9 a1]) (hQ: ∀n',n≤n'→Gl (Q (.bool r) ⟨m,n'⟩)):ACall vE 123 args ⟨m,n⟩ Q:=by
 rw[CG]at h
 subst ha
 refine ent hQ Tryz.func123 rfl Tryz.ntmps123 Tryz.results123 (.q (.r []) (.q (.r []) .z)) fun R hR=>?_
 replace h:=And.intro trivial h
 obtain⟨y1,h⟩:=AA h
 simp(disch:=omega) only[vm,seval,h.1]
 refine⟨KI h.1.1 tD fun n2 hn2=>?_⟩
 exact tR
end Go.Proofs.YtjgdhjpafjpjgaaGreatDoor
