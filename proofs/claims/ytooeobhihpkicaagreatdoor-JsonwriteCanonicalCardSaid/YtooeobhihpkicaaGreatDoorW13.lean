import Derived.Test.YtooeobhihpkicaaGreatDoorVmFacts
import Derived.Test.YtooeobhihpkicaaGreatDoorDefs
import Derived.Test.YtooeobhihpkicaaGreatDoorVM2
import Derived.Test.YtooeobhihpkicaaGreatDoorW11
import Derived.Test.YtooeobhihpkicaaGreatDoorVM5
set_option linter.unusedVariables false
set_option linter.unusedSimpArgs false
set_option maxHeartbeats 4000000
set_option maxRecDepth 100000
set_option linter.defProp false
namespace Go.Proofs.YtooeobhihpkicaaGreatDoor
open Go.VM
variable{N n:Nat}{m:MS}{Q:PQ}{args:List AVal}
theorem Nt {a0 r} (h:ED N a0=some r) (ha:args=[AJ a0]) (hQ: ∀n',n≤n'→Gl (Q (.slice 1 (List.map (AVal.int .i64) r) false) ⟨m,n'⟩)):ACall vE 49 args ⟨m,n⟩ Q:=by
 rw[ED]at h
 subst ha
 refine ACall.give (ANA Tryz.func49 rfl Tryz.ntmps49 Tryz.results49 (.q (.r []) (.q (.r []) .z)) (fun R hR=>?_))
 replace h:=And.intro trivial h
 replace h:=Ag h
 obtain⟨c,h⟩:=h
 try simp only[liE,seval]at c
 replace h:=Aa c h
 simp(disch:=omega) only[vm,seval,h.1,List.map_cons,List.map_nil,FB,FD,EF,E9,FC,E8,Dl,Dk,E5,EG]
 refine⟨Ad (γ:=Unit) h [4,9,10,11,12,13,14,15,16,17,18] [] (fun j1 g=>[]) (fun j1 g=>((n+1),List.map (AVal.int .i64) j1)::(n,[.int .i64 a0.kind,.str a0.text,.slice 1 (List.map AVal.str a0.keys) false,.slice 4 (List.map AJ a0.items) false])::m) (.q (.r []) .z) ?_ ?_⟩<;>clear h
 rintro j1 _ n4 hnn4 _ _ h
 refine AAi (i:=n) (cs:=[.int .i64 a0.kind,.str a0.text,.slice 1 (List.map AVal.str a0.keys) false,.slice 4 (List.map AJ a0.items) false]) (List.Perm.swap _ _ _) ?_
 refine AB .z ?_
 simp(disch:=omega) only[vm,seval,h.1,List.map_cons,List.map_nil,FB,FD,EF,E9,FC,E8,Dl,Dk,E5,EG]
 refine⟨Ad (γ:=Unit) h [19,20,21,22,23,24] [] (fun j6 g=>[]) (fun j6 g=>((n+1),List.map (AVal.int .i64) j6)::m) (.q (.r []) (.c (.r []) .z)) ?_ ?_⟩<;>clear h
 rintro j6 _ n9 hnn9 _ _ h
 refine AB (.q (.r []) .z) ?_
 replace h:=Ag h
 obtain⟨cg,h⟩:=h
 obtain⟨H,h⟩:=h
 cases h
 simp(disch:=omega) only[vm,seval,H,List.map_cons,List.map_nil,FB,FD,EF,E9,FC,E8,Dl,Dk,E5,EG]
 refine⟨(hR _ _ _ _ _ _ (by simp(disch:=omega) only[vm,seval,H,List.map_cons,List.map_nil,FB,FD,EF,E9,FC,E8,Dl,Dk,E5,EG];rfl) slr (by omega) ⟨[_],_,_,rfl,AFx cg,rfl,(hQ _ (by first|omega|(dsimp only;omega))).go⟩).1⟩
 intro k7 Jk7 hk7 h
 replace h:=AC h
 rcases h with h|h
 replace h:=AA h
 obtain⟨y10,h⟩:=h
 simp(disch:=omega) only[vm,seval,h.1,List.map_cons,List.map_nil,FB,FD,EF,E9,FC,E8,Dl,Dk,E5,EG]
 refine⟨F4 h.1.1 (by first|(simp(disch:=omega) only[vm,seval,h.1,List.map_cons,List.map_nil,FB,FD,EF,E9,FC,E8,Dl,Dk,E5,EG];done)|rfl) (i0:=(n+1)) (by simp(disch:=omega) only[vm,seval,h.1,List.map_cons,List.map_nil,FB,FD,EF,E9,FC,E8,Dl,Dk,E5,EG]) fun n11 hn11=>?_⟩
 simp(disch:=omega) only[vm,seval,h.1,List.map_cons,List.map_nil,FB,FD,EF,E9,FC,E8,Dl,Dk,E5,EG]
 refine⟨hk7 y10 () _ _ _ _ h.2 slr ?_ ?_ ?_ (by omega)⟩<;>first|(simp(disch:=omega) only[vm,seval,h.1,List.map_cons,List.map_nil,FB,FD,EF,E9,FC,E8,Dl,Dk,E5,EG];done)|rfl
 simp(disch:=omega) only[vm,seval,h.1,List.map_cons,List.map_nil,FB,FD,EF,E9,FC,E8,Dl,Dk,E5,EG]
 refine⟨hk7 j1 () _ _ _ _ h.2 slr ?_ ?_ ?_ (by omega)⟩<;>first|(simp(disch:=omega) only[vm,seval,h.1,List.map_cons,List.map_nil,FB,FD,EF,E9,FC,E8,Dl,Dk,E5,EG];done)|rfl
 intro k2 Jk2 hk2 h
 replace h:=Ag h
 obtain⟨hfk5,h⟩:=h
 simp(disch:=omega) only[vm,seval,h.1,List.map_cons,List.map_nil,FB,FD,EF,E9,FC,E8,Dl,Dk,E5,EG]
 refine⟨NI (σ:=(List Int)) (γ:=Unit) 0 ((a0.items.length:Int).toNat:Int) hfk5 (fun xs i s=>CU N a0 k2 xs i s) (fun i s g=>[.int .i64 i]) (fun i s g=>((n+1),List.map (AVal.int .i64) s)::(n,[.int .i64 a0.kind,.str a0.text,.slice 1 (List.map AVal.str a0.keys) false,.slice 4 (List.map AJ a0.items) false])::m) [4,12,13,14,15,16,17,18] [11] (List.replicate (a0.items.length:Int).toNat 0) () h (by first|(simp(disch:=omega) only[vm,seval,h.1,List.map_cons,List.map_nil,FB,FD,EF,E9,FC,E8,Dl,Dk,E5,EG];done)|rfl) (by first|(simp(disch:=omega) only[vm,seval,h.1,List.map_cons,List.map_nil,FB,FD,EF,E9,FC,E8,Dl,Dk,E5,EG];done)|rfl) ?_ ?_⟩<;>clear h
 rintro s11 bn1 _ nL0_1 hnL0_1 _ h
 change _∧CU N a0 k2 0 s11 bn1=_ at h
 rw[CU]at h
 try simp only[Int.toNat_natCast]at h
 refine AB (.q (.r []) (.q (.c .z .z) (.q (.q (.r []) (.r [])) (.r [])))) ?_
 simp(disch:=omega) only[vm,seval,h.1,List.map_cons,List.map_nil,FB,FD,EF,E9,FC,E8,Dl,Dk,E5,EG]
 refine⟨hk2 bn1 () _ _ _ _ h.2 slr ?_ ?_ ?_ (by omega)⟩<;>first|(simp(disch:=omega) only[vm,seval,h.1,List.map_cons,List.map_nil,FB,FD,EF,E9,FC,E8,Dl,Dk,E5,EG];done)|rfl
 rintro xsk5 s11 bn1 _ nL0_1 hnL0_1 _ h Jk5 hk5
 change _∧CU N a0 k2 (xsk5+1) s11 bn1=_ at h
 rw[CU]at h
 try simp only[Int.toNat_natCast]at h
 refine AB (.q (.r []) (.q (.c .z .z) (.q (.q (.r []) (.r [])) (.r [])))) ?_
 replace h:=Ag h
 obtain⟨c,h⟩:=h
 try simp only[liE,seval]at c
 replace h:=Aa c h
 replace h:=Ag h
 obtain⟨c,h⟩:=h
 try simp only[liE,seval]at c
 replace h:=Aa c h
 simp(disch:=omega) only[vm,seval,h.1,List.map_cons,List.map_nil,FB,FD,EF,E9,FC,E8,Dl,Dk,E5,EG]
 refine⟨hk5 (bn1.set s11.toNat s11) () _ _ _ _ h.2 slr ?_ ?_ ?_ (by omega)⟩<;>first|(simp(disch:=omega) only[vm,seval,h.1,List.map_cons,List.map_nil,FB,FD,EF,E9,FC,E8,Dl,Dk,E5,EG];done)|rfl
end Go.Proofs.YtooeobhihpkicaaGreatDoor
