import Derived.Test.YtjgdhjpafjpjgaaGreatDoorVmFacts
import Derived.Test.YtjgdhjpafjpjgaaGreatDoorDefs
import Derived.Test.YtjgdhjpafjpjgaaGreatDoorVM2
import Derived.Test.YtjgdhjpafjpjgaaGreatDoorW0
import Derived.Test.YtjgdhjpafjpjgaaGreatDoorW1
set_option linter.unusedVariables false
set_option linter.unusedSimpArgs false
set_option maxHeartbeats 4000000
set_option maxRecDepth 100000
set_option linter.defProp false
namespace Go.Proofs.YtjgdhjpafjpjgaaGreatDoor
open Go.VM
variable{N n:Nat}{m:MS}{Q:PQ}{args:List AVal}
theorem Ea {a0 a1 r} (h:Bj N a0 a1=some r) (ha:args=[.str a0,.str a1]) (hQ: ∀n',n≤n'→Gl (Q (.int .i64 r) ⟨m,n'⟩)):ACall vE 138 args ⟨m,n⟩ Q:=by
 rw[Bj]at h
 subst ha
 refine ent hQ Tryz.func138 rfl Tryz.ntmps138 Tryz.results138 (.q (.r []) (.q (.r []) (.q .z (.q (.r []) (.q (.r []) (.q (.r []) (.q (.r []) (.q (.r []) .z)))))))) fun R hR=>?_
 replace h:=And.intro trivial h
 simp(disch:=omega) only[vm,seval,h.1]
 refine⟨AP (γ:=Unit) h [17,18,19,20,21,22,23] [16] (fun j1 g=>[.bool j1]) (fun j1 g=>m) (.r []) ?_ ?_⟩<;>clear h
 rintro j1 _ n4 hnn4 _ _ h
 refine AB (.c (.q (.r []) .z) (.q (.r []) (.c (.q (.r []) .z) (.q (.r []) (.c (.q (.r []) .z) (.q (.r []) (.c (.q (.r []) .z) .z))))))) ?_
 rcases AC h with h|h
 exact tR
 rcases AC h with h|h
 obtain⟨x5,h⟩:=AA h
 obtain⟨y6,h⟩:=AA h
 simp(disch:=omega) only[vm,seval,h.1]
 refine⟨Dw h.1.1 tD fun n7 hn7=>?_⟩
 exact tR
 rcases AC h with h|h
 exact tR
 cases h.2
 intro k2 Jk2 hk2 h
 rcases AC h with h|h
 exact tJ (hk2 true ())
 exact tJ (hk2 (a1==a0) ())
theorem Km {a0 r} (h:Fp N a0=some r) (ha:args=[.int .u8 a0]) (hQ: ∀n',n≤n'→Gl (Q (.bool r) ⟨m,n'⟩)):ACall vE 139 args ⟨m,n⟩ Q:=by
 rw[Fp]at h
 subst ha
 refine ent hQ Tryz.func139 rfl Tryz.ntmps139 Tryz.results139 (.q (.r []) (.q (.r []) .z)) fun R hR=>?_
 replace h:=And.intro trivial h
 obtain⟨y1,h⟩:=AA h
 simp(disch:=omega) only[vm,seval,h.1]
 refine⟨CQ h.1.1 tD fun n2 hn2=>?_⟩
 rcases AC h with h|h
 exact tR
 rcases AC h with h|h
 exact tR
 exact tR
theorem Jm {a0 r} (h:Ef N a0=some r) (ha:args=[.int .u8 a0]) (hQ: ∀n',n≤n'→Gl (Q (.int .u8 r) ⟨m,n'⟩)):ACall vE 140 args ⟨m,n⟩ Q:=by
 rw[Ef]at h
 subst ha
 refine ent hQ Tryz.func140 rfl Tryz.ntmps140 Tryz.results140 (.q (.r []) (.q (.q (.r []) (.c (.q (.r []) .z) .z)) (.q (.r []) .z))) fun R hR=>?_
 replace h:=And.intro trivial h
 obtain⟨y1,h⟩:=AA h
 simp(disch:=omega) only[vm,seval,h.1]
 refine⟨CQ h.1.1 tD fun n2 hn2=>?_⟩
 rcases AC h with h|h
 exact tR
 exact tR
theorem Ir {a0 a1 r} (h:EK N a0 a1=some r) (ha:args=[.str a0,.str a1]) (hQ: ∀n',n≤n'→Gl (Q (.int .i64 r) ⟨m,n'⟩)):ACall vE 41 args ⟨m,n⟩ Q:=by
 rw[EK]at h
 subst ha
 refine ent hQ Tryz.func41 rfl Tryz.ntmps41 Tryz.results41 (.q (.r []) .z) fun R hR=>?_
 replace h:=And.intro trivial h
 simp(disch:=omega) only[vm,seval,h.1]
 refine⟨AP (γ:=Unit) h [4,5,6,7,8,9,10,11,12,13,14,15,16,17] [] (fun j1 g=>[]) (fun j1 g=>m) (.q (.r []) .z) ?_ ?_⟩<;>clear h
 rintro j1 _ n4 hnn4 _ _ h
 refine AB (.q (.r []) .z) ?_
 exact tR
 intro k2 Jk2 hk2 h
 obtain⟨hfk5,h⟩:=AU h
 simp(disch:=omega) only[vm,seval,h.1]
 refine⟨C9 (σ:=Unit) (γ:=Unit) a0 hfk5 (fun xs i s=>CJ N a1 k2 xs i) (fun i s g=>[.int .i64 i]) (fun i s g=>m) [4,6,7,8,9,10,11,12,13,14,15,16,17] [5] () () h tD tD ?_ ?_⟩<;>clear h
 rintro s5 _ _ nL0_1 hnL0_1 _ h
 change _∧CJ N a1 k2 [] s5=_ at h
 rw[CJ]at h
 refine AB (.q (.q (.r []) (.c .z .z)) (.q (.q (.r []) (.c (.q (.r []) .z) .z)) (.r []))) ?_
 exact tJ (hk2 () ())
 rintro xk5 xsk5 s5 _ _ nL0_1 hnL0_1 _ h Jk5 hk5
 change _∧CJ N a1 k2 (xk5::xsk5) s5=_ at h
 rw[CJ]at h
 refine AB (.q (.q (.r []) (.c .z .z)) (.q (.q (.r []) (.c (.q (.r []) .z) .z)) (.r []))) ?_
 obtain⟨y6,h⟩:=AA h
 simp(disch:=omega) only[vm,seval,h.1]
 refine⟨Gb h.1.1 tD fun n7 hn7=>?_⟩
 rcases AC h with h|h
 exact tR
 exact tJ (hk5 () ())
theorem J4 {a0 r} (h:I6 N a0=some r) (ha:args=[.str a0]) (hQ: ∀n',n≤n'→Gl (Q (.int .i64 r) ⟨m,n'⟩)):ACall vE 197 args ⟨m,n⟩ Q:=by
 rw[I6]at h
 subst ha
 refine ent hQ Tryz.func197 rfl Tryz.ntmps197 Tryz.results197 (.q (.r []) (.q (.r []) .z)) fun R hR=>?_
 replace h:=And.intro trivial h
 simp(disch:=omega) only[vm,seval,h.1]
 refine⟨AP (γ:=Unit) h [4,5,6,7,8,9,10,11,12,13,14,15] [3] (fun j1 g=>[.int .i64 j1]) (fun j1 g=>m) .z ?_ ?_⟩<;>clear h
 rintro j1 _ n4 hnn4 _ _ h
 refine AB (.q (.r []) .z) ?_
 exact tR
 intro k2 Jk2 hk2 h
 simp(disch:=omega) only[vm,seval,h.1]
 refine⟨E8 (σ:=Int) (γ:=Unit) (fun k s=>GI N a0 k2 k s) (fun s g=>[.int .i64 s]) (fun s g=>m) [4,5,6,7,8,9,10,11,12,13,14,15] [3] 0 () h (fun _=>rfl) tD tD ?_⟩
 clear h
 rintro k5 s3 _ nL0_1 hnL0_1 _ h Jk5 hk5
 change _∧GI N a0 k2 (k5+1) s3=_ at h
 rw[GI]at h
 refine AB (.q .z (.r [])) ?_
 simp(disch:=omega) only[vm,seval,h.1]
 refine⟨AP (γ:=Unit) h [4,5,6,7,8,9,10,11,12] [13] (fun j6 g=>[.bool j6]) (fun j6 g=>m) (.r []) ?_ ?_⟩<;>clear h
 rintro j6 _ n9 hnn9 _ _ h
 refine AB (.c .z .z) ?_
 rcases AC h with h|h
 exact tJ (hk5 (wr .i64 (s3+1)) ())
 exact tJ (hk2 s3 ())
 intro k7 Jk7 hk7 h
 rcases AC h with h|h
 obtain⟨x10,h⟩:=AA h
 obtain⟨y11,h⟩:=AA h
 simp(disch:=omega) only[vm,seval,h.1]
 refine⟨EZ h.1.1 tD fun n12 hn12=>?_⟩
 exact tJ (hk7 y11 ())
 exact tJ (hk7 false ())
theorem MR {a0 r} (h:IA N a0=some r) (ha:args=[.str a0]) (hQ: ∀n',n≤n'→Gl (Q (.int .i64 r) ⟨m,n'⟩)):ACall vE 144 args ⟨m,n⟩ Q:=by
 rw[IA]at h
 subst ha
 refine ent hQ Tryz.func144 rfl Tryz.ntmps144 Tryz.results144 (.q (.r []) .z) fun R hR=>?_
 replace h:=And.intro trivial h
 simp(disch:=omega) only[vm,seval,h.1]
 refine⟨AP (γ:=Unit) h [6,7,8,9,10,11,12] [3] (fun j1 g=>[.bool j1]) (fun j1 g=>m) (.r []) ?_ ?_⟩<;>clear h
 rintro j1 _ n4 hnn4 _ _ h
 refine AB .z ?_
 simp(disch:=omega) only[vm,seval,h.1]
 refine⟨AP (γ:=Unit) h [13,14,15,16,17,18,19,20,21] [0] (fun j6 g=>[.str j6]) (fun j6 g=>m) .z ?_ ?_⟩<;>clear h
 rintro j6 _ n9 hnn9 _ _ h
 refine AB (.q (.r []) .z) ?_
 simp(disch:=omega) only[vm,seval,h.1]
 refine⟨AP (γ:=Unit) h [5,22,23,24,25,26,27,28,29,30,31,32,33,34,35,36] [4] (fun j18 g=>[.int .i64 j18]) (fun j18 g=>m) (.q (.r []) .z) ?_ ?_⟩<;>clear h
 rintro j18 _ n21 hnn21 _ _ h
 refine AB (.q (.q (.r []) (.c (.q (.r []) .z) .z)) (.q (.r []) .z)) ?_
 rcases AC h with h|h
 exact tR
 exact tR
 intro k19 Jk19 hk19 h
 obtain⟨hfk22,h⟩:=AU h
 simp(disch:=omega) only[vm,seval,h.1]
 refine⟨C9 (σ:=Int) (γ:=Unit) j6 hfk22 (fun xs i s=>Cg N k19 xs s) (fun i s g=>[.int .i64 s,.int .i64 i]) (fun i s g=>m) [22,23,24,25,26,27,28,29,30,31,32,33,34,35,36] [4,5] 0 () h tD tD ?_ ?_⟩<;>clear h
 rintro s5 s4 _ nL0_1 hnL0_1 _ h
 change _∧Cg N k19 [] s4=_ at h
 rw[Cg]at h
 refine AB (.q (.q (.r []) (.c .z .z)) (.q (.r []) (.r []))) ?_
 exact tJ (hk19 s4 ())
 rintro xk22 xsk22 s5 s4 _ nL0_1 hnL0_1 _ h Jk22 hk22
 change _∧Cg N k19 (xk22::xsk22) s4=_ at h
 rw[Cg]at h
 refine AB (.q (.q (.r []) (.c .z .z)) (.q (.r []) (.r []))) ?_
 exact tJ (hk22 (if 1073741824<(wr .i64 ((wr .i64 (s4 * 10))+(wr .i64 (wr .u8 ((AV xk22)-48)))))then 1073741824 else(wr .i64 ((wr .i64 (s4 * 10))+(wr .i64 (wr .u8 ((AV xk22)-48)))))) ())
 intro k7 Jk7 hk7 h
 simp(disch:=omega) only[vm,seval,h.1]
 refine⟨AP (γ:=Unit) h [13,14,15,16,17,18] [19] (fun j10 g=>[.bool j10]) (fun j10 g=>m) (.r []) ?_ ?_⟩<;>clear h
 rintro j10 _ n13 hnn13 _ _ h
 refine AB (.c (.r []) .z) ?_
 rcases AC h with h|h
 obtain⟨x17,h⟩:=AA h
 exact tJ (hk7 x17 ())
 exact tJ (hk7 a0 ())
 intro k11 Jk11 hk11 h
 rcases AC h with h|h
 exact tJ (hk11 false ())
 obtain⟨x14,h⟩:=AA h
 obtain⟨y15,h⟩:=AA h
 simp(disch:=omega) only[vm,seval,h.1]
 refine⟨Gb h.1.1 tD fun n16 hn16=>?_⟩
 exact tJ (hk11 y15 ())
 intro k2 Jk2 hk2 h
 rcases AC h with h|h
 exact tJ (hk2 false ())
 obtain⟨x5,h⟩:=AA h
 exact tJ (hk2 ((AV x5)==45) ())
theorem Oq {a0 r} (h:Jy N a0=some r) (ha:args=[.int .u8 a0]) (hQ: ∀n',n≤n'→Gl (Q (.bool r) ⟨m,n'⟩)):ACall vE 148 args ⟨m,n⟩ Q:=by
 rw[Jy]at h
 subst ha
 refine ent hQ Tryz.func148 rfl Tryz.ntmps148 Tryz.results148 (.q (.r []) (.q (.r []) .z)) fun R hR=>?_
 replace h:=And.intro trivial h
 obtain⟨y1,h⟩:=AA h
 simp(disch:=omega) only[vm,seval,h.1]
 refine⟨Gb h.1.1 tD fun n2 hn2=>?_⟩
 exact tR
theorem Gi {a0 r} (h:EN N a0=some r) (ha:args=[.int .u8 a0]) (hQ: ∀n',n≤n'→Gl (Q (.bool r) ⟨m,n'⟩)):ACall vE 141 args ⟨m,n⟩ Q:=by
 rw[EN]at h
 subst ha
 refine ent hQ Tryz.func141 rfl Tryz.ntmps141 Tryz.results141 (.q (.r []) (.q (.r []) .z)) fun R hR=>?_
 replace h:=And.intro trivial h
 obtain⟨y1,h⟩:=AA h
 simp(disch:=omega) only[vm,seval,h.1]
 refine⟨EZ h.1.1 tD fun n2 hn2=>?_⟩
 rcases AC h with h|h
 exact tR
 rcases AC h with h|h
 rcases AC h with h|h
 exact tR
 rcases AC h with h|h
 exact tR
 exact tR
 rcases AC h with h|h
 exact tR
 exact tR
theorem H8 {a0 r} (h:GD N a0=some r) (ha:args=[.int .i64 a0]) (hQ: ∀n',n≤n'→Gl (Q (.tuple [.str r.1,.int .i64 r.2]) ⟨m,n'⟩)):ACall vE 230 args ⟨m,n⟩ Q:=by
 rw[GD]at h
 subst ha
 refine ent hQ Tryz.func230 rfl Tryz.ntmps230 Tryz.results230 (.q (.r []) (.q (.q (.r []) (.c (.q (.r []) .z) (.q (.r []) (.c (.q (.r []) .z) (.q (.r []) (.c (.q (.r []) .z) (.q (.r []) (.c (.q (.r []) .z) .z)))))))) (.q (.r []) .z))) fun R hR=>?_
 replace h:=And.intro trivial h
 obtain⟨y1,h⟩:=AA h
 simp(disch:=omega) only[vm,seval,h.1]
 refine⟨Od h.1.1 tD fun n2 hn2=>?_⟩
 rcases AC h with h|h
 rcases AC h with h|h
 exact tR
 rcases AC h with h|h
 refine LC h ?_
 clear h
 intro l3 c h
 replace c:=congrArg (List.map (AVal.int .u8)) c
 simp only[List.map_cons,List.map_nil,eE]at c
 replace h:=AQ c h
 exact tR
 rcases AC h with h|h
 refine LC h ?_
 clear h
 intro l4 c h
 replace c:=congrArg (List.map (AVal.int .u8)) c
 simp only[List.map_cons,List.map_nil,eE]at c
 replace h:=AQ c h
 exact tR
 refine LC h ?_
 clear h
 intro l5 c h
 replace c:=congrArg (List.map (AVal.int .u8)) c
 simp only[List.map_cons,List.map_nil,eE]at c
 replace h:=AQ c h
 exact tR
 exact tR
theorem PE {a0 r} (h:Ju N a0=some r) (ha:args=[GH a0]) (hQ: ∀n',n≤n'→Gl (Q (.str r) ⟨m,n'⟩)):ACall vE 80 args ⟨m,n⟩ Q:=by
 rw[Ju]at h
 subst ha
 refine ent hQ Tryz.func80 rfl Tryz.ntmps80 Tryz.results80 (.q (.r []) (.q (.q (.r []) (.c (.q (.r []) .z) (.q (.r []) (.c (.q .z .z) .z)))) (.q .z .z))) fun R hR=>?_
 replace h:=And.intro trivial h
 rcases AC h with h|h
 exact tR
 rcases AC h with h|h
 obtain⟨c,h⟩:=AU h
 try simp only[liE,seval]at c
 replace h:=AQ c h
 obtain⟨y1,h⟩:=AA h
 have cy1:=h.1.1
 obtain⟨c,h⟩:=AU h
 try simp only[liE,seval]at c
 replace h:=AQ c h
 simp(disch:=omega) only[vm,seval,h.1]
 refine⟨BL [] (.take 0 (.take 1 (.take 2 (.take 3 (.take 4 (.take 5 (.take 6 (.alt 7 [5,4,3,2,1,0] (.take 8 (.alt 9 [] (.done) (.stop))) (.stop))))))))) Ar (by kernel_rfl) ?_⟩
 simp(disch:=omega) only[vm,seval,h.1]
 refine⟨Jk cy1 tD fun n2 hn2=>?_⟩
 exact tR
 obtain⟨c,h⟩:=AU h
 try simp only[liE,seval]at c
 replace h:=AQ c h
 obtain⟨y3,h⟩:=AA h
 have cy3:=h.1.1
 obtain⟨c,h⟩:=AU h
 try simp only[liE,seval]at c
 replace h:=AQ c h
 simp(disch:=omega) only[vm,seval,h.1]
 refine⟨BL [] (.take 0 (.take 1 (.take 2 (.take 3 (.take 4 (.take 5 (.alt 6 [4,3,2,1,0] (.take 7 (.alt 8 [] (.done) (.stop))) (.stop)))))))) Ar (by kernel_rfl) ?_⟩
 simp(disch:=omega) only[vm,seval,h.1]
 refine⟨Jk cy3 tD fun n4 hn4=>?_⟩
 exact tR
theorem GG {a0 a1 r} (h:Ct N a0 a1=some r) (ha:args=[.str a0,.str a1]) (hQ: ∀n',n≤n'→Gl (Q (.tuple [.str r.1,.bool r.2]) ⟨m,n'⟩)):ACall vE 200 args ⟨m,n⟩ Q:=by
 rw[Ct]at h
 subst ha
 refine ent hQ Tryz.func200 rfl Tryz.ntmps200 Tryz.results200 (.q (.r []) (.q (.q (.r []) (.c (.q (.r []) .z) .z)) (.q (.r []) .z))) fun R hR=>?_
 replace h:=And.intro trivial h
 obtain⟨y1,h⟩:=AA h
 simp(disch:=omega) only[vm,seval,h.1]
 refine⟨Ce h.1.1 tD fun n2 hn2=>?_⟩
 rcases AC h with h|h
 obtain⟨x3,h⟩:=AA h
 exact tR
 exact tR
theorem VB {a0 r} (h:LB N a0=some r) (ha:args=[.str a0]) (hQ: ∀n',n≤n'→Gl (Q (.bool r) ⟨m,n'⟩)):ACall vE 151 args ⟨m,n⟩ Q:=by
 rw[LB]at h
 subst ha
 refine ent hQ Tryz.func151 rfl Tryz.ntmps151 Tryz.results151 (.q (.r []) .z) fun R hR=>?_
 replace h:=And.intro trivial h
 simp(disch:=omega) only[vm,seval,h.1]
 refine⟨AP (γ:=Unit) h [2,3,4,5,6,7,8,9,10,11,12,13,14,15,16,17,18,19,20,21,22,23,24,25,26] [] (fun j1 g=>[]) (fun j1 g=>m) (.q (.r []) .z) ?_ ?_⟩<;>clear h
 rintro j1 _ n4 hnn4 _ _ h
 refine AB (.q (.r []) .z) ?_
 exact tR
 intro k2 Jk2 hk2 h
 obtain⟨hfk5,h⟩:=AU h
 simp(disch:=omega) only[vm,seval,h.1]
 refine⟨C9 (σ:=Unit) (γ:=Unit) a0 hfk5 (fun xs i s=>D6 N k2 xs) (fun i s g=>[.int .i64 i]) (fun i s g=>m) [2,3,7,8,9,10,11,12,13,14,15,16,17,18,19,20,21,22,23,24,25,26] [6] () () h tD tD ?_ ?_⟩<;>clear h
 rintro s6 _ _ nL0_1 hnL0_1 _ h
 change _∧D6 N k2 []=_ at h
 rw[D6]at h
 refine AB (.q (.r []) (.q (.c .z .z) (.q (.q (.r []) .z) (.r [])))) ?_
 exact tJ (hk2 () ())
 rintro xk5 xsk5 s6 _ _ nL0_1 hnL0_1 _ h Jk5 hk5
 change _∧D6 N k2 (xk5::xsk5)=_ at h
 rw[D6]at h
 refine AB (.q (.r []) (.q (.c .z .z) (.q (.q (.r []) .z) (.r [])))) ?_
 simp(disch:=omega) only[vm,seval,h.1]
 refine⟨AP (γ:=Unit) h [9,10,11,12,13,14,15,16,17,18,19,20,21,22,23,24] [25] (fun j6 g=>[.bool j6]) (fun j6 g=>m) (.r []) ?_ ?_⟩<;>clear h
 rintro j6 _ n9 hnn9 _ _ h
 refine AB (.c (.q (.r []) .z) .z) ?_
 rcases AC h with h|h
 exact tR
 exact tJ (hk5 () ())
 intro k7 Jk7 hk7 h
 obtain⟨y10,h⟩:=AA h
 simp(disch:=omega) only[vm,seval,h.1]
 refine⟨CQ h.1.1 tD fun n11 hn11=>?_⟩
 rcases AC h with h|h
 exact tJ (hk7 false ())
 rcases AC h with h|h
 exact tJ (hk7 true ())
 exact tJ (hk7 (decide ((AV xk5)>122)) ())
theorem Oy {a0 r} (h:Jr N a0=some r) (ha:args=[.int .u8 a0]) (hQ: ∀n',n≤n'→Gl (Q (.bool r) ⟨m,n'⟩)):ACall vE 132 args ⟨m,n⟩ Q:=by
 rw[Jr]at h
 subst ha
 refine ent hQ Tryz.func132 rfl Tryz.ntmps132 Tryz.results132 (.q (.r []) (.q (.r []) .z)) fun R hR=>?_
 replace h:=And.intro trivial h
 obtain⟨y1,h⟩:=AA h
 simp(disch:=omega) only[vm,seval,h.1]
 refine⟨G5 h.1.1 tD fun n2 hn2=>?_⟩
 rcases AC h with h|h
 exact tR
 obtain⟨y3,h⟩:=AA h
 simp(disch:=omega) only[vm,seval,h.1]
 refine⟨CQ h.1.1 tD fun n4 hn4=>?_⟩
 exact tR
theorem BR {a0 a1 r} (h:strings_IndexByte N a0 a1=some r) (ha:args=[.str a0,.int .u8 a1]) (hQ: ∀n',n≤n'→Gl (Q (.int .i64 r) ⟨m,n'⟩)):ACall vE 78 args ⟨m,n⟩ Q:=by
 rw[strings_IndexByte]at h
 subst ha
 refine ent hQ Tryz.func78 rfl Tryz.ntmps78 Tryz.results78 (.q (.r []) (.q (.r []) .z)) fun R hR=>?_
 replace h:=And.intro trivial h
 obtain⟨y1,h⟩:=AA h
 simp(disch:=omega) only[vm,seval,h.1]
 refine⟨Dw h.1.1 tD fun n2 hn2=>?_⟩
 exact tR
theorem Aw {a0 a1 r}{i0:Nat} (h:Ai N a0 a1=some r) (ha:args=[.ptr i0 0,.str a1]) (hi0:BD m i0=some ([FJ i0 196 2 a0.addr,.buf 5 a0.buf true])) (hQ: ∀n',n≤n'→Gl (Q (.tuple [.int .i64 r.1,.nilIface]) ⟨BQ m i0 ([FJ i0 196 2 r.2.2.addr,.buf 5 r.2.2.buf true]),n'⟩)):ACall vE 169 args ⟨m,n⟩ Q:=by
 rw[Ai]at h
 subst ha
 refine ACall.front hi0 fun hin=>ent (fun n' k=>⟨_,rfl,(hQ n' k).go⟩) Tryz.func169 rfl Tryz.ntmps169 Tryz.results169 (.q (.r []) (.q (.r []) (.q (.r [12]) (.q (.r []) .z)))) fun R hR=>?_
 replace h:=And.intro trivial h
 obtain⟨y1,h⟩:=AA h
 simp(disch:=omega) only[vm,seval,h.1]
 refine⟨Hf h.1.1 tD (i0:=i0) (by simp(disch:=omega) only[vm,seval,h.1]) fun n2 hn2=>?_⟩
 obtain⟨c,h⟩:=AU h
 try simp only[liE,seval]at c
 replace h:=AQ c h
 exact tR
theorem Dn {a0 r} (h:Bh N a0=some r) (ha:args=[.str a0]) (hQ: ∀n',n≤n'→Gl (Q (.tuple [.int .i32 r.1,.int .i64 r.2]) ⟨m,n'⟩)):ACall vE 250 args ⟨m,n⟩ Q:=by
 rw[Bh]at h
 subst ha
 refine ent hQ Tryz.func250 rfl Tryz.ntmps250 Tryz.results250 (.q (.r []) (.q .z .z)) fun R hR=>?_
 replace h:=And.intro trivial h
 simp(disch:=omega) only[vm,seval,h.1]
 refine⟨AP (γ:=Unit) h [4,5,6,7,8,9] [10] (fun j1 g=>[.bool j1]) (fun j1 g=>m) (.r []) ?_ ?_⟩<;>clear h
 rintro j1 _ n4 hnn4 _ _ h
 refine AB (.c (.q (.r []) .z) (.r [])) ?_
 rcases AC h with h|h
 obtain⟨x6,h⟩:=AA h
 exact tR
 obtain⟨y7,h⟩:=AA h
 simp(disch:=omega) only[vm,seval,h.1]
 refine⟨FI h.1.1 tD fun n8 hn8=>?_⟩
 exact tR
 intro k2 Jk2 hk2 h
 rcases AC h with h|h
 exact tJ (hk2 false ())
 obtain⟨x5,h⟩:=AA h
 exact tJ (hk2 (decide ((AV x5)<128)) ())
theorem Ke {a0 a1 r} (h:strings_HasSuffix N a0 a1=some r) (ha:args=[.str a0,.str a1]) (hQ: ∀n',n≤n'→Gl (Q (.bool r) ⟨m,n'⟩)):ACall vE 153 args ⟨m,n⟩ Q:=by
 rw[strings_HasSuffix]at h
 subst ha
 refine ent hQ Tryz.func153 rfl Tryz.ntmps153 Tryz.results153 (.q (.r []) (.q (.r []) .z)) fun R hR=>?_
 replace h:=And.intro trivial h
 obtain⟨y1,h⟩:=AA h
 simp(disch:=omega) only[vm,seval,h.1]
 refine⟨GA h.1.1 tD fun n2 hn2=>?_⟩
 exact tR
theorem DJ {a0 a1 r}{i0:Nat} (h:Cb N a0 a1=some r) (ha:args=[.ptr i0 0,.slice 4 (List.map AJ a1) false]) (hi0:BD m i0=some ([.str a0.did.method,.str a0.did.iD,.int .i64 a0.e])) (hQ: ∀n',n≤n'→Gl (Q (.slice 1 (List.map AVal.str r.1) false) ⟨BQ m i0 ([.str r.2.did.method,.str r.2.did.iD,.int .i64 r.2.e]),n'⟩)):ACall vE 99 args ⟨m,n⟩ Q:=by
 rw[Cb]at h
 subst ha
 refine ACall.front hi0 fun hin=>ent (fun n' k=>⟨_,rfl,(hQ n' k).go⟩) Tryz.func99 rfl Tryz.ntmps99 Tryz.results99 (.q (.r []) (.q (.r []) .z)) fun R hR=>?_
 replace h:=And.intro trivial h
 simp(disch:=omega) only[vm,seval,h.1]
 refine⟨AP (γ:=Unit) h [7,8,9,10,11,12,13,14,15,16,17,18,19,20,21,22,23,24] [5] (fun j1 g=>[.slice 1 (List.map AVal.str j1.1) true]) (fun j1 g=>(i0,[.str j1.2.did.method,.str j1.2.did.iD,.int .i64 j1.2.e])::Bd m i0) (.q (.r []) .z) ?_ ?_⟩<;>clear h
 rintro j1 _ n4 hnn4 _ _ h
 refine AB (.q (.r []) .z) ?_
 exact tR
 intro k2 Jk2 hk2 h
 obtain⟨hfk5,h⟩:=AU h
 simp(disch:=omega) only[vm,seval,h.1]
 refine⟨C9 (σ:=(List (List UInt8))×DiddocDecoder) (γ:=Unit) a1 hfk5 (fun xs i s=>BV N k2 xs s.1 s.2) (fun i s g=>[.slice 1 (List.map AVal.str s.1) true,.int .i64 i]) (fun i s g=>(i0,[.str s.2.did.method,.str s.2.did.iD,.int .i64 s.2.e])::Bd m i0) [7,11,12,13,14,15,16,17,18,19,20,21,22,23,24] [5,10] ([],a0) () h tD tD ?_ ?_⟩<;>clear h
 rintro s10 ⟨s5,bi0⟩ _ nL0_1 hnL0_1 _ h
 change _∧BV N k2 [] s5 bi0=_ at h
 rw[BV]at h
 refine AB (.q (.r []) (.q (.c .z .z) (.q (.q (.r []) .z) (.r [])))) ?_
 exact tJ (hk2 (s5,bi0) ())
 rintro xk5 xsk5 s10 ⟨s5,bi0⟩ _ nL0_1 hnL0_1 _ h Jk5 hk5
 change _∧BV N k2 (xk5::xsk5) s5 bi0=_ at h
 rw[BV]at h
 refine AB (.q (.r []) (.q (.c .z .z) (.q (.q (.r []) .z) (.r [])))) ?_
 simp(disch:=omega) only[vm,seval,h.1]
 refine⟨AP (γ:=Unit) h [14,15,16,17,18] [] (fun j6 g=>[]) (fun j6 g=>(nL0_1,[.int .i64 xk5.kind,.str xk5.text,.slice 1 (List.map AVal.str xk5.keys) false,.slice 4 (List.map AJ xk5.items) false])::(i0,[.str j6.did.method,.str j6.did.iD,.int .i64 j6.e])::Bd m i0) (.q (.r []) (.c (.r []) .z)) ?_ ?_⟩<;>clear h
 rintro j6 _ n9 hnn9 _ _ h
 refine AB (.r [19]) ?_
 obtain⟨c,h⟩:=AU h
 try simp only[liE,seval]at c
 replace h:=AQ c h
 exact tJ (hk5 ((s5++[xk5.text]),j6) ())
 intro k7 Jk7 hk7 h
 rcases AC h with h|h
 obtain⟨y10,h⟩:=AA h
 simp(disch:=omega) only[vm,seval,h.1]
 refine⟨Dm h.1.1 tD (i0:=i0) (by simp(disch:=omega) only[vm,seval,h.1]) fun n11 hn11=>?_⟩
 exact tJ (hk7 y10 ())
 exact tJ (hk7 bi0 ())
theorem F9 {a0 a1 r}{i0:Nat} (h:Dy N a0 a1=some r) (ha:args=[.ptr i0 0,AJ a1]) (hi0:BD m i0=some ([.str a0.did.method,.str a0.did.iD,.int .i64 a0.e])) (hQ: ∀n',n≤n'→Gl (Q (.slice 4 (List.map AJ r.1) false) ⟨BQ m i0 ([.str r.2.did.method,.str r.2.did.iD,.int .i64 r.2.e]),n'⟩)):ACall vE 155 args ⟨m,n⟩ Q:=by
 rw[Dy]at h
 subst ha
 refine ACall.front hi0 fun hin=>J9 (fun n' k=>⟨_,rfl,(hQ n' k).go⟩) Tryz.func155 rfl Tryz.ntmps155 Tryz.results155 (.q (.r []) (.q (.q (.r []) (.c (.q (.r []) (.q (.r []) .z)) (.q (.r []) (.c (.q (.r []) (.q (.r []) .z)) .z)))) (.q (.r []) .z))) fun R hR=>?_
 replace h:=And.intro trivial h
 rcases AC h with h|h
 obtain⟨y1,h⟩:=AA h
 simp(disch:=omega) only[vm,seval,h.1]
 refine⟨Dm h.1.1 tD (i0:=i0) (by simp(disch:=omega) only[vm,seval,h.1]) fun n2 hn2=>?_⟩
 exact tR
 rcases AC h with h|h
 obtain⟨y3,h⟩:=AA h
 simp(disch:=omega) only[vm,seval,h.1]
 refine⟨Dm h.1.1 tD (i0:=i0) (by simp(disch:=omega) only[vm,seval,h.1]) fun n4 hn4=>?_⟩
 exact tR
 exact tR
theorem Ci {a0 a1 r} (h:strings_HasPrefix N a0 a1=some r) (ha:args=[.str a0,.str a1]) (hQ: ∀n',n≤n'→Gl (Q (.bool r) ⟨m,n'⟩)):ACall vE 164 args ⟨m,n⟩ Q:=by
 rw[strings_HasPrefix]at h
 subst ha
 refine ent hQ Tryz.func164 rfl Tryz.ntmps164 Tryz.results164 (.q (.r []) (.q (.r []) .z)) fun R hR=>?_
 replace h:=And.intro trivial h
 obtain⟨y1,h⟩:=AA h
 simp(disch:=omega) only[vm,seval,h.1]
 refine⟨Ce h.1.1 tD fun n2 hn2=>?_⟩
 exact tR
theorem UQ {a0 r} (h:LK N a0=some r) (ha:args=[FE a0]) (hQ: ∀n',n≤n'→Gl (Q (.str r) ⟨m,n'⟩)):ACall vE 157 args ⟨m,n⟩ Q:=by
 rw[LK]at h
 subst ha
 refine ent hQ Tryz.func157 rfl Tryz.ntmps157 Tryz.results157 (.q (.r []) (.q .z .z)) fun R hR=>?_
 replace h:=And.intro trivial h
 obtain⟨y1,h⟩:=AA h
 have cy1:=h.1.1
 obtain⟨c,h⟩:=AU h
 try simp only[liE,seval]at c
 replace h:=AQ c h
 simp(disch:=omega) only[vm,seval,h.1]
 refine⟨BL [] (.take 0 (.take 1 (.take 3 (.take 4 (.alt 2 [4,3,0] (.take 5 (.alt 6 [] (.done) (.stop))) (.stop)))))) Ar (by kernel_rfl) ?_⟩
 simp(disch:=omega) only[vm,seval,h.1]
 refine⟨Fa cy1 tD fun n2 hn2=>?_⟩
 simp(disch:=omega) only[vm,seval,h.1]
 refine⟨AP (γ:=Unit) h [10,11,12,13,14,15,16] [3] (fun j3 g=>[.str j3]) (fun j3 g=>(n,[.str a0.dID.method,.str a0.dID.iD,.str a0.path,.str a0.query,.str a0.fragment,.bool a0.hasQuery,.bool a0.hasFrag])::m) (.q (.r []) (.c (.r []) .z)) ?_ ?_⟩<;>clear h
 rintro j3 _ n6 hnn6 _ _ h
 refine AB .z ?_
 simp(disch:=omega) only[vm,seval,h.1]
 refine⟨AP (γ:=Unit) h [17,18,19,20,21,22,23] [3] (fun j7 g=>[.str j7]) (fun j7 g=>(n,[.str a0.dID.method,.str a0.dID.iD,.str a0.path,.str a0.query,.str a0.fragment,.bool a0.hasQuery,.bool a0.hasFrag])::m) (.q (.r []) (.c (.r []) .z)) ?_ ?_⟩<;>clear h
 rintro j7 _ n10 hnn10 _ _ h
 refine AB (.q (.r []) .z) ?_
 exact tR
 intro k8 Jk8 hk8 h
 rcases AC h with h|h
 obtain⟨c,h⟩:=AU h
 try simp only[liE,seval]at c
 replace h:=AQ c h
 obtain⟨c,h⟩:=AU h
 try simp only[liE,seval]at c
 replace h:=AQ c h
 exact tJ (hk8 (j3++(([35]:List UInt8)++a0.fragment)) ())
 exact tJ (hk8 j3 ())
 intro k4 Jk4 hk4 h
 rcases AC h with h|h
 obtain⟨c,h⟩:=AU h
 try simp only[liE,seval]at c
 replace h:=AQ c h
 obtain⟨c,h⟩:=AU h
 try simp only[liE,seval]at c
 replace h:=AQ c h
 exact tJ (hk4 ((y1++a0.path)++(([63]:List UInt8)++a0.query)) ())
 exact tJ (hk4 (y1++a0.path) ())
theorem Kn {a0 a1 r} (h:IM N a0 a1=some r) (ha:args=[.str a0,.str a1]) (hQ: ∀n',n≤n'→Gl (Q (.bool r) ⟨m,n'⟩)):ACall vE 106 args ⟨m,n⟩ Q:=by
 rw[IM]at h
 subst ha
 refine ent hQ Tryz.func106 rfl Tryz.ntmps106 Tryz.results106 (.q (.r []) (.q (.r []) .z)) fun R hR=>?_
 replace h:=And.intro trivial h
 obtain⟨y1,h⟩:=AA h
 simp(disch:=omega) only[vm,seval,h.1]
 refine⟨Ii h.1.1 tD fun n2 hn2=>?_⟩
 obtain⟨y3,h⟩:=AA h
 simp(disch:=omega) only[vm,seval,h.1]
 refine⟨Ii h.1.1 tD fun n4 hn4=>?_⟩
 exact tR
theorem Gu {a0 r} (h:De N a0=some r) (ha:args=[.str a0,.fn (.func 192) [] []]) (hQ: ∀n',n≤n'→Gl (Q (.bool r) ⟨m,n'⟩)):ACall vE 252 args ⟨m,n⟩ Q:=by
 rw[De]at h
 subst ha
 refine ent hQ Tryz.func252 rfl Tryz.ntmps252 Tryz.results252 (.q (.r []) .z) fun R hR=>?_
 replace h:=And.intro trivial h
 simp(disch:=omega) only[vm,seval,h.1]
 refine⟨AP (γ:=Unit) h [4,5,6,7,8,9,10,11,12,13,14,15,16,17] [] (fun j1 g=>[]) (fun j1 g=>m) (.q (.r []) .z) ?_ ?_⟩<;>clear h
 rintro j1 _ n4 hnn4 _ _ h
 refine AB (.q (.r []) .z) ?_
 exact tR
 intro k2 Jk2 hk2 h
 obtain⟨hfk5,h⟩:=AU h
 simp(disch:=omega) only[vm,seval,h.1]
 refine⟨C9 (σ:=Unit) (γ:=Unit) a0 hfk5 (fun xs i s=>Ay N k2 xs) (fun i s g=>[.int .i64 i]) (fun i s g=>m) [4,5,9,10,11,12,13,14,15,16,17] [8] () () h tD tD ?_ ?_⟩<;>clear h
 rintro s8 _ _ nL0_1 hnL0_1 _ h
 change _∧Ay N k2 []=_ at h
 rw[Ay]at h
 refine AB (.q (.r []) (.q (.c .z .z) (.q (.q (.r []) (.q (.r []) (.c (.q (.r []) .z) .z))) (.r [])))) ?_
 exact tJ (hk2 () ())
 rintro xk5 xsk5 s8 _ _ nL0_1 hnL0_1 _ h Jk5 hk5
 change _∧Ay N k2 (xk5::xsk5)=_ at h
 rw[Ay]at h
 refine AB (.q (.r []) (.q (.c .z .z) (.q (.q (.r []) (.q (.r []) (.c (.q (.r []) .z) .z))) (.r [])))) ?_
 obtain⟨y6,h⟩:=AA h
 simp(disch:=omega) only[vm,seval,h.1]
 refine⟨CQ h.1.1 tD fun n7 hn7=>?_⟩
 rcases AC h with h|h
 exact tJ (hk5 () ())
 exact tR
theorem OC {a0 r} (h:JS N a0=some r) (ha:args=[.int .u8 a0]) (hQ: ∀n',n≤n'→Gl (Q (.int .u64 r) ⟨m,n'⟩)):ACall vE 264 args ⟨m,n⟩ Q:=by
 rw[JS]at h
 subst ha
 refine ent hQ Tryz.func264 rfl Tryz.ntmps264 Tryz.results264 (.q (.r []) (.q (.q (.r []) (.c (.q (.r []) .z) .z)) (.q (.r []) .z))) fun R hR=>?_
 replace h:=And.intro trivial h
 obtain⟨y1,h⟩:=AA h
 simp(disch:=omega) only[vm,seval,h.1]
 refine⟨CQ h.1.1 tD fun n2 hn2=>?_⟩
 rcases AC h with h|h
 exact tR
 exact tR
end Go.Proofs.YtjgdhjpafjpjgaaGreatDoor
