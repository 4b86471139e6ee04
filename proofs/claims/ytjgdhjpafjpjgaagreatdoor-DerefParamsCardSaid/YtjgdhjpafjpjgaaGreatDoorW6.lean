import Derived.Test.YtjgdhjpafjpjgaaGreatDoorVmFacts
import Derived.Test.YtjgdhjpafjpjgaaGreatDoorDefs
import Derived.Test.YtjgdhjpafjpjgaaGreatDoorVM2
import Derived.Test.YtjgdhjpafjpjgaaGreatDoorW0
import Derived.Test.YtjgdhjpafjpjgaaGreatDoorW1
import Derived.Test.YtjgdhjpafjpjgaaGreatDoorW2
import Derived.Test.YtjgdhjpafjpjgaaGreatDoorW3
import Derived.Test.YtjgdhjpafjpjgaaGreatDoorW4
import Derived.Test.YtjgdhjpafjpjgaaGreatDoorW5
set_option linter.unusedVariables false
set_option linter.unusedSimpArgs false
set_option maxHeartbeats 4000000
set_option maxRecDepth 100000
set_option linter.defProp false
namespace Go.Proofs.YtjgdhjpafjpjgaaGreatDoor
open Go.VM
variable{N n:Nat}{m:MS}{Q:PQ}{args:List AVal}
theorem DV {a0 a1 r} (h:strings_Cut N a0 a1=some r) (ha:args=[.str a0,.str a1]) (hQ: ∀n',n≤n'→Gl (Q (.tuple [.str r.1,.str r.2.1,.bool r.2.2]) ⟨m,n'⟩)):ACall vE 38 args ⟨m,n⟩ Q:=by
 rw[strings_Cut]at h
 subst ha
 refine ent hQ Tryz.func38 rfl Tryz.ntmps38 Tryz.results38 (.q (.r []) (.q (.r []) .z)) fun R hR=>?_
 replace h:=And.intro trivial h
 obtain⟨y1,h⟩:=AA h
 simp(disch:=omega) only[vm,seval,h.1]
 refine⟨H5 h.1.1 tD fun n2 hn2=>?_⟩
 exact tR
theorem I7 {a0 r} (h:Di N a0=some r) (ha:args=[.str a0]) (hQ: ∀n',n≤n'→Gl (Q (.tuple [.str r.1,.int .i64 r.2]) ⟨m,n'⟩)):ACall vE 39 args ⟨m,n⟩ Q:=by
 rw[Di]at h
 subst ha
 refine ent hQ Tryz.func39 rfl Tryz.ntmps39 Tryz.results39 (.q (.r []) (.q (.q (.r []) (.c (.q (.r []) .z) .z)) (.q (.r []) .z))) fun R hR=>?_
 replace h:=And.intro trivial h
 rcases AC h with h|h
 exact tR
 simp(disch:=omega) only[vm,seval,h.1]
 refine⟨AP (γ:=Unit) h [2,3,5,6,7,8,12,13,14,15,16,17,18,19,20,21,22,23,24,25,26,27,28,29,30,31,32,33,34,35,36,37] [4] (fun j1 g=>[.slice 1 (List.map (AVal.int .u8) j1) true]) (fun j1 g=>m) (.q (.r []) .z) ?_ ?_⟩<;>clear h
 rintro j1 _ n4 hnn4 _ _ h
 refine AB (.q (.r []) .z) ?_
 exact tR
 intro k2 Jk2 hk2 h
 simp(disch:=omega) only[vm,seval,h.1]
 refine⟨E8 (σ:=(List Int)×Int) (γ:=Unit) (fun k s=>CB N a0 k2 k s.1 s.2) (fun s g=>[.slice 1 (List.map (AVal.int .u8) s.1) true,.int .i64 s.2]) (fun s g=>m) [2,3,6,7,8,12,13,14,15,16,17,18,19,20,21,22,23,24,25,26,27,28,29,30,31,32,33,34,35,36,37] [4,5] ([],0) () h (fun _=>rfl) tD tD ?_⟩
 clear h
 rintro k5 ⟨s4,s5⟩ _ nL0_1 hnL0_1 _ h Jk5 hk5
 change _∧CB N a0 k2 (k5+1) s4 s5=_ at h
 rw[CB]at h
 refine AB (.q (.q (.r []) (.c .z .z)) (.q (.q (.r []) .z) (.r []))) ?_
 rcases AC h with h|h
 obtain⟨x6,h⟩:=AA h
 simp(disch:=omega) only[vm,seval,h.1]
 refine⟨AP (γ:=Unit) h [2,3,7,8,21,22,23,24,25,26,27,28,29,30,31,32,33] [5,6] (fun j7 g=>[.int .i64 j7.1,.int .u8 j7.2]) (fun j7 g=>m) (.q (.r []) (.c (.q (.r []) (.q (.q (.r []) (.c (.q (.r []) .z) .z)) (.q (.r []) (.r [])))) .z)) ?_ ?_⟩<;>clear h
 rintro j7 _ n10 hnn10 _ _ h
 refine AB (.r [34]) ?_
 obtain⟨c,h⟩:=AU h
 try simp only[liE,seval]at c
 replace h:=AQ c h
 exact tJ (hk5 ((s4++[j7.2]),(wr .i64 (j7.1+1))) ())
 intro k8 Jk8 hk8 h
 rcases AC h with h|h
 obtain⟨y11,h⟩:=AA h
 simp(disch:=omega) only[vm,seval,h.1]
 refine⟨IQ h.1.1 tD fun n12 hn12=>?_⟩
 rcases AC h with h|h
 exact tJ (hk8 ((wr .i64 (s5+2)),y11.1) ())
 exact tR
 exact tJ (hk8 (s5,(AV x6)) ())
 exact tJ (hk2 s4 ())
theorem OY {a0 r} (h:Jc N a0=some r) (ha:args=[.str a0]) (hQ: ∀n',n≤n'→Gl (Q (.tuple [.str r.1,.int .i64 r.2]) ⟨m,n'⟩)):ACall vE 92 args ⟨m,n⟩ Q:=by
 rw[Jc]at h
 subst ha
 refine ent hQ Tryz.func92 rfl Tryz.ntmps92 Tryz.results92 (.q (.r []) (.q .z (.q (.r []) .z))) fun R hR=>?_
 replace h:=And.intro trivial h
 simp(disch:=omega) only[vm,seval,h.1]
 refine⟨AP (γ:=Unit) h [9,10,11,12,13,14,15,16] [17] (fun j1 g=>[.bool j1]) (fun j1 g=>m) (.r []) ?_ ?_⟩<;>clear h
 rintro j1 _ n4 hnn4 _ _ h
 refine AB (.c (.q (.r []) .z) .z) ?_
 rcases AC h with h|h
 exact tR
 simp(disch:=omega) only[vm,seval,h.1]
 refine⟨AP (γ:=Unit) h [18,19,20,21,22] [0,4] (fun j7 g=>[.str j7.1,.str j7.2]) (fun j7 g=>m) (.q (.r []) (.c .z .z)) ?_ ?_⟩<;>clear h
 rintro j7 _ n10 hnn10 _ _ h
 refine AB (.q (.r []) (.q .z .z)) ?_
 obtain⟨y13,h⟩:=AA h
 simp(disch:=omega) only[vm,seval,h.1]
 refine⟨Ir h.1.1 tD fun n14 hn14=>?_⟩
 obtain⟨y15,h⟩:=AA h
 have cy15:=h.1.1
 obtain⟨y17,h⟩:=AA h
 have cy17:=h.1.1
 obtain⟨x19,h⟩:=AA h
 simp(disch:=omega) only[vm,seval,h.1]
 refine⟨BL [] (.take 0 (.take 1 (.take 2 (.take 5 (.take 6 (.take 7 (.alt 3 [7,6,5,1] (.alt 4 [7,6,5,2,1,0] (.alt 8 [7,6,5] (.alt 9 [] (.done) (.stop)) (.stop)) (.stop)) (.stop)))))))) Ar (by kernel_rfl) ?_⟩
 simp(disch:=omega) only[vm,seval,h.1]
 refine⟨JY cy15 tD fun n16 hn16=>?_⟩
 simp(disch:=omega) only[vm,seval,h.1]
 refine⟨MR cy17 tD fun n18 hn18=>?_⟩
 simp(disch:=omega) only[vm,seval,h.1]
 refine⟨AP (γ:=Unit) h [8,33,34,35,36,37,38,39,40,41,42,43,44,45,46,47,48,49,50,51,52,53] [6,7] (fun j20 g=>[.int .i64 j20.1,.str j20.2]) (fun j20 g=>m) (.q (.r []) (.q (.r []) (.c .z .z))) ?_ ?_⟩<;>clear h
 rintro j20 _ n23 hnn23 _ _ h
 refine AB .z ?_
 simp(disch:=omega) only[vm,seval,h.1]
 refine⟨AP (γ:=Unit) h [54,55,56,57,58,59,60,61,62,63] [7] (fun j28 g=>[.str j28]) (fun j28 g=>m) .z ?_ ?_⟩<;>clear h
 rintro j28 _ n31 hnn31 _ _ h
 refine AB (.q (.q (.r []) (.c (.q (.r []) .z) .z)) .z) ?_
 rcases AC h with h|h
 exact tR
 simp(disch:=omega) only[vm,seval,h.1]
 refine⟨AP (γ:=Unit) h [66,67,68,69,70,71,72,73,74,75,76,77,78] [6,7] (fun j39 g=>[.int .i64 j39.1,.str j39.2]) (fun j39 g=>m) .z ?_ ?_⟩<;>clear h
 rintro j39 _ n42 hnn42 _ _ h
 refine AB (.q .z (.q (.r []) .z)) ?_
 simp(disch:=omega) only[vm,seval,h.1]
 refine⟨AP (γ:=Unit) h [80,81,82,83,84,85,86,87,88,89,90] [79] (fun j46 g=>[.bool j46]) (fun j46 g=>m) (.r []) ?_ ?_⟩<;>clear h
 rintro j46 _ n49 hnn49 _ _ h
 refine AB (.c (.q (.r []) .z) (.q (.r []) (.c (.q (.r []) .z) (.q (.r []) (.c (.q (.r []) .z) .z))))) ?_
 rcases AC h with h|h
 exact tR
 rcases AC h with h|h
 obtain⟨c,h⟩:=AU h
 try simp only[liE,seval]at c
 replace h:=AQ c h
 obtain⟨c,h⟩:=AU h
 try simp only[liE,seval]at c
 replace h:=AQ c h
 obtain⟨y50,h⟩:=AA h
 simp(disch:=omega) only[vm,seval,h.1]
 refine⟨KO h.1.1 tD fun n51 hn51=>?_⟩
 obtain⟨c,h⟩:=AU h
 try simp only[liE,seval]at c
 replace h:=AQ c h
 exact tR
 rcases AC h with h|h
 obtain⟨c,h⟩:=AU h
 try simp only[liE,seval]at c
 replace h:=AQ c h
 obtain⟨c,h⟩:=AU h
 try simp only[liE,seval]at c
 replace h:=AQ c h
 obtain⟨y52,h⟩:=AA h
 simp(disch:=omega) only[vm,seval,h.1]
 refine⟨KO h.1.1 tD fun n53 hn53=>?_⟩
 obtain⟨c,h⟩:=AU h
 try simp only[liE,seval]at c
 replace h:=AQ c h
 exact tR
 obtain⟨c,h⟩:=AU h
 try simp only[liE,seval]at c
 replace h:=AQ c h
 exact tR
 intro k47 Jk47 hk47 h
 rcases AC h with h|h
 exact tJ (hk47 true ())
 rcases AC h with h|h
 exact tJ (hk47 true ())
 exact tJ (hk47 (decide (j39.1<(-400))) ())
 intro k40 Jk40 hk40 h
 simp(disch:=omega) only[vm,seval,h.1]
 refine⟨E8 (σ:=Int×(List UInt8)) (γ:=Unit) (fun k s=>Ed N k40 k s.1 s.2) (fun s g=>[.int .i64 s.1,.str s.2]) (fun s g=>m) [66,67,68,69,70,71,72,73,74,75,76,77,78] [6,7] (j20.1,j28) () h (fun _=>rfl) tD tD ?_⟩
 clear h
 rintro k43 ⟨s6,s7⟩ _ nL1_1 hnL1_1 _ h Jk43 hk43
 change _∧Ed N k40 (k43+1) s6 s7=_ at h
 rw[Ed]at h
 refine AB (.q (.q (.r []) (.c .z .z)) (.r [])) ?_
 obtain⟨x44,h⟩:=AA h
 rcases AC h with h|h
 obtain⟨x45,h⟩:=AA h
 exact tJ (hk43 ((wr .i64 (s6+1)),x45) ())
 exact tJ (hk40 (s6,s7) ())
 intro k29 Jk29 hk29 h
 simp(disch:=omega) only[vm,seval,h.1]
 refine⟨E8 (σ:=(List UInt8)) (γ:=Unit) (fun k s=>EY N k29 k s) (fun s g=>[.str s]) (fun s g=>m) [54,55,56,57,58,59,60,61,62,63] [7] j20.2 () h (fun _=>rfl) tD tD ?_⟩
 clear h
 rintro k32 s7 _ nL0_1 hnL0_1 _ h Jk32 hk32
 change _∧EY N k29 (k32+1) s7=_ at h
 rw[EY]at h
 refine AB (.q .z (.r [])) ?_
 simp(disch:=omega) only[vm,seval,h.1]
 refine⟨AP (γ:=Unit) h [54,55,56,57,58,59,60] [61] (fun j33 g=>[.bool j33]) (fun j33 g=>m) (.r []) ?_ ?_⟩<;>clear h
 rintro j33 _ n36 hnn36 _ _ h
 refine AB (.c .z .z) ?_
 rcases AC h with h|h
 obtain⟨x38,h⟩:=AA h
 exact tJ (hk32 x38 ())
 exact tJ (hk29 s7 ())
 intro k34 Jk34 hk34 h
 rcases AC h with h|h
 obtain⟨x37,h⟩:=AA h
 exact tJ (hk34 ((AV x37)==48) ())
 exact tJ (hk34 false ())
 intro k21 Jk21 hk21 h
 obtain⟨y24,h⟩:=AA h
 simp(disch:=omega) only[vm,seval,h.1]
 refine⟨Ir h.1.1 tD fun n25 hn25=>?_⟩
 rcases AC h with h|h
 obtain⟨x26,h⟩:=AA h
 obtain⟨x27,h⟩:=AA h
 obtain⟨c,h⟩:=AU h
 try simp only[liE,seval]at c
 replace h:=AQ c h
 simp(disch:=omega) only[vm,seval,h.1]
 refine⟨BL [] (.take 0 (.take 1 (.take 2 (.take 3 (.take 4 (.take 5 (.take 6 (.take 7 (.take 8 (.take 9 (.take 10 (.take 11 (.take 12 (.take 13 (.take 14 (.alt 15 [14,13,12,11,10,9,8,7] (.alt 16 [] (.done) (.stop)) (.stop))))))))))))))))) Ar (by kernel_rfl) ?_⟩
 exact tJ (hk21 ((wr .i64 (y17-(wr .i64 ((wr .i64 ((x19.length:Int)-y24))-1)))),(x26++x27)) ())
 exact tJ (hk21 (y17,x19) ())
 intro k8 Jk8 hk8 h
 obtain⟨x11,h⟩:=AA h
 rcases AC h with h|h
 obtain⟨x12,h⟩:=AA h
 simp(disch:=omega) only[vm,seval,h.1]
 refine⟨BL [] (.take 0 (.take 1 (.alt 2 [1,0] (.alt 3 [] (.done) (.stop)) (.stop)))) Ar (by kernel_rfl) ?_⟩
 exact tJ (hk8 (x12,([45]:List UInt8)) ())
 exact tJ (hk8 (a0,[]) ())
 intro k2 Jk2 hk2 h
 rcases AC h with h|h
 exact tJ (hk2 true ())
 obtain⟨y5,h⟩:=AA h
 simp(disch:=omega) only[vm,seval,h.1]
 refine⟨Je h.1.1 tD fun n6 hn6=>?_⟩
 exact tJ (hk2 (y5 !=(a0.length:Int)) ())
theorem Yo {a0 a1 r} (h:MK N a0 a1=some r) (ha:args=[.str a0,.int .u64 a1]) (hQ: ∀n',n≤n'→Gl (Q (.tuple [.int .u64 r.1,.int .i64 r.2]) ⟨m,n'⟩)):ACall vE 246 args ⟨m,n⟩ Q:=by
 rw[MK]at h
 subst ha
 refine ent hQ Tryz.func246 rfl Tryz.ntmps246 Tryz.results246 (.q (.r []) (.q (.r []) .z)) fun R hR=>?_
 replace h:=And.intro trivial h
 obtain⟨y1,h⟩:=AA h
 simp(disch:=omega) only[vm,seval,h.1]
 refine⟨Oe h.1.1 tD fun n2 hn2=>?_⟩
 exact tR
theorem Hq {a0 a1 r} (h:strings_Contains N a0 a1=some r) (ha:args=[.str a0,.str a1]) (hQ: ∀n',n≤n'→Gl (Q (.bool r) ⟨m,n'⟩)):ACall vE 107 args ⟨m,n⟩ Q:=by
 rw[strings_Contains]at h
 subst ha
 refine ent hQ Tryz.func107 rfl Tryz.ntmps107 Tryz.results107 (.q (.r []) (.q (.r []) .z)) fun R hR=>?_
 replace h:=And.intro trivial h
 obtain⟨y1,h⟩:=AA h
 simp(disch:=omega) only[vm,seval,h.1]
 refine⟨FZ h.1.1 tD fun n2 hn2=>?_⟩
 exact tR
theorem Gp {a0 r} (h:ES N a0=some r) (ha:args=[.int .u8 a0]) (hQ: ∀n',n≤n'→Gl (Q (.bool r) ⟨m,n'⟩)):ACall vE 77 args ⟨m,n⟩ Q:=by
 rw[ES]at h
 subst ha
 refine ent hQ Tryz.func77 rfl Tryz.ntmps77 Tryz.results77 (.q (.r []) (.q (.r []) .z)) fun R hR=>?_
 replace h:=And.intro trivial h
 obtain⟨y1,h⟩:=AA h
 simp(disch:=omega) only[vm,seval,h.1]
 refine⟨Oy h.1.1 tD fun n2 hn2=>?_⟩
 rcases AC h with h|h
 exact tR
 obtain⟨y3,h⟩:=AA h
 simp(disch:=omega) only[vm,seval,h.1]
 refine⟨Ov h.1.1 tD fun n4 hn4=>?_⟩
 exact tR
theorem Jf {a0 a1 r} (h:strings_Count N a0 a1=some r) (ha:args=[.str a0,.str a1]) (hQ: ∀n',n≤n'→Gl (Q (.int .i64 r) ⟨m,n'⟩)):ACall vE 248 args ⟨m,n⟩ Q:=by
 rw[strings_Count]at h
 subst ha
 refine ent hQ Tryz.func248 rfl Tryz.ntmps248 Tryz.results248 (.q (.r []) (.q (.q (.r []) (.c (.q (.r []) .z) .z)) (.q (.q (.r []) (.c (.q (.r []) .z) .z)) (.q (.r []) .z)))) fun R hR=>?_
 replace h:=And.intro trivial h
 rcases AC h with h|h
 obtain⟨y1,h⟩:=AA h
 simp(disch:=omega) only[vm,seval,h.1]
 refine⟨D5 h.1.1 tD fun n2 hn2=>?_⟩
 exact tR
 rcases AC h with h|h
 obtain⟨x3,h⟩:=AA h
 simp(disch:=omega) only[vm,seval,h.1]
 refine⟨AJO ?_⟩
 exact tR
 simp(disch:=omega) only[vm,seval,h.1]
 refine⟨E8 (σ:=(List UInt8)×Int) (γ:=Unit) (fun k s=>EH N a1 k s.1 s.2) (fun s g=>[.str s.1,.int .i64 s.2]) (fun s g=>m) [4,6,20,21,22,23,24,25,26,27,28,29,30,31,32,33] [0,5] (a0,0) () h (fun _=>rfl) tD tD ?_⟩
 clear h
 rintro k4 ⟨s0,s5⟩ _ nL0_1 hnL0_1 _ h Jk4 hk4
 change _∧EH N a1 (k4+1) s0 s5=_ at h
 rw[EH]at h
 refine AB (.q (.r []) (.q (.q (.r []) (.c (.q (.r []) .z) .z)) (.q (.r []) (.r [])))) ?_
 obtain⟨y5,h⟩:=AA h
 simp(disch:=omega) only[vm,seval,h.1]
 refine⟨FZ h.1.1 tD fun n6 hn6=>?_⟩
 rcases AC h with h|h
 exact tR
 obtain⟨x7,h⟩:=AA h
 exact tJ (hk4 (x7,(wr .i64 (s5+1))) ())
theorem LH {a0 a1 r} (h:strings_IndexAny N a0 a1=some r) (ha:args=[.str a0,.str a1]) (hQ: ∀n',n≤n'→Gl (Q (.int .i64 r) ⟨m,n'⟩)):ACall vE 158 args ⟨m,n⟩ Q:=by
 rw[strings_IndexAny]at h
 subst ha
 refine ent hQ Tryz.func158 rfl Tryz.ntmps158 Tryz.results158 (.q (.r []) (.q (.q (.r []) (.c (.q (.r []) .z) .z)) (.q (.q (.r []) (.c (.q (.r []) .z) .z)) .z))) fun R hR=>?_
 replace h:=And.intro trivial h
 rcases AC h with h|h
 exact tR
 rcases AC h with h|h
 obtain⟨x1,h⟩:=AA h
 simp(disch:=omega) only[vm,seval,h.1]
 refine⟨AP (γ:=Unit) h [19,20] [5] (fun j2 g=>[.int .i32 j2]) (fun j2 g=>m) (.q (.r []) (.c (.r []) .z)) ?_ ?_⟩<;>clear h
 rintro j2 _ n5 hnn5 _ _ h
 refine AB (.q (.r []) .z) ?_
 obtain⟨y6,h⟩:=AA h
 simp(disch:=omega) only[vm,seval,h.1]
 refine⟨G7 h.1.1 tD fun n7 hn7=>?_⟩
 exact tR
 intro k3 Jk3 hk3 h
 rcases AC h with h|h
 exact tJ (hk3 65533 ())
 exact tJ (hk3 (wr .i32 (AV x1)) ())
 simp(disch:=omega) only[vm,seval,h.1]
 refine⟨AP (γ:=Unit) h [4,6,7,8,24,25,26,27,28,29,30,31,32,33,34,35,36,37,38,39,40,41,42,43] [] (fun j8 g=>[]) (fun j8 g=>m) (.q (.r []) (.c (.q (.r []) (.q (.r []) (.c .z .z))) .z)) ?_ ?_⟩<;>clear h
 rintro j8 _ n11 hnn11 _ _ h
 refine AB .z ?_
 simp(disch:=omega) only[vm,seval,h.1]
 refine⟨AP (γ:=Unit) h [4,9,10,44,45,46,47,48,49,50,51,52,53,54] [] (fun j23 g=>[]) (fun j23 g=>m) (.q (.r []) .z) ?_ ?_⟩<;>clear h
 rintro j23 _ n26 hnn26 _ _ h
 refine AB (.q (.r []) .z) ?_
 exact tR
 intro k24 Jk24 hk24 h
 simp(disch:=omega) only[vm,seval,h.1]
 refine⟨E8 (σ:=Nat) (γ:=Unit) (fun k s=>DD N a0 a1 k24 k s) (fun s g=>[.iter a0 s]) (fun s g=>m) [4,9,10,46,47,48,49,50,51,52,53,54] [45] 0 () h (fun _=>rfl) tD tD ?_⟩
 clear h
 rintro k27 s45 _ nL1_1 hnL1_1 _ h Jk27 hk27
 change _∧DD N a0 a1 k24 (k27+1) s45=_ at h
 rw[DD]at h
 refine AB (.q (.r []) (.q (.c .z .z) (.q (.r []) (.q (.r []) (.c (.q (.r []) .z) .z))))) ?_
 rcases AC h with h|h
 obtain⟨y28,h⟩:=AA h
 simp(disch:=omega) only[vm,seval,h.1]
 refine⟨G7 h.1.1 tD fun n29 hn29=>?_⟩
 rcases AC h with h|h
 exact tR
 exact tJ (hk27 (s45+(Bp a0 s45).2) ())
 exact tJ (hk24 () ())
 intro k9 Jk9 hk9 h
 obtain⟨y12,h⟩:=AA h
 simp(disch:=omega) only[vm,seval,h.1]
 refine⟨Hg h.1.1 tD fun n13 hn13=>?_⟩
 rcases AC h with h|h
 obtain⟨y14,h⟩:=AA h
 simp(disch:=omega) only[vm,seval,h.1]
 refine⟨JR h.1.1 tD fun n15 hn15=>?_⟩
 obtain⟨c,h⟩:=AU h
 try simp only[liE,seval]at c
 replace h:=AQ c h
 obtain⟨c,h⟩:=AU h
 try simp only[liE,seval]at c
 replace h:=AQ c h
 rcases AC h with h|h
 simp(disch:=omega) only[vm,seval,h.1]
 refine⟨AP (γ:=Unit) h [4,8,33,34,35,36,37,38,39,40,41,42,43] [] (fun j16 g=>[]) (fun j16 g=>(n15,List.map AVal.bool j16)::m) (.q (.r []) .z) ?_ ?_⟩<;>clear h
 rintro j16 _ n19 hnn19 _ _ h
 refine AB (.q (.r []) .z) ?_
 exact tR
 intro k17 Jk17 hk17 h
 obtain⟨hfk20,h⟩:=AU h
 simp(disch:=omega) only[vm,seval,h.1]
 refine⟨C9 (σ:=(List Bool)) (γ:=Unit) a0 hfk20 (fun xs i s=>Br N k17 xs i s) (fun i s g=>[.int .i64 i]) (fun i s g=>(n15,List.map AVal.bool s)::m) [4,33,34,35,36,37,38,39,40,41,42,43] [8] y14.1 () h tD tD ?_ ?_⟩<;>clear h
 rintro s8 QZ _ nL0_1 hnL0_1 _ h
 change _∧Br N k17 [] s8 QZ=_ at h
 rw[Br]at h
 refine AB (.q (.q (.r []) (.c .z .z)) (.q (.q (.r []) (.c (.q (.r []) .z) .z)) (.r []))) ?_
 exact tJ (hk17 QZ ())
 rintro xk20 xsk20 s8 QZ _ nL0_1 hnL0_1 _ h Jk20 hk20
 change _∧Br N k17 (xk20::xsk20) s8 QZ=_ at h
 rw[Br]at h
 refine AB (.q (.q (.r []) (.c .z .z)) (.q (.q (.r []) (.c (.q (.r []) .z) .z)) (.r []))) ?_
 obtain⟨y21,h⟩:=AA h
 simp(disch:=omega) only[vm,seval,h.1]
 refine⟨Hd h.1.1 tD (i0:=n15) (by simp(disch:=omega) only[vm,seval,h.1]) fun n22 hn22=>?_⟩
 rcases AC h with h|h
 exact tR
 exact tJ (hk20 y21.2 ())
 exact tJ (hk9 () ())
 exact tJ (hk9 () ())
theorem OU {a0 a1 r} (h:Jb N a0 a1=some r) (ha:args=[.str a0,.int .u64 a1]) (hQ: ∀n',n≤n'→Gl (Q (.tuple [.int .u64 r.1,.int .i64 r.2]) ⟨m,n'⟩)):ACall vE 237 args ⟨m,n⟩ Q:=by
 rw[Jb]at h
 subst ha
 refine ent hQ Tryz.func237 rfl Tryz.ntmps237 Tryz.results237 (.q (.r []) (.q (.r []) .z)) fun R hR=>?_
 replace h:=And.intro trivial h
 obtain⟨y1,h⟩:=AA h
 simp(disch:=omega) only[vm,seval,h.1]
 refine⟨Gs h.1.1 tD fun n2 hn2=>?_⟩
 exact tR
theorem FD {a0 r} (h:EE N a0=some r) (ha:args=[.str a0]) (hQ: ∀n',n≤n'→Gl (Q (.str r) ⟨m,n'⟩)):ACall vE 110 args ⟨m,n⟩ Q:=by
 rw[EE]at h
 subst ha
 refine ent hQ Tryz.func110 rfl Tryz.ntmps110 Tryz.results110 (.q (.r []) (.q (.r [7]) (.q .z (.q (.r []) .z)))) fun R hR=>?_
 replace h:=And.intro trivial h
 obtain⟨c,h⟩:=AU h
 try simp only[liE,seval]at c
 replace h:=AQ c h
 simp(disch:=omega) only[vm,seval,h.1,A7,A9,DI,Ab,Ag,Aa]
 refine⟨E8 (σ:=(List UInt8)×Nat×(List Int)) (γ:=Nat) (fun k s=>BM N k s.1 s.2.1 s.2.2) (fun s g=>[.str s.1,.gsl 1 g s.2.1]) (fun s g=>(g,List.map (AVal.int .u8) s.2.2)::m) [4,8,9,10,11,12,13,14,15,16,17,18,19,20,21,22,23,24,25,26,27,28,29,30,31,32,33,34,35,36,37,38,39,40,41,42,43,44,45,46,47,48,49,50,51,52,53,54,55,56,57,58,59,60,61,62,63,64,65,66,67] [0,3] (a0,(0:Int).toNat,(List.replicate (0:Int).toNat 0)) n h (fun _=>rfl) (by first|(simp(disch:=omega) only[vm,seval,h.1,A7,A9,DI,Ab,Ag,Aa];done)|rfl) (by first|(simp(disch:=omega) only[vm,seval,h.1,A7,A9,DI,Ab,Ag,Aa];done)|rfl) ?_⟩
 clear h
 rintro k1 ⟨s0,s3_len,bq3⟩ q3 nL0_1 hnL0_1 _ h Jk1 hk1
 change _∧BM N (k1+1) s0 s3_len bq3=_ at h
 rw[BM]at h
 refine AB (.q (.q (.r []) (.c .z .z)) (.q (.r []) (.c (.r []) (.q (.r []) (.c (.r []) (.q (.r []) (.c (.r []) (.q (.r []) (.c (.r []) .z))))))))) ?_
 rcases AC h with h|h
 obtain⟨c,h⟩:=AU h
 try simp only[liE,seval]at c
 replace h:=AQ c h
 obtain⟨H,h⟩:=h
 cases h
 simp(disch:=omega) only[vm,seval,H,A7,A9,DI,Ab,Ag,Aa]
 refine⟨(hR _ _ _ _ _ _ (by simp(disch:=omega) only[vm,seval,H,A7,A9,DI,Ab,Ag,Aa];rfl) (.cons _ slr) ?_ (by omega) ?_).1⟩<;>first|(simp(disch:=omega) only[vm,seval,H,A7,A9,DI,Ab,Ag,Aa];done)|rfl
 obtain⟨y2,h⟩:=AA h
 simp(disch:=omega) only[vm,seval,h.1,A7,A9,DI,Ab,Ag,Aa]
 refine⟨Ci h.1.1 (by first|(simp(disch:=omega) only[vm,seval,h.1,A7,A9,DI,Ab,Ag,Aa];done)|rfl) fun n3 hn3=>?_⟩
 rcases AC h with h|h
 obtain⟨x4,h⟩:=AA h
 simp(disch:=omega) only[vm,seval,h.1,A7,A9,DI,Ab,Ag,Aa]
 refine⟨hk1 (x4,s3_len,bq3) q3 _ _ _ _ h.2 slr ?_ ?_ ?_ (by omega)⟩<;>first|(simp(disch:=omega) only[vm,seval,h.1,A7,A9,DI,Ab,Ag,Aa];done)|rfl
 obtain⟨y5,h⟩:=AA h
 simp(disch:=omega) only[vm,seval,h.1,A7,A9,DI,Ab,Ag,Aa]
 refine⟨Ci h.1.1 (by first|(simp(disch:=omega) only[vm,seval,h.1,A7,A9,DI,Ab,Ag,Aa];done)|rfl) fun n6 hn6=>?_⟩
 rcases AC h with h|h
 obtain⟨x7,h⟩:=AA h
 simp(disch:=omega) only[vm,seval,h.1,A7,A9,DI,Ab,Ag,Aa]
 refine⟨hk1 (x7,s3_len,bq3) q3 _ _ _ _ h.2 slr ?_ ?_ ?_ (by omega)⟩<;>first|(simp(disch:=omega) only[vm,seval,h.1,A7,A9,DI,Ab,Ag,Aa];done)|rfl
 obtain⟨y8,h⟩:=AA h
 simp(disch:=omega) only[vm,seval,h.1,A7,A9,DI,Ab,Ag,Aa]
 refine⟨Ci h.1.1 (by first|(simp(disch:=omega) only[vm,seval,h.1,A7,A9,DI,Ab,Ag,Aa];done)|rfl) fun n9 hn9=>?_⟩
 rcases AC h with h|h
 obtain⟨x10,h⟩:=AA h
 simp(disch:=omega) only[vm,seval,h.1,A7,A9,DI,Ab,Ag,Aa]
 refine⟨hk1 (x10,s3_len,bq3) q3 _ _ _ _ h.2 slr ?_ ?_ ?_ (by omega)⟩<;>first|(simp(disch:=omega) only[vm,seval,h.1,A7,A9,DI,Ab,Ag,Aa];done)|rfl
 rcases AC h with h|h
 simp(disch:=omega) only[vm,seval,h.1,A7,A9,DI,Ab,Ag,Aa]
 refine⟨hk1 (([47]:List UInt8),s3_len,bq3) q3 _ _ _ _ h.2 slr ?_ ?_ ?_ (by omega)⟩<;>first|(simp(disch:=omega) only[vm,seval,h.1,A7,A9,DI,Ab,Ag,Aa];done)|rfl
 simp(disch:=omega) only[vm,seval,h.1,A7,A9,DI,Ab,Ag,Aa]
 refine⟨AP (γ:=Unit) h [45,46,47,48,49,50] [44] (fun j11 g=>[.bool j11]) (fun j11 g=>(q3,List.map (AVal.int .u8) bq3)::m) (.r []) ?_ ?_⟩<;>clear h
 rintro j11 _ n14 hnn14 _ _ h
 refine AB (.c (.q (.r []) (.r [])) .z) ?_
 rcases AC h with h|h
 obtain⟨x17,h⟩:=AA h
 obtain⟨y18,h⟩:=AA h
 simp(disch:=omega) only[vm,seval,h.1,A7,A9,DI,Ab,Ag,Aa]
 refine⟨KE h.1.1 (by first|(simp(disch:=omega) only[vm,seval,h.1,A7,A9,DI,Ab,Ag,Aa];done)|rfl) fun n19 hn19=>?_⟩
 obtain⟨c,h⟩:=AU h
 try simp only[liE,seval]at c
 replace h:=AQ c h
 obtain⟨c,h⟩:=AU h
 try simp only[liE,seval]at c
 replace h:=AQ c h
 obtain⟨y20,h⟩:=AA h
 simp(disch:=omega) only[vm,seval,h.1,A7,A9,DI,Ab,Ag,Aa]
 refine⟨Fu h.1.1 (by first|(simp(disch:=omega) only[vm,seval,h.1,A7,A9,DI,Ab,Ag,Aa];done)|rfl) fun n21 hn21=>?_⟩
 obtain⟨c,h⟩:=AU h
 try simp only[liE,seval]at c
 replace h:=AQ c h
 simp(disch:=omega) only[vm,seval,h.1,A7,A9,DI,Ab,Ag,Aa]
 refine⟨hk1 ((([47]:List UInt8)++y18),(if y20>0 then y20 else 0).toNat,bq3) q3 _ _ _ _ h.2 slr ?_ ?_ ?_ (by omega)⟩<;>first|(simp(disch:=omega) only[vm,seval,h.1,A7,A9,DI,Ab,Ag,Aa];done)|rfl
 simp(disch:=omega) only[vm,seval,h.1,A7,A9,DI,Ab,Ag,Aa]
 refine⟨AP (γ:=Unit) h [62,63,64,65,66,67] [61] (fun j22 g=>[.bool j22]) (fun j22 g=>(q3,List.map (AVal.int .u8) bq3)::m) (.r []) ?_ ?_⟩<;>clear h
 rintro j22 _ n25 hnn25 _ _ h
 refine AB (.c (.r []) (.q (.r []) .z)) ?_
 rcases AC h with h|h
 simp(disch:=omega) only[vm,seval,h.1,A7,A9,DI,Ab,Ag,Aa]
 refine⟨hk1 ([],s3_len,bq3) q3 _ _ _ _ h.2 slr ?_ ?_ ?_ (by omega)⟩<;>first|(simp(disch:=omega) only[vm,seval,h.1,A7,A9,DI,Ab,Ag,Aa];done)|rfl
 obtain⟨x26,h⟩:=AA h
 obtain⟨y27,h⟩:=AA h
 simp(disch:=omega) only[vm,seval,h.1,A7,A9,DI,Ab,Ag,Aa]
 refine⟨BR h.1.1 (by first|(simp(disch:=omega) only[vm,seval,h.1,A7,A9,DI,Ab,Ag,Aa];done)|rfl) fun n28 hn28=>?_⟩
 simp(disch:=omega) only[vm,seval,h.1,A7,A9,DI,Ab,Ag,Aa]
 refine⟨AP (γ:=Unit) h [14,15,16,17] [4] (fun j29 g=>[.int .i64 j29]) (fun j29 g=>(q3,List.map (AVal.int .u8) bq3)::m) (.q (.r []) (.c (.r []) .z)) ?_ ?_⟩<;>clear h
 rintro j29 _ n32 hnn32 _ _ h
 refine AB (.q (.r [18]) (.r [])) ?_
 obtain⟨x33,h⟩:=AA h
 obtain⟨c,h⟩:=AU h
 try simp only[liE,seval]at c
 replace h:=AQ c h
 simp(disch:=omega) only[vm,seval,h.1,A7,A9,DI,Ab,Ag,Aa]
 refine⟨AKX fun i34 hi34=>Gl.go ?_⟩
 obtain⟨x35,h⟩:=AA h
 simp(disch:=omega) only[vm,seval,h.1,A7,A9,DI,Ab,Ag,Aa]
 refine⟨hk1 (x35,(s3_len+x33.length),(List.take s3_len bq3++List.map AV x33)) i34 _ _ _ _ h.2 slr ?_ ?_ ?_ (by omega)⟩<;>first|(simp(disch:=omega) only[vm,seval,h.1,A7,A9,DI,Ab,Ag,Aa];done)|rfl
 intro k30 Jk30 hk30 h
 rcases AC h with h|h
 simp(disch:=omega) only[vm,seval,h.1,A7,A9,DI,Ab,Ag,Aa]
 refine⟨hk30 (s0.length:Int) () _ _ _ _ h.2 slr ?_ ?_ ?_ (by omega)⟩<;>first|(simp(disch:=omega) only[vm,seval,h.1,A7,A9,DI,Ab,Ag,Aa];done)|rfl
 simp(disch:=omega) only[vm,seval,h.1,A7,A9,DI,Ab,Ag,Aa]
 refine⟨hk30 (wr .i64 (1+y27)) () _ _ _ _ h.2 slr ?_ ?_ ?_ (by omega)⟩<;>first|(simp(disch:=omega) only[vm,seval,h.1,A7,A9,DI,Ab,Ag,Aa];done)|rfl
 intro k23 Jk23 hk23 h
 rcases AC h with h|h
 simp(disch:=omega) only[vm,seval,h.1,A7,A9,DI,Ab,Ag,Aa]
 refine⟨hk23 true () _ _ _ _ h.2 slr ?_ ?_ ?_ (by omega)⟩<;>first|(simp(disch:=omega) only[vm,seval,h.1,A7,A9,DI,Ab,Ag,Aa];done)|rfl
 simp(disch:=omega) only[vm,seval,h.1,A7,A9,DI,Ab,Ag,Aa]
 refine⟨hk23 (s0==([46,46]:List UInt8)) () _ _ _ _ h.2 slr ?_ ?_ ?_ (by omega)⟩<;>first|(simp(disch:=omega) only[vm,seval,h.1,A7,A9,DI,Ab,Ag,Aa];done)|rfl
 intro k12 Jk12 hk12 h
 obtain⟨y15,h⟩:=AA h
 simp(disch:=omega) only[vm,seval,h.1,A7,A9,DI,Ab,Ag,Aa]
 refine⟨Ci h.1.1 (by first|(simp(disch:=omega) only[vm,seval,h.1,A7,A9,DI,Ab,Ag,Aa];done)|rfl) fun n16 hn16=>?_⟩
 rcases AC h with h|h
 simp(disch:=omega) only[vm,seval,h.1,A7,A9,DI,Ab,Ag,Aa]
 refine⟨hk12 true () _ _ _ _ h.2 slr ?_ ?_ ?_ (by omega)⟩<;>first|(simp(disch:=omega) only[vm,seval,h.1,A7,A9,DI,Ab,Ag,Aa];done)|rfl
 simp(disch:=omega) only[vm,seval,h.1,A7,A9,DI,Ab,Ag,Aa]
 refine⟨hk12 (s0==([47,46,46]:List UInt8)) () _ _ _ _ h.2 slr ?_ ?_ ?_ (by omega)⟩<;>first|(simp(disch:=omega) only[vm,seval,h.1,A7,A9,DI,Ab,Ag,Aa];done)|rfl
theorem AAX {a0 r} (h:Ns N a0=some r) (ha:args=[Fv a0]) (hQ: ∀n',n≤n'→Gl (Q (.str r) ⟨m,n'⟩)):ACall vE 113 args ⟨m,n⟩ Q:=by
 rw[Ns]at h
 subst ha
 refine ent hQ Tryz.func113 rfl Tryz.ntmps113 Tryz.results113 (.q (.r []) (.q (.r []) (.q (.r []) (.q (.r []) (.q (.r []) (.q (.r []) (.q (.r []) (.q (.r []) (.q (.r []) .z))))))))) fun R hR=>?_
 replace h:=And.intro trivial h
 refine LC h ?_
 clear h
 intro l1 c h
 replace c:=congrArg (List.map AVal.str) c
 simp only[List.map_cons,List.map_nil,eE]at c
 replace h:=AQ c h
 obtain⟨y2,h⟩:=AA h
 simp(disch:=omega) only[vm,seval,h.1]
 refine⟨GM h.1.1 tD (i2:=(n+1)) (by simp(disch:=omega) only[vm,seval,h.1]) fun n3 hn3=>?_⟩
 refine LC h ?_
 clear h
 intro l4 c h
 replace c:=congrArg (List.map AVal.str) c
 simp only[List.map_cons,List.map_nil,eE]at c
 replace h:=AQ c h
 obtain⟨y5,h⟩:=AA h
 simp(disch:=omega) only[vm,seval,h.1]
 refine⟨GM h.1.1 tD (i2:=(n+1)) (by simp(disch:=omega) only[vm,seval,h.1]) fun n6 hn6=>?_⟩
 obtain⟨y7,h⟩:=AA h
 simp(disch:=omega) only[vm,seval,h.1]
 refine⟨GM h.1.1 tD (i2:=(n+1)) (by simp(disch:=omega) only[vm,seval,h.1]) fun n8 hn8=>?_⟩
 refine LC h ?_
 clear h
 intro l9 c h
 replace c:=congrArg (List.map AVal.str) c
 simp only[List.map_cons,List.map_nil,eE]at c
 replace h:=AQ c h
 obtain⟨y10,h⟩:=AA h
 simp(disch:=omega) only[vm,seval,h.1]
 refine⟨GM h.1.1 tD (i2:=(n+1)) (by simp(disch:=omega) only[vm,seval,h.1]) fun n11 hn11=>?_⟩
 refine LC h ?_
 clear h
 intro l12 c h
 replace c:=congrArg (List.map AVal.str) c
 simp only[List.map_cons,List.map_nil,eE]at c
 replace h:=AQ c h
 obtain⟨y13,h⟩:=AA h
 simp(disch:=omega) only[vm,seval,h.1]
 refine⟨GM h.1.1 tD (i2:=(n+1)) (by simp(disch:=omega) only[vm,seval,h.1]) fun n14 hn14=>?_⟩
 obtain⟨y15,h⟩:=AA h
 simp(disch:=omega) only[vm,seval,h.1]
 refine⟨FW h.1.1 tD (i0:=(n+1)) (by simp(disch:=omega) only[vm,seval,h.1]) fun n16 hn16=>?_⟩
 exact tR
theorem Nu {a0 r} (h:F5 N a0=some r) (ha:args=[.str a0]) (hQ: ∀n',n≤n'→Gl (Q (.tuple [.str r.1,.int .i64 r.2]) ⟨m,n'⟩)):ACall vE 42 args ⟨m,n⟩ Q:=by
 rw[F5]at h
 subst ha
 refine ent hQ Tryz.func42 rfl Tryz.ntmps42 Tryz.results42 (.q (.r []) (.q (.q (.r []) (.c (.q (.r []) .z) .z)) (.q (.r []) .z))) fun R hR=>?_
 replace h:=And.intro trivial h
 rcases AC h with h|h
 exact tR
 simp(disch:=omega) only[vm,seval,h.1]
 refine⟨AP (γ:=Unit) h [2,3,5,6,7,8,12,13,14,15,16,17,18,19,20,21,22,23,24,25,26,27,28,29,30,31,32,33,34,35,36,37] [4] (fun j1 g=>[.slice 1 (List.map (AVal.int .u8) j1) true]) (fun j1 g=>m) (.q (.r []) .z) ?_ ?_⟩<;>clear h
 rintro j1 _ n4 hnn4 _ _ h
 refine AB (.q (.r []) .z) ?_
 exact tR
 intro k2 Jk2 hk2 h
 simp(disch:=omega) only[vm,seval,h.1]
 refine⟨E8 (σ:=(List Int)×Int) (γ:=Unit) (fun k s=>Cj N a0 k2 k s.1 s.2) (fun s g=>[.slice 1 (List.map (AVal.int .u8) s.1) true,.int .i64 s.2]) (fun s g=>m) [2,3,6,7,8,12,13,14,15,16,17,18,19,20,21,22,23,24,25,26,27,28,29,30,31,32,33,34,35,36,37] [4,5] ([],0) () h (fun _=>rfl) tD tD ?_⟩
 clear h
 rintro k5 ⟨s4,s5⟩ _ nL0_1 hnL0_1 _ h Jk5 hk5
 change _∧Cj N a0 k2 (k5+1) s4 s5=_ at h
 rw[Cj]at h
 refine AB (.q (.q (.r []) (.c .z .z)) (.q (.q (.r []) .z) (.r []))) ?_
 rcases AC h with h|h
 obtain⟨x6,h⟩:=AA h
 simp(disch:=omega) only[vm,seval,h.1]
 refine⟨AP (γ:=Unit) h [2,3,7,8,21,22,23,24,25,26,27,28,29,30,31,32,33] [5,6] (fun j7 g=>[.int .i64 j7.1,.int .u8 j7.2]) (fun j7 g=>m) (.q (.r []) (.c (.q (.r []) (.q (.q (.r []) (.c (.q (.r []) .z) .z)) (.r []))) .z)) ?_ ?_⟩<;>clear h
 rintro j7 _ n10 hnn10 _ _ h
 refine AB (.r [34]) ?_
 obtain⟨c,h⟩:=AU h
 try simp only[liE,seval]at c
 replace h:=AQ c h
 exact tJ (hk5 ((s4++[j7.2]),(wr .i64 (j7.1+1))) ())
 intro k8 Jk8 hk8 h
 rcases AC h with h|h
 obtain⟨y11,h⟩:=AA h
 simp(disch:=omega) only[vm,seval,h.1]
 refine⟨OV h.1.1 tD fun n12 hn12=>?_⟩
 rcases AC h with h|h
 exact tJ (hk8 ((wr .i64 (s5+2)),y11.1) ())
 exact tR
 exact tJ (hk8 (s5,(AV x6)) ())
 exact tJ (hk2 s4 ())
end Go.Proofs.YtjgdhjpafjpjgaaGreatDoor
