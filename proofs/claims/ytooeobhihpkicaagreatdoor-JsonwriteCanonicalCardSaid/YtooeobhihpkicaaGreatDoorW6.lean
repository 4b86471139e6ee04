import Derived.Test.YtooeobhihpkicaaGreatDoorVmFacts
import Derived.Test.YtooeobhihpkicaaGreatDoorDefs
import Derived.Test.YtooeobhihpkicaaGreatDoorVM2
import Derived.Test.YtooeobhihpkicaaGreatDoorW4
set_option linter.unusedVariables false
set_option linter.unusedSimpArgs false
set_option maxHeartbeats 4000000
set_option maxRecDepth 100000
set_option linter.defProp false
namespace Go.Proofs.YtooeobhihpkicaaGreatDoor
open Go.VM
variable{N n:Nat}{m:MS}{Q:PQ}{args:List AVal}
theorem EH {l0 a0 a1 a2 c3_0 r}{i0:Nat} (h:BC N l0 a0 a1 a2 c3_0=some r) (ha:args=[.bsl 1 i0 0 l0,.int .i64 a1,.int .i64 a2,.fn (.func 66) [] [.cptr [.int .i64 c3_0.kind,.str c3_0.text,.slice 1 (List.map AVal.str c3_0.keys) false,.slice 4 (List.map AJ c3_0.items) false]]]) (hi0:Bi m i0=some (List.map (AVal.int .i64) a0)) (hQ: ∀n',n≤n'→Gl (Q (.bool r.1) ⟨Br m i0 (List.map (AVal.int .i64) r.2),n'⟩)):ACall vE 108 args ⟨m,n⟩ Q:=by
 rw[BC]at h
 subst ha
 refine ACall.front hi0 fun hin=>ent (fun n' k=>⟨_,rfl,(hQ n' k).go⟩) Tryz.func108 rfl Tryz.ntmps108 Tryz.results108 (.q (.r []) (.q (.r []) .z)) fun R hR=>?_
 replace h:=And.intro trivial h
 simp(disch:=omega) only[vm,seval,h.1]
 refine⟨Ad (γ:=Unit) h [8,9,10,11,12,15,16,17,18,19,20,21,22,23,24,25,26,27,28,29,30,31,32,33,34,35,36,37,38,39,40,41,42,43,44,45,46,47,48,49,50,51,52,53,54,55,56,57,58,59,60,61,62,63,64,65,66,67,68,69,70,71,72,73,74,75,76,77,78,79,80,81,82,83,84,85,86,87,88,89,90,91,92,93,94,95,96,97,98,99,100,101,102,103,104,105,106,107,108,109,110,111,112,113,114,115,116,117,118,119,120,121,122,123,124,125,126,127,128,129,130,131,132,133,134,135,136,137,138,139,140] [] (fun j1 g=>[]) (fun j1 g=>(i0,List.map (AVal.int .i64) j1)::BP m i0) (.q (.r []) .z) ?_ ?_⟩<;>clear h
 rintro j1 _ n4 hnn4 _ _ h
 refine AB (.q (.r []) .z) ?_
 obtain⟨H,h⟩:=h
 cases h
 simp(disch:=omega) only[vm,seval,H]
 refine⟨(hR _ _ _ _ _ _ (by simp(disch:=omega) only[vm,seval,H];rfl) slr ?_ (by omega) ?_).1⟩<;>first|(simp(disch:=omega) only[vm,seval,H];done)|rfl
 intro k2 Jk2 hk2 h
 replace h:=Ag h
 obtain⟨hfk5,h⟩:=h
 simp(disch:=omega) only[vm,seval,h.1]
 refine⟨NI (σ:=Int×(List Int)) (γ:=Unit) 0 5 hfk5 (fun xs i s=>AP N l0 a1 a2 c3_0 k2 xs s.1 s.2) (fun i s g=>[.int .i64 s.1,.int .i64 i]) (fun i s g=>(i0,List.map (AVal.int .i64) s.2)::BP m i0) [8,11,12,15,16,17,18,19,20,21,22,23,24,25,26,27,28,29,30,31,32,33,34,35,36,37,38,39,40,41,42,43,44,45,46,47,48,49,50,51,52,53,54,55,56,57,58,59,60,61,62,63,64,65,66,67,68,69,70,71,72,73,74,75,76,77,78,79,80,81,82,83,84,85,86,87,88,89,90,91,92,93,94,95,96,97,98,99,100,101,102,103,104,105,106,107,108,109,110,111,112,113,114,115,116,117,118,119,120,121,122,123,124,125,126,127,128,129,130,131,132,133,134,135,136,137,138,139,140] [9,10] ((wr .i64 (a1+1)),a0) () h (by first|(simp(disch:=omega) only[vm,seval,h.1];done)|rfl) (by first|(simp(disch:=omega) only[vm,seval,h.1];done)|rfl) ?_ ?_⟩<;>clear h
 rintro s10_0 ⟨s9_0,bi0_0⟩ _ nL0_1 hnL0_1 _ h
 change _∧AP N l0 a1 a2 c3_0 k2 0 s9_0 bi0_0=_ at h
 rw[AP]at h
 refine AB (.q (.q (.r []) (.c .z .z)) .z) ?_
 simp(disch:=omega) only[vm,seval,h.1]
 refine⟨hk2 bi0_0 () _ _ _ _ h.2 slr ?_ ?_ ?_ (by omega)⟩<;>first|(simp(disch:=omega) only[vm,seval,h.1];done)|rfl
 rintro xsk5 s10_0 ⟨s9_0,bi0_0⟩ _ nL0_1 hnL0_1 _ h Jk5 hk5
 change _∧AP N l0 a1 a2 c3_0 k2 (xsk5+1) s9_0 bi0_0=_ at h
 rw[AP]at h
 refine AB (.q (.q (.r []) (.c .z .z)) .z) ?_
 simp(disch:=omega) only[vm,seval,h.1]
 refine⟨Ad (γ:=Unit) h [8,11,12,19,20,21,22,23,24,25,26,27,28,29,30,31,32,33,34,35,36,37,38,39,40,41,42,43,44,45,46,47,48,49,50,51,52,53,54,55,56,57,58,59,60,61,62,63,64,65,66,67,68,69,70,71,72,73,74,75,76,77,78,79,80,81,82,83,84,85,86,87,88,89,90,91,92,93,94,95,96,97,98,99,100,101,102,103,104,105,106,107,108,109,110,111,112,113,114,115,116,117,118,119,120,121,122,123,124,125,126,127,128,129,130,131,132,133,134,135,136,137,138,139,140] [9] (fun j6 g=>[.int .i64 j6.1]) (fun j6 g=>(i0,List.map (AVal.int .i64) j6.2)::BP m i0) .z ?_ ?_⟩<;>clear h
 rintro j6 _ n9 hnn9 _ _ h
 refine AB (.r []) ?_
 simp(disch:=omega) only[vm,seval,h.1]
 refine⟨hk5 (j6.1,j6.2) () _ _ _ _ h.2 slr ?_ ?_ ?_ (by omega)⟩<;>first|(simp(disch:=omega) only[vm,seval,h.1];done)|rfl
 intro k7 Jk7 hk7 h
 simp(disch:=omega) only[vm,seval,h.1]
 refine⟨Ad (γ:=Unit) h [19,20,21,22,23,24,25,26,27,28,29,30,31,32,33,34,35,36,37,38] [9] (fun j10 g=>[.int .i64 j10]) (fun j10 g=>(i0,List.map (AVal.int .i64) bi0_0)::BP m i0) .z ?_ ?_⟩<;>clear h
 rintro j10 _ n13 hnn13 _ _ h
 refine AB (.q (.q (.r []) (.c (.q (.r []) .z) .z)) (.q (.q (.r []) (.c (.q (.r []) .z) .z)) (.q .z .z))) ?_
 replace h:=AC h
 rcases h with h|h
 obtain⟨H,h⟩:=h
 cases h
 simp(disch:=omega) only[vm,seval,H]
 refine⟨(hR _ _ _ _ _ _ (by simp(disch:=omega) only[vm,seval,H];rfl) slr ?_ (by omega) ?_).1⟩<;>first|(simp(disch:=omega) only[vm,seval,H];done)|rfl
 replace h:=AC h
 rcases h with h|h
 obtain⟨H,h⟩:=h
 cases h
 simp(disch:=omega) only[vm,seval,H]
 refine⟨(hR _ _ _ _ _ _ (by simp(disch:=omega) only[vm,seval,H];rfl) slr ?_ (by omega) ?_).1⟩<;>first|(simp(disch:=omega) only[vm,seval,H];done)|rfl
 replace h:=Ag h
 obtain⟨c,h⟩:=h
 try simp only[liE,seval]at c
 replace h:=Aa c h
 replace h:=AA h
 obtain⟨x23,h⟩:=h
 replace h:=Ag h
 obtain⟨c,h⟩:=h
 try simp only[liE,seval]at c
 replace h:=Aa c h
 replace h:=AA h
 obtain⟨x24,h⟩:=h
 replace h:=Ag h
 obtain⟨c,h⟩:=h
 try simp only[liE,seval]at c
 replace h:=Aa c h
 replace h:=Ag h
 obtain⟨c,h⟩:=h
 try simp only[liE,seval]at c
 replace h:=Aa c h
 simp(disch:=omega) only[vm,seval,h.1]
 refine⟨BB [] (.take 0 (.take 1 (.take 2 (.take 3 (.take 4 (.take 5 (.take 6 (.take 7 (.take 8 (.take 9 (.take 10 (.take 11 (.take 12 (.take 13 (.take 14 (.alt 15 [12,11,10,4,3,2] (.take 16 (.alt 17 [] (.done) (.stop))) (.stop))))))))))))))))) Av (by kernel_rfl) ?_⟩
 simp(disch:=omega) only[vm,seval,h.1]
 refine⟨Ad (γ:=Unit) h [11,62,63,64,65,66,67,68,69,70,71,72,73,74,75,76,77,78,79,80,81,82,83,84,85,86,87,88,89,90,91,92,93,94,95,96,97,98,99,100] [] (fun j25 g=>[]) (fun j25 g=>(i0,List.map (AVal.int .i64) j25)::BP m i0) (.q (.r []) (.c (.q (.r []) .z) .z)) ?_ ?_⟩<;>clear h
 rintro j25 _ n28 hnn28 _ _ h
 refine AB (.q (.r []) (.c (.q (.r []) .z) .z)) ?_
 replace h:=AC h
 rcases h with h|h
 replace h:=Ag h
 obtain⟨hfk34,h⟩:=h
 simp(disch:=omega) only[vm,seval,h.1]
 refine⟨NI (σ:=(List Int)) (γ:=Unit) (wr .i64 (j10+1)) a2 hfk34 (fun xs i s=>AO N l0 c3_0 k7 j10 xs i s) (fun i s g=>[.int .i64 i]) (fun i s g=>(i0,List.map (AVal.int .i64) s)::BP m i0) [107,108,109,110,111,112,113,114,115,116,117,118,119,120,121,122,123,124,125,126,127,128,129,130,131,132,133,134,135,136,137,138,139,140] [12] j25 () h (by first|(simp(disch:=omega) only[vm,seval,h.1];done)|rfl) (by first|(simp(disch:=omega) only[vm,seval,h.1];done)|rfl) ?_ ?_⟩<;>clear h
 rintro s12_3 bi0_3 _ nL3_2 hnL3_2 _ h
 change _∧AO N l0 c3_0 k7 j10 0 s12_3 bi0_3=_ at h
 rw[AO]at h
 refine AB (.q (.q (.r []) (.c .z .z)) (.q (.q (.q .z (.c .z .z)) .z) (.r []))) ?_
 simp(disch:=omega) only[vm,seval,h.1]
 refine⟨hk7 (j10,bi0_3) () _ _ _ _ h.2 slr ?_ ?_ ?_ (by omega)⟩<;>first|(simp(disch:=omega) only[vm,seval,h.1];done)|rfl
 rintro xsk34 s12_3 bi0_3 _ nL3_2 hnL3_2 _ h Jk34 hk34
 change _∧AO N l0 c3_0 k7 j10 (xsk34+1) s12_3 bi0_3=_ at h
 rw[AO]at h
 refine AB (.q (.q (.r []) (.c .z .z)) (.q (.q (.q .z (.c .z .z)) .z) (.r []))) ?_
 replace h:=Ag h
 obtain⟨c,h⟩:=h
 try simp only[liE,seval]at c
 replace h:=Aa c h
 replace h:=AA h
 obtain⟨x35,h⟩:=h
 replace h:=Ag h
 obtain⟨c,h⟩:=h
 try simp only[liE,seval]at c
 replace h:=Aa c h
 replace h:=AA h
 obtain⟨x36,h⟩:=h
 replace h:=AA h
 obtain⟨y37,h⟩:=h
 have cy37:=h.1.1
 simp(disch:=omega) only[vm,seval,h.1]
 refine⟨BB [] (.take 0 (.take 1 (.take 2 (.take 3 (.take 4 (.take 5 (.take 6 (.take 7 (.take 8 (.take 9 (.alt 10 [8,7,6,5,3,2,1] (.take 11 (.take 12 (.done))) (.stop)))))))))))) Av (by kernel_rfl) ?_⟩
 simp(disch:=omega) only[vm,seval,h.1]
 refine⟨Be cy37 (by first|(simp(disch:=omega) only[vm,seval,h.1];done)|rfl) fun n38 hn38=>?_⟩
 replace h:=AC h
 rcases h with h|h
 replace h:=Ag h
 obtain⟨c,h⟩:=h
 try simp only[liE,seval]at c
 replace h:=Aa c h
 replace h:=Ag h
 obtain⟨c,h⟩:=h
 try simp only[liE,seval]at c
 replace h:=Aa c h
 simp(disch:=omega) only[vm,seval,h.1]
 refine⟨BB [] (.take 0 (.take 1 (.take 2 (.take 3 (.take 4 (.take 5 (.take 6 (.take 7 (.take 8 (.take 9 (.take 10 (.take 11 (.take 12 (.take 13 (.take 14 (.alt 15 [12,11,10,4,3,2] (.take 16 (.alt 17 [] (.done) (.stop))) (.stop))))))))))))))))) Av (by kernel_rfl) ?_⟩
 simp(disch:=omega) only[vm,seval,h.1]
 refine⟨hk34 ((bi0_3.set s12_3.toNat x36).set ((wr .i64 (s12_3-1)).toNat) x35) () _ _ _ _ h.2 slr ?_ ?_ ?_ (by omega)⟩<;>first|(simp(disch:=omega) only[vm,seval,h.1];done)|rfl
 simp(disch:=omega) only[vm,seval,h.1]
 refine⟨hk7 (j10,bi0_3) () _ _ _ _ h.2 slr ?_ ?_ ?_ (by omega)⟩<;>first|(simp(disch:=omega) only[vm,seval,h.1];done)|rfl
 simp(disch:=omega) only[vm,seval,h.1]
 refine⟨hk7 (j10,j25) () _ _ _ _ h.2 slr ?_ ?_ ?_ (by omega)⟩<;>first|(simp(disch:=omega) only[vm,seval,h.1];done)|rfl
 intro k26 Jk26 hk26 h
 replace h:=AC h
 rcases h with h|h
 simp(disch:=omega) only[vm,seval,h.1]
 refine⟨D7 (σ:=Int×(List Int)) (γ:=Unit) (fun k s=>AV N l0 c3_0 k26 k s.1 s.2) (fun s g=>[.int .i64 s.1]) (fun s g=>(i0,List.map (AVal.int .i64) s.2)::BP m i0) [68,69,70,71,72,73,74,75,76,77,78,79,80,81,82,83,84,85,86,87,88,89,90,91,92,93,94,95,96,97,98,99,100] [11] ((wr .i64 (j10-1)),((bi0_0.set j10.toNat x23).set ((wr .i64 (j10-1)).toNat) x24)) () h (fun _=>rfl) (by first|(simp(disch:=omega) only[vm,seval,h.1];done)|rfl) (by first|(simp(disch:=omega) only[vm,seval,h.1];done)|rfl) ?_⟩
 clear h
 rintro k29 ⟨s11_2,bi0_2⟩ _ nL2_2 hnL2_2 _ h Jk29 hk29
 change _∧AV N l0 c3_0 k26 (k29+1) s11_2 bi0_2=_ at h
 rw[AV]at h
 refine AB (.q (.q (.r []) (.c .z .z)) (.q (.q (.q .z (.c .z .z)) .z) (.r []))) ?_
 replace h:=AC h
 rcases h with h|h
 replace h:=Ag h
 obtain⟨c,h⟩:=h
 try simp only[liE,seval]at c
 replace h:=Aa c h
 replace h:=AA h
 obtain⟨x30,h⟩:=h
 replace h:=Ag h
 obtain⟨c,h⟩:=h
 try simp only[liE,seval]at c
 replace h:=Aa c h
 replace h:=AA h
 obtain⟨x31,h⟩:=h
 replace h:=AA h
 obtain⟨y32,h⟩:=h
 have cy32:=h.1.1
 simp(disch:=omega) only[vm,seval,h.1]
 refine⟨BB [] (.take 0 (.take 1 (.take 2 (.take 3 (.take 4 (.take 5 (.take 6 (.take 7 (.take 8 (.take 9 (.alt 10 [8,7,6,5,3,2,1] (.take 11 (.take 12 (.done))) (.stop)))))))))))) Av (by kernel_rfl) ?_⟩
 simp(disch:=omega) only[vm,seval,h.1]
 refine⟨Be cy32 (by first|(simp(disch:=omega) only[vm,seval,h.1];done)|rfl) fun n33 hn33=>?_⟩
 replace h:=AC h
 rcases h with h|h
 replace h:=Ag h
 obtain⟨c,h⟩:=h
 try simp only[liE,seval]at c
 replace h:=Aa c h
 replace h:=Ag h
 obtain⟨c,h⟩:=h
 try simp only[liE,seval]at c
 replace h:=Aa c h
 simp(disch:=omega) only[vm,seval,h.1]
 refine⟨BB [] (.take 0 (.take 1 (.take 2 (.take 3 (.take 4 (.take 5 (.take 6 (.take 7 (.take 8 (.take 9 (.take 10 (.take 11 (.take 12 (.take 13 (.take 14 (.alt 15 [12,11,10,4,3,2] (.take 16 (.alt 17 [] (.done) (.stop))) (.stop))))))))))))))))) Av (by kernel_rfl) ?_⟩
 simp(disch:=omega) only[vm,seval,h.1]
 refine⟨hk29 ((wr .i64 (s11_2-1)),((bi0_2.set s11_2.toNat x31).set ((wr .i64 (s11_2-1)).toNat) x30)) () _ _ _ _ h.2 slr ?_ ?_ ?_ (by omega)⟩<;>first|(simp(disch:=omega) only[vm,seval,h.1];done)|rfl
 simp(disch:=omega) only[vm,seval,h.1]
 refine⟨hk26 bi0_2 () _ _ _ _ h.2 slr ?_ ?_ ?_ (by omega)⟩<;>first|(simp(disch:=omega) only[vm,seval,h.1];done)|rfl
 simp(disch:=omega) only[vm,seval,h.1]
 refine⟨hk26 bi0_2 () _ _ _ _ h.2 slr ?_ ?_ ?_ (by omega)⟩<;>first|(simp(disch:=omega) only[vm,seval,h.1];done)|rfl
 simp(disch:=omega) only[vm,seval,h.1]
 refine⟨hk26 ((bi0_0.set j10.toNat x23).set ((wr .i64 (j10-1)).toNat) x24) () _ _ _ _ h.2 slr ?_ ?_ ?_ (by omega)⟩<;>first|(simp(disch:=omega) only[vm,seval,h.1];done)|rfl
 intro k11 Jk11 hk11 h
 simp(disch:=omega) only[vm,seval,h.1]
 refine⟨D7 (σ:=Int) (γ:=Unit) (fun k s=>AU N l0 a2 c3_0 bi0_0 k11 k s) (fun s g=>[.int .i64 s]) (fun s g=>(i0,List.map (AVal.int .i64) bi0_0)::BP m i0) [19,20,21,22,23,24,25,26,27,28,29,30,31,32,33,34,35,36,37,38] [9] s9_0 () h (fun _=>rfl) (by first|(simp(disch:=omega) only[vm,seval,h.1];done)|rfl) (by first|(simp(disch:=omega) only[vm,seval,h.1];done)|rfl) ?_⟩
 clear h
 rintro k14 s9_1 _ nL1_2 hnL1_2 _ h Jk14 hk14
 change _∧AU N l0 a2 c3_0 bi0_0 k11 (k14+1) s9_1=_ at h
 rw[AU]at h
 refine AB (.q .z (.r [])) ?_
 simp(disch:=omega) only[vm,seval,h.1]
 refine⟨Ad (γ:=Unit) h [19,20,21,22,23,24,25,26,27,28,29,30,31,32,33,34,35] [36] (fun j15 g=>[.bool j15]) (fun j15 g=>(i0,List.map (AVal.int .i64) bi0_0)::BP m i0) .z ?_ ?_⟩<;>clear h
 rintro j15 _ n18 hnn18 _ _ h
 refine AB (.c .z .z) ?_
 replace h:=AC h
 rcases h with h|h
 simp(disch:=omega) only[vm,seval,h.1]
 refine⟨hk14 (wr .i64 (s9_1+1)) () _ _ _ _ h.2 slr ?_ ?_ ?_ (by omega)⟩<;>first|(simp(disch:=omega) only[vm,seval,h.1];done)|rfl
 simp(disch:=omega) only[vm,seval,h.1]
 refine⟨hk11 s9_1 () _ _ _ _ h.2 slr ?_ ?_ ?_ (by omega)⟩<;>first|(simp(disch:=omega) only[vm,seval,h.1];done)|rfl
 intro k16 Jk16 hk16 h
 replace h:=AC h
 rcases h with h|h
 replace h:=Ag h
 obtain⟨c,h⟩:=h
 try simp only[liE,seval]at c
 replace h:=Aa c h
 replace h:=AA h
 obtain⟨x19,h⟩:=h
 replace h:=Ag h
 obtain⟨c,h⟩:=h
 try simp only[liE,seval]at c
 replace h:=Aa c h
 replace h:=AA h
 obtain⟨x20,h⟩:=h
 replace h:=AA h
 obtain⟨y21,h⟩:=h
 have cy21:=h.1.1
 simp(disch:=omega) only[vm,seval,h.1]
 refine⟨BB [] (.take 0 (.take 1 (.take 2 (.take 3 (.take 4 (.take 5 (.take 6 (.take 7 (.take 8 (.take 9 (.take 10 (.take 11 (.take 12 (.take 13 (.alt 14 [12,11,10,9,7,6,5,2,1,0] (.take 15 (.take 16 (.take 17 (.done)))) (.stop)))))))))))))))) Av (by kernel_rfl) ?_⟩
 simp(disch:=omega) only[vm,seval,h.1]
 refine⟨Be cy21 (by first|(simp(disch:=omega) only[vm,seval,h.1];done)|rfl) fun n22 hn22=>?_⟩
 simp(disch:=omega) only[vm,seval,h.1]
 refine⟨hk16 (!(decide (y21<0))) () _ _ _ _ h.2 slr ?_ ?_ ?_ (by omega)⟩<;>first|(simp(disch:=omega) only[vm,seval,h.1];done)|rfl
 simp(disch:=omega) only[vm,seval,h.1]
 refine⟨BB [] (.take 0 (.take 1 (.take 2 (.take 3 (.take 4 (.take 5 (.take 6 (.take 7 (.take 8 (.take 9 (.take 10 (.take 11 (.take 12 (.take 13 (.alt 14 [12,11,10,9,7,6,5,2,1,0] (.take 15 (.take 16 (.take 17 (.done)))) (.stop)))))))))))))))) Av (by kernel_rfl) ?_⟩
 simp(disch:=omega) only[vm,seval,h.1]
 refine⟨hk16 false () _ _ _ _ h.2 slr ?_ ?_ ?_ (by omega)⟩<;>first|(simp(disch:=omega) only[vm,seval,h.1];done)|rfl
theorem Eg {l0 a0 a1 a2 a3 c4_0 r}{i0:Nat} (h:CR N l0 a0 a1 a2 a3 c4_0=some r) (ha:args=[.bsl 1 i0 0 l0,.int .i64 a1,.int .i64 a2,.int .i64 a3,.fn (.func 66) [] [.cptr [.int .i64 c4_0.kind,.str c4_0.text,.slice 1 (List.map AVal.str c4_0.keys) false,.slice 4 (List.map AJ c4_0.items) false]]]) (hi0:Bi m i0=some (List.map (AVal.int .i64) a0)) (hQ: ∀n',n≤n'→Gl (Q (.int .i64 r.1) ⟨Br m i0 (List.map (AVal.int .i64) r.2),n'⟩)):ACall vE 109 args ⟨m,n⟩ Q:=by
 rw[CR]at h
 subst ha
 refine ACall.front hi0 fun hin=>ent (fun n' k=>⟨_,rfl,(hQ n' k).go⟩) Tryz.func109 rfl Tryz.ntmps109 Tryz.results109 (.q (.r []) (.q .z (.q (.r []) .z))) fun R hR=>?_
 replace h:=And.intro trivial h
 replace h:=Ag h
 obtain⟨c,h⟩:=h
 try simp only[liE,seval]at c
 replace h:=Aa c h
 replace h:=AA h
 obtain⟨x1,h⟩:=h
 replace h:=Ag h
 obtain⟨c,h⟩:=h
 try simp only[liE,seval]at c
 replace h:=Aa c h
 replace h:=AA h
 obtain⟨x2,h⟩:=h
 replace h:=Ag h
 obtain⟨c,h⟩:=h
 try simp only[liE,seval]at c
 replace h:=Aa c h
 replace h:=Ag h
 obtain⟨c,h⟩:=h
 try simp only[liE,seval]at c
 replace h:=Aa c h
 simp(disch:=omega) only[vm,seval,h.1]
 refine⟨BB [] (.take 0 (.take 1 (.take 2 (.take 3 (.take 4 (.take 5 (.take 6 (.take 7 (.take 8 (.take 9 (.take 10 (.take 11 (.take 12 (.alt 13 [10,9,8,3,2] (.take 14 (.alt 15 [] (.done) (.stop))) (.stop))))))))))))))) Av (by kernel_rfl) ?_⟩
 simp(disch:=omega) only[vm,seval,h.1]
 refine⟨Ad (γ:=Unit) h [12,31,32,33,34,35,36,37,38,39,40,41,42,43,44,45,46,47,48,49,50,51,52,53,54,55,56,57,58,59,60,61,62,63,64,65,66,67,68,69,70,71,72,73,74,75,76,77,78,79,80,81,82,83,84,85,86,87,88] [11] (fun j3 g=>[.int .i64 j3.1]) (fun j3 g=>(i0,List.map (AVal.int .i64) j3.2)::BP m i0) .z ?_ ?_⟩<;>clear h
 rintro j3 _ n6 hnn6 _ _ h
 refine AB (.q (.r []) .z) ?_
 obtain⟨H,h⟩:=h
 cases h
 simp(disch:=omega) only[vm,seval,H]
 refine⟨(hR _ _ _ _ _ _ (by simp(disch:=omega) only[vm,seval,H];rfl) slr ?_ (by omega) ?_).1⟩<;>first|(simp(disch:=omega) only[vm,seval,H];done)|rfl
 intro k4 Jk4 hk4 h
 simp(disch:=omega) only[vm,seval,h.1]
 refine⟨D7 (σ:=Int×Int×(List Int)) (γ:=Unit) (fun k s=>BH N l0 a1 c4_0 k4 k s.1 s.2.1 s.2.2) (fun s g=>[.int .i64 s.1,.int .i64 s.2.1]) (fun s g=>(i0,List.map (AVal.int .i64) s.2.2)::BP m i0) [31,32,33,34,35,36,37,38,39,40,41,42,43,44,45,46,47,48,49,50,51,52,53,54,55,56,57,58,59,60,61,62,63,64,65,66,67,68,69,70,71,72,73,74,75,76,77,78,79,80,81,82,83,84,85,86,87,88] [11,12] ((wr .i64 (a1+1)),(wr .i64 (a2-1)),((a0.set a1.toNat x1).set a3.toNat x2)) () h (fun _=>rfl) (by first|(simp(disch:=omega) only[vm,seval,h.1];done)|rfl) (by first|(simp(disch:=omega) only[vm,seval,h.1];done)|rfl) ?_⟩
 clear h
 rintro k7 ⟨s11_0,s12_0,bi0_0⟩ _ nL0_1 hnL0_1 _ h Jk7 hk7
 change _∧BH N l0 a1 c4_0 k4 (k7+1) s11_0 s12_0 bi0_0=_ at h
 rw[BH]at h
 refine AB .z ?_
 simp(disch:=omega) only[vm,seval,h.1]
 refine⟨Ad (γ:=Unit) h [31,32,33,34,35,36,37,38,39,40,41,42,43,44,45,46,47,48,49] [11] (fun j8 g=>[.int .i64 j8]) (fun j8 g=>(i0,List.map (AVal.int .i64) bi0_0)::BP m i0) .z ?_ ?_⟩<;>clear h
 rintro j8 _ n11 hnn11 _ _ h
 refine AB .z ?_
 simp(disch:=omega) only[vm,seval,h.1]
 refine⟨Ad (γ:=Unit) h [50,51,52,53,54,55,56,57,58,59,60,61,62,63,64,65,66,67] [12] (fun j21 g=>[.int .i64 j21]) (fun j21 g=>(i0,List.map (AVal.int .i64) bi0_0)::BP m i0) .z ?_ ?_⟩<;>clear h
 rintro j21 _ n24 hnn24 _ _ h
 refine AB (.q (.q (.r []) (.c .z .z)) (.q .z (.q (.r []) (.r [])))) ?_
 replace h:=AC h
 rcases h with h|h
 simp(disch:=omega) only[vm,seval,h.1]
 refine⟨hk4 (j8,bi0_0) () _ _ _ _ h.2 slr ?_ ?_ ?_ (by omega)⟩<;>first|(simp(disch:=omega) only[vm,seval,h.1];done)|rfl
 replace h:=Ag h
 obtain⟨c,h⟩:=h
 try simp only[liE,seval]at c
 replace h:=Aa c h
 replace h:=AA h
 obtain⟨x34,h⟩:=h
 replace h:=Ag h
 obtain⟨c,h⟩:=h
 try simp only[liE,seval]at c
 replace h:=Aa c h
 replace h:=AA h
 obtain⟨x35,h⟩:=h
 replace h:=Ag h
 obtain⟨c,h⟩:=h
 try simp only[liE,seval]at c
 replace h:=Aa c h
 replace h:=Ag h
 obtain⟨c,h⟩:=h
 try simp only[liE,seval]at c
 replace h:=Aa c h
 simp(disch:=omega) only[vm,seval,h.1]
 refine⟨BB [] (.take 0 (.take 1 (.take 2 (.take 3 (.take 4 (.take 5 (.take 6 (.take 7 (.take 8 (.take 9 (.take 10 (.take 11 (.take 12 (.alt 13 [10,9,8,3,2] (.take 14 (.alt 15 [] (.done) (.stop))) (.stop))))))))))))))) Av (by kernel_rfl) ?_⟩
 simp(disch:=omega) only[vm,seval,h.1]
 refine⟨hk7 ((wr .i64 (j8+1)),(wr .i64 (j21-1)),((bi0_0.set j8.toNat x34).set j21.toNat x35)) () _ _ _ _ h.2 slr ?_ ?_ ?_ (by omega)⟩<;>first|(simp(disch:=omega) only[vm,seval,h.1];done)|rfl
 intro k22 Jk22 hk22 h
 simp(disch:=omega) only[vm,seval,h.1]
 refine⟨D7 (σ:=Int) (γ:=Unit) (fun k s=>BI N l0 a1 c4_0 bi0_0 j8 k22 k s) (fun s g=>[.int .i64 s]) (fun s g=>(i0,List.map (AVal.int .i64) bi0_0)::BP m i0) [50,51,52,53,54,55,56,57,58,59,60,61,62,63,64,65,66,67] [12] s12_0 () h (fun _=>rfl) (by first|(simp(disch:=omega) only[vm,seval,h.1];done)|rfl) (by first|(simp(disch:=omega) only[vm,seval,h.1];done)|rfl) ?_⟩
 clear h
 rintro k25 s12_2 _ nL2_2 hnL2_2 _ h Jk25 hk25
 change _∧BI N l0 a1 c4_0 bi0_0 j8 k22 (k25+1) s12_2=_ at h
 rw[BI]at h
 refine AB (.q .z (.r [])) ?_
 simp(disch:=omega) only[vm,seval,h.1]
 refine⟨Ad (γ:=Unit) h [50,51,52,53,54,55,56,57,58,59,60,61,62,63,64] [65] (fun j26 g=>[.bool j26]) (fun j26 g=>(i0,List.map (AVal.int .i64) bi0_0)::BP m i0) .z ?_ ?_⟩<;>clear h
 rintro j26 _ n29 hnn29 _ _ h
 refine AB (.c .z .z) ?_
 replace h:=AC h
 rcases h with h|h
 simp(disch:=omega) only[vm,seval,h.1]
 refine⟨hk25 (wr .i64 (s12_2-1)) () _ _ _ _ h.2 slr ?_ ?_ ?_ (by omega)⟩<;>first|(simp(disch:=omega) only[vm,seval,h.1];done)|rfl
 simp(disch:=omega) only[vm,seval,h.1]
 refine⟨hk22 s12_2 () _ _ _ _ h.2 slr ?_ ?_ ?_ (by omega)⟩<;>first|(simp(disch:=omega) only[vm,seval,h.1];done)|rfl
 intro k27 Jk27 hk27 h
 replace h:=AC h
 rcases h with h|h
 replace h:=Ag h
 obtain⟨c,h⟩:=h
 try simp only[liE,seval]at c
 replace h:=Aa c h
 replace h:=AA h
 obtain⟨x30,h⟩:=h
 replace h:=Ag h
 obtain⟨c,h⟩:=h
 try simp only[liE,seval]at c
 replace h:=Aa c h
 replace h:=AA h
 obtain⟨x31,h⟩:=h
 replace h:=AA h
 obtain⟨y32,h⟩:=h
 have cy32:=h.1.1
 simp(disch:=omega) only[vm,seval,h.1]
 refine⟨BB [] (.take 0 (.take 1 (.take 2 (.take 3 (.take 4 (.take 5 (.take 6 (.take 7 (.take 8 (.take 9 (.take 10 (.take 11 (.take 12 (.alt 13 [11,10,9,7,6,5,2,1,0] (.take 14 (.take 15 (.done))) (.stop))))))))))))))) Av (by kernel_rfl) ?_⟩
 simp(disch:=omega) only[vm,seval,h.1]
 refine⟨Be cy32 (by first|(simp(disch:=omega) only[vm,seval,h.1];done)|rfl) fun n33 hn33=>?_⟩
 simp(disch:=omega) only[vm,seval,h.1]
 refine⟨hk27 (decide (y32<0)) () _ _ _ _ h.2 slr ?_ ?_ ?_ (by omega)⟩<;>first|(simp(disch:=omega) only[vm,seval,h.1];done)|rfl
 simp(disch:=omega) only[vm,seval,h.1]
 refine⟨BB [] (.take 0 (.take 1 (.take 2 (.take 3 (.take 4 (.take 5 (.take 6 (.take 7 (.take 8 (.take 9 (.take 10 (.take 11 (.take 12 (.alt 13 [11,10,9,7,6,5,2,1,0] (.take 14 (.take 15 (.done))) (.stop))))))))))))))) Av (by kernel_rfl) ?_⟩
 simp(disch:=omega) only[vm,seval,h.1]
 refine⟨hk27 false () _ _ _ _ h.2 slr ?_ ?_ ?_ (by omega)⟩<;>first|(simp(disch:=omega) only[vm,seval,h.1];done)|rfl
 intro k9 Jk9 hk9 h
 simp(disch:=omega) only[vm,seval,h.1]
 refine⟨D7 (σ:=Int) (γ:=Unit) (fun k s=>BG N l0 a1 c4_0 s12_0 bi0_0 k9 k s) (fun s g=>[.int .i64 s]) (fun s g=>(i0,List.map (AVal.int .i64) bi0_0)::BP m i0) [31,32,33,34,35,36,37,38,39,40,41,42,43,44,45,46,47,48,49] [11] s11_0 () h (fun _=>rfl) (by first|(simp(disch:=omega) only[vm,seval,h.1];done)|rfl) (by first|(simp(disch:=omega) only[vm,seval,h.1];done)|rfl) ?_⟩
 clear h
 rintro k12 s11_1 _ nL1_2 hnL1_2 _ h Jk12 hk12
 change _∧BG N l0 a1 c4_0 s12_0 bi0_0 k9 (k12+1) s11_1=_ at h
 rw[BG]at h
 refine AB (.q .z (.r [])) ?_
 simp(disch:=omega) only[vm,seval,h.1]
 refine⟨Ad (γ:=Unit) h [31,32,33,34,35,36,37,38,39,40,41,42,43,44,45,46] [47] (fun j13 g=>[.bool j13]) (fun j13 g=>(i0,List.map (AVal.int .i64) bi0_0)::BP m i0) .z ?_ ?_⟩<;>clear h
 rintro j13 _ n16 hnn16 _ _ h
 refine AB (.c .z .z) ?_
 replace h:=AC h
 rcases h with h|h
 simp(disch:=omega) only[vm,seval,h.1]
 refine⟨hk12 (wr .i64 (s11_1+1)) () _ _ _ _ h.2 slr ?_ ?_ ?_ (by omega)⟩<;>first|(simp(disch:=omega) only[vm,seval,h.1];done)|rfl
 simp(disch:=omega) only[vm,seval,h.1]
 refine⟨hk9 s11_1 () _ _ _ _ h.2 slr ?_ ?_ ?_ (by omega)⟩<;>first|(simp(disch:=omega) only[vm,seval,h.1];done)|rfl
 intro k14 Jk14 hk14 h
 replace h:=AC h
 rcases h with h|h
 replace h:=Ag h
 obtain⟨c,h⟩:=h
 try simp only[liE,seval]at c
 replace h:=Aa c h
 replace h:=AA h
 obtain⟨x17,h⟩:=h
 replace h:=Ag h
 obtain⟨c,h⟩:=h
 try simp only[liE,seval]at c
 replace h:=Aa c h
 replace h:=AA h
 obtain⟨x18,h⟩:=h
 replace h:=AA h
 obtain⟨y19,h⟩:=h
 have cy19:=h.1.1
 simp(disch:=omega) only[vm,seval,h.1]
 refine⟨BB [] (.take 0 (.take 1 (.take 2 (.take 3 (.take 4 (.take 5 (.take 6 (.take 7 (.take 8 (.take 9 (.take 10 (.take 11 (.take 12 (.alt 13 [11,10,9,7,6,5,2,1,0] (.take 14 (.take 15 (.take 16 (.done)))) (.stop))))))))))))))) Av (by kernel_rfl) ?_⟩
 simp(disch:=omega) only[vm,seval,h.1]
 refine⟨Be cy19 (by first|(simp(disch:=omega) only[vm,seval,h.1];done)|rfl) fun n20 hn20=>?_⟩
 simp(disch:=omega) only[vm,seval,h.1]
 refine⟨hk14 (!(decide (y19<0))) () _ _ _ _ h.2 slr ?_ ?_ ?_ (by omega)⟩<;>first|(simp(disch:=omega) only[vm,seval,h.1];done)|rfl
 simp(disch:=omega) only[vm,seval,h.1]
 refine⟨BB [] (.take 0 (.take 1 (.take 2 (.take 3 (.take 4 (.take 5 (.take 6 (.take 7 (.take 8 (.take 9 (.take 10 (.take 11 (.take 12 (.alt 13 [11,10,9,7,6,5,2,1,0] (.take 14 (.take 15 (.take 16 (.done)))) (.stop))))))))))))))) Av (by kernel_rfl) ?_⟩
 simp(disch:=omega) only[vm,seval,h.1]
 refine⟨hk14 false () _ _ _ _ h.2 slr ?_ ?_ ?_ (by omega)⟩<;>first|(simp(disch:=omega) only[vm,seval,h.1];done)|rfl
theorem FK {l0 a0 a1 a2 a3 c4_0 r}{i0:Nat} (h:Ba N l0 a0 a1 a2 a3 c4_0=some r) (ha:args=[.bsl 1 i0 0 l0,.int .i64 a1,.int .i64 a2,.int .i64 a3,.fn (.func 66) [] [.cptr [.int .i64 c4_0.kind,.str c4_0.text,.slice 1 (List.map AVal.str c4_0.keys) false,.slice 4 (List.map AJ c4_0.items) false]]]) (hi0:Bi m i0=some (List.map (AVal.int .i64) a0)) (hQ: ∀n',n≤n'→Gl (Q (.tuple [.int .i64 r.1,.bool r.2.1]) ⟨Br m i0 (List.map (AVal.int .i64) r.2.2),n'⟩)):ACall vE 110 args ⟨m,n⟩ Q:=by
 rw[Ba]at h
 subst ha
 refine ACall.front hi0 fun hin=>ent (fun n' k=>⟨_,rfl,(hQ n' k).go⟩) Tryz.func110 rfl Tryz.ntmps110 Tryz.results110 (.q (.r []) (.q .z (.q (.r []) .z))) fun R hR=>?_
 replace h:=And.intro trivial h
 replace h:=Ag h
 obtain⟨c,h⟩:=h
 try simp only[liE,seval]at c
 replace h:=Aa c h
 replace h:=AA h
 obtain⟨x1,h⟩:=h
 replace h:=Ag h
 obtain⟨c,h⟩:=h
 try simp only[liE,seval]at c
 replace h:=Aa c h
 replace h:=AA h
 obtain⟨x2,h⟩:=h
 replace h:=Ag h
 obtain⟨c,h⟩:=h
 try simp only[liE,seval]at c
 replace h:=Aa c h
 replace h:=Ag h
 obtain⟨c,h⟩:=h
 try simp only[liE,seval]at c
 replace h:=Aa c h
 simp(disch:=omega) only[vm,seval,h.1]
 refine⟨BB [] (.take 0 (.take 1 (.take 2 (.take 3 (.take 4 (.take 5 (.take 6 (.take 7 (.take 8 (.take 9 (.take 10 (.take 11 (.take 12 (.alt 13 [10,9,8,3,2] (.take 14 (.alt 15 [] (.done) (.stop))) (.stop))))))))))))))) Av (by kernel_rfl) ?_⟩
 simp(disch:=omega) only[vm,seval,h.1]
 refine⟨Ad (γ:=Unit) h [32,33,34,35,36,37,38,39,40,41,42,43,44,45,46,47,48,49] [12] (fun j3 g=>[.int .i64 j3]) (fun j3 g=>(i0,List.map (AVal.int .i64) ((a0.set a1.toNat x1).set a3.toNat x2))::BP m i0) .z ?_ ?_⟩<;>clear h
 rintro j3 _ n6 hnn6 _ _ h
 refine AB .z ?_
 simp(disch:=omega) only[vm,seval,h.1]
 refine⟨Ad (γ:=Unit) h [50,51,52,53,54,55,56,57,58,59,60,61,62,63,64,65,66,67,68] [13] (fun j16 g=>[.int .i64 j16]) (fun j16 g=>(i0,List.map (AVal.int .i64) ((a0.set a1.toNat x1).set a3.toNat x2))::BP m i0) .z ?_ ?_⟩<;>clear h
 rintro j16 _ n19 hnn19 _ _ h
 refine AB (.q (.q (.r []) (.c (.q .z (.q (.r []) .z)) .z)) (.q .z (.q (.r []) (.q (.r []) .z)))) ?_
 replace h:=AC h
 rcases h with h|h
 replace h:=AA h
 obtain⟨x29,h⟩:=h
 replace h:=Ag h
 obtain⟨c,h⟩:=h
 try simp only[liE,seval]at c
 replace h:=Aa c h
 replace h:=AA h
 obtain⟨x30,h⟩:=h
 replace h:=Ag h
 obtain⟨c,h⟩:=h
 try simp only[liE,seval]at c
 replace h:=Aa c h
 simp(disch:=omega) only[vm,seval,h.1]
 refine⟨BB [] (.take 0 (.take 1 (.take 2 (.take 3 (.take 4 (.take 5 (.take 6 (.take 7 (.take 8 (.take 9 (.take 10 (.take 11 (.take 12 (.alt 13 [10,9,8,3,2] (.take 14 (.alt 15 [] (.done) (.stop))) (.stop))))))))))))))) Av (by kernel_rfl) ?_⟩
 obtain⟨H,h⟩:=h
 cases h
 simp(disch:=omega) only[vm,seval,H]
 refine⟨(hR _ _ _ _ _ _ (by simp(disch:=omega) only[vm,seval,H];rfl) slr ?_ (by omega) ?_).1⟩<;>first|(simp(disch:=omega) only[vm,seval,H];done)|rfl
 replace h:=Ag h
 obtain⟨c,h⟩:=h
 try simp only[liE,seval]at c
 replace h:=Aa c h
 replace h:=AA h
 obtain⟨x31,h⟩:=h
 replace h:=Ag h
 obtain⟨c,h⟩:=h
 try simp only[liE,seval]at c
 replace h:=Aa c h
 replace h:=AA h
 obtain⟨x32,h⟩:=h
 replace h:=Ag h
 obtain⟨c,h⟩:=h
 try simp only[liE,seval]at c
 replace h:=Aa c h
 replace h:=Ag h
 obtain⟨c,h⟩:=h
 try simp only[liE,seval]at c
 replace h:=Aa c h
 simp(disch:=omega) only[vm,seval,h.1]
 refine⟨BB [] (.take 0 (.take 1 (.take 2 (.take 3 (.take 4 (.take 5 (.take 6 (.take 7 (.take 8 (.take 9 (.take 10 (.take 11 (.take 12 (.alt 13 [10,9,8,3,2] (.take 14 (.alt 15 [] (.done) (.stop))) (.stop))))))))))))))) Av (by kernel_rfl) ?_⟩
 simp(disch:=omega) only[vm,seval,h.1]
 refine⟨Ad (γ:=Unit) h [12,105,106,107,108,109,110,111,112,113,114,115,116,117,118,119,120,121,122,123,124,125,126,127,128,129,130,131,132,133,134,135,136,137,138,139,140,141,142,143,144,145,146,147,148,149,150,151,152,153,154,155,156,157,158,159,160,161,162] [13] (fun j33 g=>[.int .i64 j33.1]) (fun j33 g=>(i0,List.map (AVal.int .i64) j33.2)::BP m i0) .z ?_ ?_⟩<;>clear h
 rintro j33 _ n36 hnn36 _ _ h
 refine AB (.q .z (.q (.r []) .z)) ?_
 replace h:=AA h
 obtain⟨x66,h⟩:=h
 replace h:=Ag h
 obtain⟨c,h⟩:=h
 try simp only[liE,seval]at c
 replace h:=Aa c h
 replace h:=AA h
 obtain⟨x67,h⟩:=h
 replace h:=Ag h
 obtain⟨c,h⟩:=h
 try simp only[liE,seval]at c
 replace h:=Aa c h
 replace h:=Ag h
 obtain⟨c,h⟩:=h
 try simp only[liE,seval]at c
 replace h:=Aa c h
 simp(disch:=omega) only[vm,seval,h.1]
 refine⟨BB [] (.take 0 (.take 1 (.take 2 (.take 3 (.take 4 (.take 5 (.take 6 (.take 7 (.take 8 (.take 9 (.take 10 (.take 11 (.take 12 (.alt 13 [10,9,8,3,2] (.take 14 (.alt 15 [] (.done) (.stop))) (.stop))))))))))))))) Av (by kernel_rfl) ?_⟩
 obtain⟨H,h⟩:=h
 cases h
 simp(disch:=omega) only[vm,seval,H]
 refine⟨(hR _ _ _ _ _ _ (by simp(disch:=omega) only[vm,seval,H];rfl) slr ?_ (by omega) ?_).1⟩<;>first|(simp(disch:=omega) only[vm,seval,H];done)|rfl
 intro k34 Jk34 hk34 h
 simp(disch:=omega) only[vm,seval,h.1]
 refine⟨D7 (σ:=Int×Int×(List Int)) (γ:=Unit) (fun k s=>Af N l0 a1 c4_0 k34 k s.1 s.2.1 s.2.2) (fun s g=>[.int .i64 s.1,.int .i64 s.2.1]) (fun s g=>(i0,List.map (AVal.int .i64) s.2.2)::BP m i0) [105,106,107,108,109,110,111,112,113,114,115,116,117,118,119,120,121,122,123,124,125,126,127,128,129,130,131,132,133,134,135,136,137,138,139,140,141,142,143,144,145,146,147,148,149,150,151,152,153,154,155,156,157,158,159,160,161,162] [12,13] ((wr .i64 (j3+1)),(wr .i64 (j16-1)),((((a0.set a1.toNat x1).set a3.toNat x2).set j3.toNat x31).set j16.toNat x32)) () h (fun _=>rfl) (by first|(simp(disch:=omega) only[vm,seval,h.1];done)|rfl) (by first|(simp(disch:=omega) only[vm,seval,h.1];done)|rfl) ?_⟩
 clear h
 rintro k37 ⟨s12_2,s13_2,bi0_2⟩ _ nL2_1 hnL2_1 _ h Jk37 hk37
 change _∧Af N l0 a1 c4_0 k34 (k37+1) s12_2 s13_2 bi0_2=_ at h
 rw[Af]at h
 refine AB .z ?_
 simp(disch:=omega) only[vm,seval,h.1]
 refine⟨Ad (γ:=Unit) h [105,106,107,108,109,110,111,112,113,114,115,116,117,118,119,120,121,122] [12] (fun j38 g=>[.int .i64 j38]) (fun j38 g=>(i0,List.map (AVal.int .i64) bi0_2)::BP m i0) .z ?_ ?_⟩<;>clear h
 rintro j38 _ n41 hnn41 _ _ h
 refine AB .z ?_
 simp(disch:=omega) only[vm,seval,h.1]
 refine⟨Ad (γ:=Unit) h [123,124,125,126,127,128,129,130,131,132,133,134,135,136,137,138,139,140,141] [13] (fun j51 g=>[.int .i64 j51]) (fun j51 g=>(i0,List.map (AVal.int .i64) bi0_2)::BP m i0) .z ?_ ?_⟩<;>clear h
 rintro j51 _ n54 hnn54 _ _ h
 refine AB (.q (.q (.r []) (.c .z .z)) (.q .z (.q (.r []) (.r [])))) ?_
 replace h:=AC h
 rcases h with h|h
 simp(disch:=omega) only[vm,seval,h.1]
 refine⟨hk34 (j51,bi0_2) () _ _ _ _ h.2 slr ?_ ?_ ?_ (by omega)⟩<;>first|(simp(disch:=omega) only[vm,seval,h.1];done)|rfl
 replace h:=Ag h
 obtain⟨c,h⟩:=h
 try simp only[liE,seval]at c
 replace h:=Aa c h
 replace h:=AA h
 obtain⟨x64,h⟩:=h
 replace h:=Ag h
 obtain⟨c,h⟩:=h
 try simp only[liE,seval]at c
 replace h:=Aa c h
 replace h:=AA h
 obtain⟨x65,h⟩:=h
 replace h:=Ag h
 obtain⟨c,h⟩:=h
 try simp only[liE,seval]at c
 replace h:=Aa c h
 replace h:=Ag h
 obtain⟨c,h⟩:=h
 try simp only[liE,seval]at c
 replace h:=Aa c h
 simp(disch:=omega) only[vm,seval,h.1]
 refine⟨BB [] (.take 0 (.take 1 (.take 2 (.take 3 (.take 4 (.take 5 (.take 6 (.take 7 (.take 8 (.take 9 (.take 10 (.take 11 (.take 12 (.alt 13 [10,9,8,3,2] (.take 14 (.alt 15 [] (.done) (.stop))) (.stop))))))))))))))) Av (by kernel_rfl) ?_⟩
 simp(disch:=omega) only[vm,seval,h.1]
 refine⟨hk37 ((wr .i64 (j38+1)),(wr .i64 (j51-1)),((bi0_2.set j38.toNat x64).set j51.toNat x65)) () _ _ _ _ h.2 slr ?_ ?_ ?_ (by omega)⟩<;>first|(simp(disch:=omega) only[vm,seval,h.1];done)|rfl
 intro k52 Jk52 hk52 h
 simp(disch:=omega) only[vm,seval,h.1]
 refine⟨D7 (σ:=Int) (γ:=Unit) (fun k s=>AY N l0 a1 c4_0 bi0_2 j38 k52 k s) (fun s g=>[.int .i64 s]) (fun s g=>(i0,List.map (AVal.int .i64) bi0_2)::BP m i0) [123,124,125,126,127,128,129,130,131,132,133,134,135,136,137,138,139,140,141] [13] s13_2 () h (fun _=>rfl) (by first|(simp(disch:=omega) only[vm,seval,h.1];done)|rfl) (by first|(simp(disch:=omega) only[vm,seval,h.1];done)|rfl) ?_⟩
 clear h
 rintro k55 s13_4 _ nL4_2 hnL4_2 _ h Jk55 hk55
 change _∧AY N l0 a1 c4_0 bi0_2 j38 k52 (k55+1) s13_4=_ at h
 rw[AY]at h
 refine AB (.q .z (.r [])) ?_
 simp(disch:=omega) only[vm,seval,h.1]
 refine⟨Ad (γ:=Unit) h [123,124,125,126,127,128,129,130,131,132,133,134,135,136,137,138] [139] (fun j56 g=>[.bool j56]) (fun j56 g=>(i0,List.map (AVal.int .i64) bi0_2)::BP m i0) .z ?_ ?_⟩<;>clear h
 rintro j56 _ n59 hnn59 _ _ h
 refine AB (.c .z .z) ?_
 replace h:=AC h
 rcases h with h|h
 simp(disch:=omega) only[vm,seval,h.1]
 refine⟨hk55 (wr .i64 (s13_4-1)) () _ _ _ _ h.2 slr ?_ ?_ ?_ (by omega)⟩<;>first|(simp(disch:=omega) only[vm,seval,h.1];done)|rfl
 simp(disch:=omega) only[vm,seval,h.1]
 refine⟨hk52 s13_4 () _ _ _ _ h.2 slr ?_ ?_ ?_ (by omega)⟩<;>first|(simp(disch:=omega) only[vm,seval,h.1];done)|rfl
 intro k57 Jk57 hk57 h
 replace h:=AC h
 rcases h with h|h
 replace h:=Ag h
 obtain⟨c,h⟩:=h
 try simp only[liE,seval]at c
 replace h:=Aa c h
 replace h:=AA h
 obtain⟨x60,h⟩:=h
 replace h:=Ag h
 obtain⟨c,h⟩:=h
 try simp only[liE,seval]at c
 replace h:=Aa c h
 replace h:=AA h
 obtain⟨x61,h⟩:=h
 replace h:=AA h
 obtain⟨y62,h⟩:=h
 have cy62:=h.1.1
 simp(disch:=omega) only[vm,seval,h.1]
 refine⟨BB [] (.take 0 (.take 1 (.take 2 (.take 3 (.take 4 (.take 5 (.take 6 (.take 7 (.take 8 (.take 9 (.take 10 (.take 11 (.take 12 (.alt 13 [11,10,9,7,6,5,2,1,0] (.take 14 (.take 15 (.take 16 (.done)))) (.stop))))))))))))))) Av (by kernel_rfl) ?_⟩
 simp(disch:=omega) only[vm,seval,h.1]
 refine⟨Be cy62 (by first|(simp(disch:=omega) only[vm,seval,h.1];done)|rfl) fun n63 hn63=>?_⟩
 simp(disch:=omega) only[vm,seval,h.1]
 refine⟨hk57 (!(decide (y62<0))) () _ _ _ _ h.2 slr ?_ ?_ ?_ (by omega)⟩<;>first|(simp(disch:=omega) only[vm,seval,h.1];done)|rfl
 simp(disch:=omega) only[vm,seval,h.1]
 refine⟨BB [] (.take 0 (.take 1 (.take 2 (.take 3 (.take 4 (.take 5 (.take 6 (.take 7 (.take 8 (.take 9 (.take 10 (.take 11 (.take 12 (.alt 13 [11,10,9,7,6,5,2,1,0] (.take 14 (.take 15 (.take 16 (.done)))) (.stop))))))))))))))) Av (by kernel_rfl) ?_⟩
 simp(disch:=omega) only[vm,seval,h.1]
 refine⟨hk57 false () _ _ _ _ h.2 slr ?_ ?_ ?_ (by omega)⟩<;>first|(simp(disch:=omega) only[vm,seval,h.1];done)|rfl
 intro k39 Jk39 hk39 h
 simp(disch:=omega) only[vm,seval,h.1]
 refine⟨D7 (σ:=Int) (γ:=Unit) (fun k s=>AX N l0 a1 c4_0 s13_2 bi0_2 k39 k s) (fun s g=>[.int .i64 s]) (fun s g=>(i0,List.map (AVal.int .i64) bi0_2)::BP m i0) [105,106,107,108,109,110,111,112,113,114,115,116,117,118,119,120,121,122] [12] s12_2 () h (fun _=>rfl) (by first|(simp(disch:=omega) only[vm,seval,h.1];done)|rfl) (by first|(simp(disch:=omega) only[vm,seval,h.1];done)|rfl) ?_⟩
 clear h
 rintro k42 s12_3 _ nL3_2 hnL3_2 _ h Jk42 hk42
 change _∧AX N l0 a1 c4_0 s13_2 bi0_2 k39 (k42+1) s12_3=_ at h
 rw[AX]at h
 refine AB (.q .z (.r [])) ?_
 simp(disch:=omega) only[vm,seval,h.1]
 refine⟨Ad (γ:=Unit) h [105,106,107,108,109,110,111,112,113,114,115,116,117,118,119] [120] (fun j43 g=>[.bool j43]) (fun j43 g=>(i0,List.map (AVal.int .i64) bi0_2)::BP m i0) .z ?_ ?_⟩<;>clear h
 rintro j43 _ n46 hnn46 _ _ h
 refine AB (.c .z .z) ?_
 replace h:=AC h
 rcases h with h|h
 simp(disch:=omega) only[vm,seval,h.1]
 refine⟨hk42 (wr .i64 (s12_3+1)) () _ _ _ _ h.2 slr ?_ ?_ ?_ (by omega)⟩<;>first|(simp(disch:=omega) only[vm,seval,h.1];done)|rfl
 simp(disch:=omega) only[vm,seval,h.1]
 refine⟨hk39 s12_3 () _ _ _ _ h.2 slr ?_ ?_ ?_ (by omega)⟩<;>first|(simp(disch:=omega) only[vm,seval,h.1];done)|rfl
 intro k44 Jk44 hk44 h
 replace h:=AC h
 rcases h with h|h
 replace h:=Ag h
 obtain⟨c,h⟩:=h
 try simp only[liE,seval]at c
 replace h:=Aa c h
 replace h:=AA h
 obtain⟨x47,h⟩:=h
 replace h:=Ag h
 obtain⟨c,h⟩:=h
 try simp only[liE,seval]at c
 replace h:=Aa c h
 replace h:=AA h
 obtain⟨x48,h⟩:=h
 replace h:=AA h
 obtain⟨y49,h⟩:=h
 have cy49:=h.1.1
 simp(disch:=omega) only[vm,seval,h.1]
 refine⟨BB [] (.take 0 (.take 1 (.take 2 (.take 3 (.take 4 (.take 5 (.take 6 (.take 7 (.take 8 (.take 9 (.take 10 (.take 11 (.take 12 (.alt 13 [11,10,9,7,6,5,2,1,0] (.take 14 (.take 15 (.done))) (.stop))))))))))))))) Av (by kernel_rfl) ?_⟩
 simp(disch:=omega) only[vm,seval,h.1]
 refine⟨Be cy49 (by first|(simp(disch:=omega) only[vm,seval,h.1];done)|rfl) fun n50 hn50=>?_⟩
 simp(disch:=omega) only[vm,seval,h.1]
 refine⟨hk44 (decide (y49<0)) () _ _ _ _ h.2 slr ?_ ?_ ?_ (by omega)⟩<;>first|(simp(disch:=omega) only[vm,seval,h.1];done)|rfl
 simp(disch:=omega) only[vm,seval,h.1]
 refine⟨BB [] (.take 0 (.take 1 (.take 2 (.take 3 (.take 4 (.take 5 (.take 6 (.take 7 (.take 8 (.take 9 (.take 10 (.take 11 (.take 12 (.alt 13 [11,10,9,7,6,5,2,1,0] (.take 14 (.take 15 (.done))) (.stop))))))))))))))) Av (by kernel_rfl) ?_⟩
 simp(disch:=omega) only[vm,seval,h.1]
 refine⟨hk44 false () _ _ _ _ h.2 slr ?_ ?_ ?_ (by omega)⟩<;>first|(simp(disch:=omega) only[vm,seval,h.1];done)|rfl
 intro k17 Jk17 hk17 h
 simp(disch:=omega) only[vm,seval,h.1]
 refine⟨D7 (σ:=Int) (γ:=Unit) (fun k s=>A7 N l0 a0 a1 a3 c4_0 x1 x2 j3 k17 k s) (fun s g=>[.int .i64 s]) (fun s g=>(i0,List.map (AVal.int .i64) ((a0.set a1.toNat x1).set a3.toNat x2))::BP m i0) [50,51,52,53,54,55,56,57,58,59,60,61,62,63,64,65,66,67,68] [13] (wr .i64 (a2-1)) () h (fun _=>rfl) (by first|(simp(disch:=omega) only[vm,seval,h.1];done)|rfl) (by first|(simp(disch:=omega) only[vm,seval,h.1];done)|rfl) ?_⟩
 clear h
 rintro k20 s13_1 _ nL1_1 hnL1_1 _ h Jk20 hk20
 change _∧A7 N l0 a0 a1 a3 c4_0 x1 x2 j3 k17 (k20+1) s13_1=_ at h
 rw[A7]at h
 refine AB (.q .z (.r [])) ?_
 simp(disch:=omega) only[vm,seval,h.1]
 refine⟨Ad (γ:=Unit) h [50,51,52,53,54,55,56,57,58,59,60,61,62,63,64,65] [66] (fun j21 g=>[.bool j21]) (fun j21 g=>(i0,List.map (AVal.int .i64) ((a0.set a1.toNat x1).set a3.toNat x2))::BP m i0) .z ?_ ?_⟩<;>clear h
 rintro j21 _ n24 hnn24 _ _ h
 refine AB (.c .z .z) ?_
 replace h:=AC h
 rcases h with h|h
 simp(disch:=omega) only[vm,seval,h.1]
 refine⟨hk20 (wr .i64 (s13_1-1)) () _ _ _ _ h.2 slr ?_ ?_ ?_ (by omega)⟩<;>first|(simp(disch:=omega) only[vm,seval,h.1];done)|rfl
 simp(disch:=omega) only[vm,seval,h.1]
 refine⟨hk17 s13_1 () _ _ _ _ h.2 slr ?_ ?_ ?_ (by omega)⟩<;>first|(simp(disch:=omega) only[vm,seval,h.1];done)|rfl
 intro k22 Jk22 hk22 h
 replace h:=AC h
 rcases h with h|h
 replace h:=Ag h
 obtain⟨c,h⟩:=h
 try simp only[liE,seval]at c
 replace h:=Aa c h
 replace h:=AA h
 obtain⟨x25,h⟩:=h
 replace h:=Ag h
 obtain⟨c,h⟩:=h
 try simp only[liE,seval]at c
 replace h:=Aa c h
 replace h:=AA h
 obtain⟨x26,h⟩:=h
 replace h:=AA h
 obtain⟨y27,h⟩:=h
 have cy27:=h.1.1
 simp(disch:=omega) only[vm,seval,h.1]
 refine⟨BB [] (.take 0 (.take 1 (.take 2 (.take 3 (.take 4 (.take 5 (.take 6 (.take 7 (.take 8 (.take 9 (.take 10 (.take 11 (.take 12 (.alt 13 [11,10,9,7,6,5,2,1,0] (.take 14 (.take 15 (.take 16 (.done)))) (.stop))))))))))))))) Av (by kernel_rfl) ?_⟩
 simp(disch:=omega) only[vm,seval,h.1]
 refine⟨Be cy27 (by first|(simp(disch:=omega) only[vm,seval,h.1];done)|rfl) fun n28 hn28=>?_⟩
 simp(disch:=omega) only[vm,seval,h.1]
 refine⟨hk22 (!(decide (y27<0))) () _ _ _ _ h.2 slr ?_ ?_ ?_ (by omega)⟩<;>first|(simp(disch:=omega) only[vm,seval,h.1];done)|rfl
 simp(disch:=omega) only[vm,seval,h.1]
 refine⟨BB [] (.take 0 (.take 1 (.take 2 (.take 3 (.take 4 (.take 5 (.take 6 (.take 7 (.take 8 (.take 9 (.take 10 (.take 11 (.take 12 (.alt 13 [11,10,9,7,6,5,2,1,0] (.take 14 (.take 15 (.take 16 (.done)))) (.stop))))))))))))))) Av (by kernel_rfl) ?_⟩
 simp(disch:=omega) only[vm,seval,h.1]
 refine⟨hk22 false () _ _ _ _ h.2 slr ?_ ?_ ?_ (by omega)⟩<;>first|(simp(disch:=omega) only[vm,seval,h.1];done)|rfl
 intro k4 Jk4 hk4 h
 simp(disch:=omega) only[vm,seval,h.1]
 refine⟨D7 (σ:=Int) (γ:=Unit) (fun k s=>A8 N l0 a0 a1 a2 a3 c4_0 x1 x2 k4 k s) (fun s g=>[.int .i64 s]) (fun s g=>(i0,List.map (AVal.int .i64) ((a0.set a1.toNat x1).set a3.toNat x2))::BP m i0) [32,33,34,35,36,37,38,39,40,41,42,43,44,45,46,47,48,49] [12] (wr .i64 (a1+1)) () h (fun _=>rfl) (by first|(simp(disch:=omega) only[vm,seval,h.1];done)|rfl) (by first|(simp(disch:=omega) only[vm,seval,h.1];done)|rfl) ?_⟩
 clear h
 rintro k7 s12_0 _ nL0_1 hnL0_1 _ h Jk7 hk7
 change _∧A8 N l0 a0 a1 a2 a3 c4_0 x1 x2 k4 (k7+1) s12_0=_ at h
 rw[A8]at h
 refine AB (.q .z (.r [])) ?_
 simp(disch:=omega) only[vm,seval,h.1]
 refine⟨Ad (γ:=Unit) h [32,33,34,35,36,37,38,39,40,41,42,43,44,45,46] [47] (fun j8 g=>[.bool j8]) (fun j8 g=>(i0,List.map (AVal.int .i64) ((a0.set a1.toNat x1).set a3.toNat x2))::BP m i0) .z ?_ ?_⟩<;>clear h
 rintro j8 _ n11 hnn11 _ _ h
 refine AB (.c .z .z) ?_
 replace h:=AC h
 rcases h with h|h
 simp(disch:=omega) only[vm,seval,h.1]
 refine⟨hk7 (wr .i64 (s12_0+1)) () _ _ _ _ h.2 slr ?_ ?_ ?_ (by omega)⟩<;>first|(simp(disch:=omega) only[vm,seval,h.1];done)|rfl
 simp(disch:=omega) only[vm,seval,h.1]
 refine⟨hk4 s12_0 () _ _ _ _ h.2 slr ?_ ?_ ?_ (by omega)⟩<;>first|(simp(disch:=omega) only[vm,seval,h.1];done)|rfl
 intro k9 Jk9 hk9 h
 replace h:=AC h
 rcases h with h|h
 replace h:=Ag h
 obtain⟨c,h⟩:=h
 try simp only[liE,seval]at c
 replace h:=Aa c h
 replace h:=AA h
 obtain⟨x12,h⟩:=h
 replace h:=Ag h
 obtain⟨c,h⟩:=h
 try simp only[liE,seval]at c
 replace h:=Aa c h
 replace h:=AA h
 obtain⟨x13,h⟩:=h
 replace h:=AA h
 obtain⟨y14,h⟩:=h
 have cy14:=h.1.1
 simp(disch:=omega) only[vm,seval,h.1]
 refine⟨BB [] (.take 0 (.take 1 (.take 2 (.take 3 (.take 4 (.take 5 (.take 6 (.take 7 (.take 8 (.take 9 (.take 10 (.take 11 (.take 12 (.alt 13 [11,10,9,7,6,5,2,1,0] (.take 14 (.take 15 (.done))) (.stop))))))))))))))) Av (by kernel_rfl) ?_⟩
 simp(disch:=omega) only[vm,seval,h.1]
 refine⟨Be cy14 (by first|(simp(disch:=omega) only[vm,seval,h.1];done)|rfl) fun n15 hn15=>?_⟩
 simp(disch:=omega) only[vm,seval,h.1]
 refine⟨hk9 (decide (y14<0)) () _ _ _ _ h.2 slr ?_ ?_ ?_ (by omega)⟩<;>first|(simp(disch:=omega) only[vm,seval,h.1];done)|rfl
 simp(disch:=omega) only[vm,seval,h.1]
 refine⟨BB [] (.take 0 (.take 1 (.take 2 (.take 3 (.take 4 (.take 5 (.take 6 (.take 7 (.take 8 (.take 9 (.take 10 (.take 11 (.take 12 (.alt 13 [11,10,9,7,6,5,2,1,0] (.take 14 (.take 15 (.done))) (.stop))))))))))))))) Av (by kernel_rfl) ?_⟩
 simp(disch:=omega) only[vm,seval,h.1]
 refine⟨hk9 false () _ _ _ _ h.2 slr ?_ ?_ ?_ (by omega)⟩<;>first|(simp(disch:=omega) only[vm,seval,h.1];done)|rfl
end Go.Proofs.YtooeobhihpkicaaGreatDoor
