import Derived.Test.YtgfgogdgnkaedaaGreatDoorW11
import Derived.Test.YtgfgogdgnkaedaaGreatDoorW12
set_option linter.unusedVariables false
set_option linter.unusedSimpArgs false
set_option maxHeartbeats 4000000
set_option maxRecDepth 100000
set_option linter.defProp false
namespace Go.Proofs.YtgfgogdgnkaedaaGreatDoor
open Go.VM
attribute [local irreducible] AA grd letL
variable{N n:Nat}{m:MS}{Q:PQ}{args:List AVal}
theorem Wj {a0 r} (h:DN N a0=some r) (ha:args=[.str a0]) (hQ: ∀n',n≤n'→Gl (Q (.str r) ⟨m,n'⟩)):ACall vE 304 args ⟨m,n⟩ Q:=by
 rw[DN]at h
 subst ha
 refine ent hQ Tryz.func304 rfl Tryz.ntmps304 Tryz.results304 (.q (.r []) (.q (.r [7]) (.q .z (.q (.r []) .z)))) fun R hR=>?_
 replace h:=ac trivial h
 obtain⟨c,h⟩:=MK h
 try simp only[liE,seval]at c
 replace h:=J4 c h
 simp(disch:=omega) only[vm,seval,h.1,Bu,Bj,Gd,Ap,BH,Ao]
 refine⟨Aec (σ:=(List UInt8)×Nat×(List Int)) (γ:=Nat) (fun k s=>Al N k s.1 s.2.1 s.2.2) (fun s g=>[.str s.1,.gsl 1 g s.2.1]) (fun s g=>(g,List.map (AVal.int .u8) s.2.2)::m) [4,8,9,10,11,12,13,14,15,16,17,18,19,20,21,22,23,24,25,26,27,28,29,30,31,32,33,34,35,36,37,38,39,40,41,42,43,44,45,46,47,48,49,50,51,52,53,54,55,56,57,58,59,60,61,62,63,64,65,66,67] [0,3] (a0,(0:Int).toNat,(List.replicate (0:Int).toNat 0)) n h (fun _=>rfl) (by first|(simp(disch:=omega) only[vm,seval,h.1,Bu,Bj,Gd,Ap,BH,Ao];done)|rfl) (by first|(simp(disch:=omega) only[vm,seval,h.1,Bu,Bj,Gd,Ap,BH,Ao];done)|rfl) ?_⟩
 clear h
 rintro k1 ⟨s0,s3_len,bq3⟩ q3 nL0_1 hnL0_1 _ h Jk1 hk1
 change _∧Al N (k1+1) s0 s3_len bq3=_ at h
 rw[Al]at h
 refine Ch (.q (.q (.r []) (.c .z .z)) (.q (.r []) (.c (.r []) (.q (.r []) (.c (.r []) (.q (.r []) (.c (.r []) (.q (.r []) (.c (.r []) .z))))))))) ?_
 rcases KH h with h|h
 obtain⟨c,h⟩:=MK h
 try simp only[liE,seval]at c
 replace h:=J4 c h
 obtain⟨H,h⟩:=h
 cases h
 simp(disch:=omega) only[vm,seval,H,Bu,Bj,Gd,Ap,BH,Ao]
 refine⟨(hR _ _ _ _ _ _ (by simp(disch:=omega) only[vm,seval,H,Bu,Bj,Gd,Ap,BH,Ao];rfl) (.cons _ slr) ?_ ff ?_).1⟩<;>first|(simp(disch:=omega) only[vm,seval,H,Bu,Bj,Gd,Ap,BH,Ao];done)|rfl
 obtain⟨y2,h⟩:=FQ h
 simp(disch:=omega) only[vm,seval,h.1,Bu,Bj,Gd,Ap,BH,Ao]
 refine⟨Il h.1.1 (by first|(simp(disch:=omega) only[vm,seval,h.1,Bu,Bj,Gd,Ap,BH,Ao];done)|rfl) fun n3 hn3=>?_⟩
 rcases KH h with h|h
 obtain⟨x4,h⟩:=FQ h
 simp(disch:=omega) only[vm,seval,h.1,Bu,Bj,Gd,Ap,BH,Ao]
 refine⟨hk1 (x4,s3_len,bq3) q3 _ _ _ _ h.2 slr ?_ ?_ ?_ ff⟩<;>first|(simp(disch:=omega) only[vm,seval,h.1,Bu,Bj,Gd,Ap,BH,Ao];done)|rfl
 obtain⟨y5,h⟩:=FQ h
 simp(disch:=omega) only[vm,seval,h.1,Bu,Bj,Gd,Ap,BH,Ao]
 refine⟨Il h.1.1 (by first|(simp(disch:=omega) only[vm,seval,h.1,Bu,Bj,Gd,Ap,BH,Ao];done)|rfl) fun n6 hn6=>?_⟩
 rcases KH h with h|h
 obtain⟨x7,h⟩:=FQ h
 simp(disch:=omega) only[vm,seval,h.1,Bu,Bj,Gd,Ap,BH,Ao]
 refine⟨hk1 (x7,s3_len,bq3) q3 _ _ _ _ h.2 slr ?_ ?_ ?_ ff⟩<;>first|(simp(disch:=omega) only[vm,seval,h.1,Bu,Bj,Gd,Ap,BH,Ao];done)|rfl
 obtain⟨y8,h⟩:=FQ h
 simp(disch:=omega) only[vm,seval,h.1,Bu,Bj,Gd,Ap,BH,Ao]
 refine⟨Il h.1.1 (by first|(simp(disch:=omega) only[vm,seval,h.1,Bu,Bj,Gd,Ap,BH,Ao];done)|rfl) fun n9 hn9=>?_⟩
 rcases KH h with h|h
 obtain⟨x10,h⟩:=FQ h
 simp(disch:=omega) only[vm,seval,h.1,Bu,Bj,Gd,Ap,BH,Ao]
 refine⟨hk1 (x10,s3_len,bq3) q3 _ _ _ _ h.2 slr ?_ ?_ ?_ ff⟩<;>first|(simp(disch:=omega) only[vm,seval,h.1,Bu,Bj,Gd,Ap,BH,Ao];done)|rfl
 rcases KH h with h|h
 simp(disch:=omega) only[vm,seval,h.1,Bu,Bj,Gd,Ap,BH,Ao]
 refine⟨hk1 (([47]:List UInt8),s3_len,bq3) q3 _ _ _ _ h.2 slr ?_ ?_ ?_ ff⟩<;>first|(simp(disch:=omega) only[vm,seval,h.1,Bu,Bj,Gd,Ap,BH,Ao];done)|rfl
 simp(disch:=omega) only[vm,seval,h.1,Bu,Bj,Gd,Ap,BH,Ao]
 refine⟨Sc (γ:=Unit) h [45,46,47,48,49,50] [44] (fun j11 g=>[.bool j11]) (fun j11 g=>(q3,List.map (AVal.int .u8) bq3)::m) (.r []) ?_ ?_⟩<;>clear h
 rintro j11 _ n14 hnn14 _ _ h
 refine Ch (.c (.q (.r []) (.r [])) .z) ?_
 rcases KH h with h|h
 obtain⟨x17,h⟩:=FQ h
 obtain⟨y18,h⟩:=FQ h
 simp(disch:=omega) only[vm,seval,h.1,Bu,Bj,Gd,Ap,BH,Ao]
 refine⟨SC h.1.1 (by first|(simp(disch:=omega) only[vm,seval,h.1,Bu,Bj,Gd,Ap,BH,Ao];done)|rfl) fun n19 hn19=>?_⟩
 obtain⟨c,h⟩:=MK h
 try simp only[liE,seval]at c
 replace h:=J4 c h
 obtain⟨c,h⟩:=MK h
 try simp only[liE,seval]at c
 replace h:=J4 c h
 obtain⟨y20,h⟩:=FQ h
 simp(disch:=omega) only[vm,seval,h.1,Bu,Bj,Gd,Ap,BH,Ao]
 refine⟨QY h.1.1 (by first|(simp(disch:=omega) only[vm,seval,h.1,Bu,Bj,Gd,Ap,BH,Ao];done)|rfl) fun n21 hn21=>?_⟩
 obtain⟨c,h⟩:=MK h
 try simp only[liE,seval]at c
 replace h:=J4 c h
 simp(disch:=omega) only[vm,seval,h.1,Bu,Bj,Gd,Ap,BH,Ao]
 refine⟨hk1 ((([47]:List UInt8)++y18),(if y20>0 then y20 else 0).toNat,bq3) q3 _ _ _ _ h.2 slr ?_ ?_ ?_ ff⟩<;>first|(simp(disch:=omega) only[vm,seval,h.1,Bu,Bj,Gd,Ap,BH,Ao];done)|rfl
 simp(disch:=omega) only[vm,seval,h.1,Bu,Bj,Gd,Ap,BH,Ao]
 refine⟨Sc (γ:=Unit) h [62,63,64,65,66,67] [61] (fun j22 g=>[.bool j22]) (fun j22 g=>(q3,List.map (AVal.int .u8) bq3)::m) (.r []) ?_ ?_⟩<;>clear h
 rintro j22 _ n25 hnn25 _ _ h
 refine Ch (.c (.r []) (.q (.r []) .z)) ?_
 rcases KH h with h|h
 simp(disch:=omega) only[vm,seval,h.1,Bu,Bj,Gd,Ap,BH,Ao]
 refine⟨hk1 ([],s3_len,bq3) q3 _ _ _ _ h.2 slr ?_ ?_ ?_ ff⟩<;>first|(simp(disch:=omega) only[vm,seval,h.1,Bu,Bj,Gd,Ap,BH,Ao];done)|rfl
 obtain⟨x26,h⟩:=FQ h
 obtain⟨y27,h⟩:=FQ h
 simp(disch:=omega) only[vm,seval,h.1,Bu,Bj,Gd,Ap,BH,Ao]
 refine⟨Tf h.1.1 (by first|(simp(disch:=omega) only[vm,seval,h.1,Bu,Bj,Gd,Ap,BH,Ao];done)|rfl) fun n28 hn28=>?_⟩
 simp(disch:=omega) only[vm,seval,h.1,Bu,Bj,Gd,Ap,BH,Ao]
 refine⟨Sc (γ:=Unit) h [14,15,16,17] [4] (fun j29 g=>[.int .i64 j29]) (fun j29 g=>(q3,List.map (AVal.int .u8) bq3)::m) (.q (.r []) (.c (.r []) .z)) ?_ ?_⟩<;>clear h
 rintro j29 _ n32 hnn32 _ _ h
 refine Ch (.q (.r [18]) (.r [])) ?_
 obtain⟨x33,h⟩:=FQ h
 obtain⟨c,h⟩:=MK h
 try simp only[liE,seval]at c
 replace h:=J4 c h
 simp(disch:=omega) only[vm,seval,h.1,Bu,Bj,Gd,Ap,BH,Ao]
 refine⟨Akz fun i34 hi34=>Gl.go ?_⟩
 obtain⟨x35,h⟩:=FQ h
 simp(disch:=omega) only[vm,seval,h.1,Bu,Bj,Gd,Ap,BH,Ao]
 refine⟨hk1 (x35,(s3_len+x33.length),(List.take s3_len bq3++List.map AJ x33)) i34 _ _ _ _ h.2 slr ?_ ?_ ?_ ff⟩<;>first|(simp(disch:=omega) only[vm,seval,h.1,Bu,Bj,Gd,Ap,BH,Ao];done)|rfl
 intro k30 Jk30 hk30 h
 rcases KH h with h|h
 simp(disch:=omega) only[vm,seval,h.1,Bu,Bj,Gd,Ap,BH,Ao]
 refine⟨hk30 (s0.length:Int) () _ _ _ _ h.2 slr ?_ ?_ ?_ ff⟩<;>first|(simp(disch:=omega) only[vm,seval,h.1,Bu,Bj,Gd,Ap,BH,Ao];done)|rfl
 simp(disch:=omega) only[vm,seval,h.1,Bu,Bj,Gd,Ap,BH,Ao]
 refine⟨hk30 (wr .i64 (1+y27)) () _ _ _ _ h.2 slr ?_ ?_ ?_ ff⟩<;>first|(simp(disch:=omega) only[vm,seval,h.1,Bu,Bj,Gd,Ap,BH,Ao];done)|rfl
 intro k23 Jk23 hk23 h
 rcases KH h with h|h
 simp(disch:=omega) only[vm,seval,h.1,Bu,Bj,Gd,Ap,BH,Ao]
 refine⟨hk23 true () _ _ _ _ h.2 slr ?_ ?_ ?_ ff⟩<;>first|(simp(disch:=omega) only[vm,seval,h.1,Bu,Bj,Gd,Ap,BH,Ao];done)|rfl
 simp(disch:=omega) only[vm,seval,h.1,Bu,Bj,Gd,Ap,BH,Ao]
 refine⟨hk23 (s0==([46,46]:List UInt8)) () _ _ _ _ h.2 slr ?_ ?_ ?_ ff⟩<;>first|(simp(disch:=omega) only[vm,seval,h.1,Bu,Bj,Gd,Ap,BH,Ao];done)|rfl
 intro k12 Jk12 hk12 h
 obtain⟨y15,h⟩:=FQ h
 simp(disch:=omega) only[vm,seval,h.1,Bu,Bj,Gd,Ap,BH,Ao]
 refine⟨Il h.1.1 (by first|(simp(disch:=omega) only[vm,seval,h.1,Bu,Bj,Gd,Ap,BH,Ao];done)|rfl) fun n16 hn16=>?_⟩
 rcases KH h with h|h
 simp(disch:=omega) only[vm,seval,h.1,Bu,Bj,Gd,Ap,BH,Ao]
 refine⟨hk12 true () _ _ _ _ h.2 slr ?_ ?_ ?_ ff⟩<;>first|(simp(disch:=omega) only[vm,seval,h.1,Bu,Bj,Gd,Ap,BH,Ao];done)|rfl
 simp(disch:=omega) only[vm,seval,h.1,Bu,Bj,Gd,Ap,BH,Ao]
 refine⟨hk12 (s0==([47,46,46]:List UInt8)) () _ _ _ _ h.2 slr ?_ ?_ ?_ ff⟩<;>first|(simp(disch:=omega) only[vm,seval,h.1,Bu,Bj,Gd,Ap,BH,Ao];done)|rfl
instance AYa {a0}:CF vE (DN N a0) 304 [.str a0] (fun r=>.str r):=⟨fun h hQ=>Wj h rfl hQ⟩
@[reducible, instance] def AQ8 {a0 a1 k2 k s6 s7} := LF.mk (X := Cc N a0 a1 k2 k s6 s7) (G := fun k (s : (List Int) × Int) => Cc N a0 a1 k2 k s.1 s.2) (s := (s6, s7)) (js := [(4, 2), (8, 2), (13, 49)]) (cs := [6, 7]) (V := fun s => [.slice 1 (List.map (AVal.int .u8) s.1) true, .int .i64 s.2]) (Ms := fun s => []) rfl (fun s => Cc.eq_1 ..) (fun k s => Cc.eq_2 ..)
instance AVX {a0 a1}:CF vE (FL N a0 a1) 127 [.str a0,.str a1] (fun r=>.tuple [.str r.1,.int .i64 r.2]):=AV (FL.eq_1 ..) Tryz.func127 rfl Tryz.ntmps127 Tryz.results127 [(8,[],.stop),(10,[36],.done),(15,[52],.done),(16,[56],.done)]
instance AiF {a0 a1}:CF vE (K6 N a0 a1) 197 [.str a0,.int .u64 a1] (fun r=>.tuple [.int .u64 r.1,.int .i64 r.2]):=AV (K6.eq_1 ..) Tryz.func197 rfl Tryz.ntmps197 Tryz.results197 [(2,[],.stop)]
@[reducible, instance] def AV0 {a0 k2 k s4 s5} := LF.mk (X := H5 N a0 k2 k s4 s5) (G := fun k (s : (List Int) × Int) => H5 N a0 k2 k s.1 s.2) (s := (s4, s5)) (js := [(2, 2), (6, 3), (12, 26)]) (cs := [4, 5]) (V := fun s => [.slice 1 (List.map (AVal.int .u8) s.1) true, .int .i64 s.2]) (Ms := fun s => []) rfl (fun s => H5.eq_1 ..) (fun k s => H5.eq_2 ..)
instance Aft {a0}:CF vE (IQ N a0) 40 [.str a0] (fun r=>.tuple [.str r.1,.int .i64 r.2]):=AV (IQ.eq_1 ..) Tryz.func40 rfl Tryz.ntmps40 Tryz.results40 [(13,[34],.done)]
instance Afx {a0}:CF vE (RD N a0) 54 [Um a0] (fun r=>.str r):=AV (RD.eq_1 ..) Tryz.func54 rfl Tryz.ntmps54 Tryz.results54 [(1,[],.take 0 (.take 1 (.take 5 (.take 6 (.alt 2 [6,5,0] (.take 3 (.take 4 (.take 7 (.alt 8 [] (.done) (.stop))))) (.stop))))))]
instance AgM {a0}:CF vE (DZ N a0) 42 [Ah a0] (fun r=>.str r):=AV (DZ.eq_1 ..) Tryz.func42 rfl Tryz.ntmps42 Tryz.results42 [(1,[],.take 0 (.take 4 (.alt 1 [4] (.alt 2 [4,0] (.take 3 (.alt 5 [3,0] (.take 6 (.alt 7 [] (.done) (.stop))) (.stop))) (.stop)) (.stop))))]
instance Aom {a0}:CB vE (Qf N a0) 15 (fun i0=>[.ptr i0 0]) (fun i0=>[.slice 1 (List.map (AVal.int .u8) a0.l) false]) (fun r=>.str r.1) (fun i0 r=>[.slice 1 (List.map (AVal.int .u8) r.2.l) false]):=Gq (Qf.eq_1 ..) Tryz.func15 rfl Tryz.ntmps15 Tryz.results15
@[reducible, instance] def AaZ {a0 k2 k s3 s4} := LF.mk (X := Ir N a0 k2 k s3 s4) (G := fun k (s : Int × Int) => Ir N a0 k2 k s.1 s.2) (s := (s3, s4)) (js := [(2, 1), (5, 19)]) (cs := [3, 4]) (V := fun s => [.int .i64 s.1, .int .i64 s.2]) (Ms := fun s => []) rfl (fun s => Ir.eq_1 ..) (fun k s => Ir.eq_2 ..)
instance AjW {a0}:CF vE (Sd N a0) 256 [.str a0] (fun r=>.int .i64 r):=AV (Sd.eq_1 ..) Tryz.func256 rfl Tryz.ntmps256 Tryz.results256
instance ArG {a0 a1 a2 a3 a4}:CF vE (FX N a0 a1 a2 a3 a4) 18 [.int .i64 a0,.str a1,.str a2,.slice 2 (List.map Aj a3) false,.bool a4] (fun r=>.str r):=AV (FX.eq_1 ..) Tryz.func18 rfl Tryz.ntmps18 Tryz.results18 [(3,[17],.done),(4,[24],.done),(6,[30],.done),(8,[41],.take 0 (.take 2 (.take 3 (.alt 1 [3,2] (.alt 4 [2,0] (.alt 5 [3,2,0] (.take 6 (.alt 7 [3,2,0] (.take 8 (.alt 9 [] (.done) (.stop))) (.stop))) (.stop)) (.stop)) (.alt 4 [2,0] (.alt 1 [3,2] (.alt 5 [3,2,0] (.take 6 (.alt 7 [3,2,0] (.take 8 (.alt 9 [] (.done) (.stop))) (.stop))) (.stop)) (.alt 5 [3,2,0] (.take 6 (.alt 1 [6,3,2] (.alt 7 [3,2,0] (.take 8 (.alt 9 [] (.done) (.stop))) (.stop)) (.stop))) (.stop))) (.stop))))))]
@[reducible, instance] def Ag7 {k4 xs s15 s7} := LR.mk (X := Ez N k4 xs s15 s7) (G := fun xs i (s : (List UInt8)) => Ez N k4 xs i s) (i := s15) (s := s7) (js := [(8, 2), (16, 12)]) (cs := [7, 15]) (V := fun i s => [.str s, .int .i64 i]) (Ms := fun i s => []) rfl (fun i s => Ez.eq_1 ..) (fun x xs i s => Ez.eq_2 ..)
instance Aol {a0 a1}:CF vE (NY N a0 a1) 83 [Ib a0,.str a1] (fun r=>.tuple [.str r.1,.bool r.2]):=AV (NY.eq_1 ..) Tryz.func83 rfl Tryz.ntmps83 Tryz.results83
instance Aca {a0 a1}:CF vE (LP N a0 a1) 152 [Fb a0,Fb a1] (fun r=>Fb r):=AV (LP.eq_1 ..) Tryz.func152 rfl Tryz.ntmps152 Tryz.results152 [(14,[],.take 0 (.take 1 (.take 2 (.take 3 (.take 4 (.alt 5 [3,2] (.take 6 (.alt 7 [] (.done) (.stop))) (.stop))))))),(15,[],.take 0 (.take 1 (.take 2 (.take 3 (.take 4 (.alt 5 [3,2] (.take 6 (.alt 7 [] (.done) (.stop))) (.stop))))))),(5,[],.take 0 (.take 1 (.take 2 (.take 3 (.take 4 (.alt 5 [3,2] (.take 6 (.alt 7 [] (.done) (.stop))) (.stop))))))),(16,[],.take 0 (.take 1 (.take 2 (.take 3 (.take 4 (.alt 5 [3,2] (.take 6 (.alt 7 [] (.done) (.stop))) (.stop)))))))]
instance AVo {a0}:CB vE (Hz N a0) 316 (fun i0=>[.ptr i0 0]) (fun i0=>[.str a0.rest,.bool a0.more]) (fun r=>.str r.1) (fun i0 r=>[.str r.2.rest,.bool r.2.more]):=Gq (Hz.eq_1 ..) Tryz.func316 rfl Tryz.ntmps316 Tryz.results316
instance Apf {a0}:CF vE (Sm N a0) 323 [Fb a0] (fun r=>.str r):=AV (Sm.eq_1 ..) Tryz.func323 rfl Tryz.ntmps323 Tryz.results323
end Go.Proofs.YtgfgogdgnkaedaaGreatDoor
