import Derived.Test.YtcahkpfjpeomoaaGreatDoorW0
import Derived.Test.YtcahkpfjpeomoaaGreatDoorW2
set_option linter.unusedVariables false
set_option linter.unusedSimpArgs false
set_option maxHeartbeats 4000000
set_option maxRecDepth 100000
set_option linter.defProp false
namespace Go.Proofs.YtcahkpfjpeomoaaGreatDoor
open Go.VM
attribute [local irreducible] AA grd letL
variable{N n:Nat}{m:MS}{Q:PQ}{args:List AVal}
@[reducible, instance] def AOm {k2 xs} := LQ.mk (X := Fs N k2 xs) (G := fun xs i (s : Unit) => Fs N k2 xs) (s := ()) (js := [(2, 1), (4, 23)]) (cs := [3]) (V := fun i s => [.int .i64 i]) (Ms := fun i s => []) (fun _ => rfl) (fun i s => Fs.eq_1 ..) (fun x xs i s => Fs.eq_2 ..)
instance AVk {a0}:CF vE (Nn N a0) 124 [.str a0] (fun r=>.bool r):=AP (Nn.eq_1 ..) Tryz.func124 rfl Tryz.ntmps124 Tryz.results124 [(4,[],.stop)]
instance AZi {a0}:CF vE (Mk N a0) 125 [.int .u8 a0] (fun r=>.bool r):=AP (Mk.eq_1 ..) Tryz.func125 rfl Tryz.ntmps125 Tryz.results125 [(1,[],.stop)]
instance ATe {a0 a1}:CB vE (Cx N a0 a1) 44 (fun i0=>[.ptr i0 0,.slice 1 (List.map AVal.str a1) false]) (fun i0=>[.slice 1 (List.map (AVal.int .u8) a0.l) false]) (fun r=>.str r.1) (fun i0 r=>[.slice 1 (List.map (AVal.int .u8) r.2.l) false]):=ED (Cx.eq_1 ..) Tryz.func44 rfl Tryz.ntmps44 Tryz.results44
@[reducible, instance] def AN4 {a1 k2 k s0 s5} := LF.mk (X := F7 N a1 k2 k s0 s5) (G := fun k (s : (List UInt8) × (List UInt8)) => F7 N a1 k2 k s.1 s.2) (s := (s0, s5)) (js := [(6, 21)]) (cs := [0, 5]) (V := fun s => [.str s.1, .str s.2]) (Ms := fun s => []) rfl (fun s => F7.eq_1 ..) (fun k s => F7.eq_2 ..)
instance AUc {a0 a1}:CF vE (Ny N a0 a1) 22 [.str a0,.int .i64 a1] (fun r=>.str r):=AP (Ny.eq_1 ..) Tryz.func22 rfl Tryz.ntmps22 Tryz.results22 [(4,[],.take 0 (.take 1 (.take 5 (.take 6 (.take 7 (.take 10 (.take 11 (.take 12 (.alt 2 [12,11,10,7,6,5,0] (.take 3 (.take 4 (.take 8 (.take 9 (.alt 13 [12,11,10] (.alt 14 [] (.done) (.stop)) (.stop)))))) (.stop))))))))))]
instance Aff {a0 a1}:CF vE (ME N a0 a1) 10 [Aa a0,.str a1] (fun r=>Ag r):=AP (ME.eq_1 ..) Tryz.func10 rfl Tryz.ntmps10 Tryz.results10 [(1,[],.take 0 (.take 1 (.take 2 (.take 3 (.take 4 (.take 6 (.alt 5 [6,3,2,1,0] (.alt 7 [4,2,0] (.alt 8 [] (.done) (.stop)) (.stop)) (.stop))))))))]
instance AXB {a0}:CF vE (Nk N a0) 194 [Mt a0] (fun r=>.agg [.str r.next.host,.int .i64 r.next.port,.str r.next.path,.str r.next.query,.str r.next.fragment,.bool r.next.hasQuery,.bool r.next.hasFrag,.int .i64 r.hops,.bool r.done,.int .i64 r.err,.str r.final.uRL.host,.int .i64 r.final.uRL.port,.str r.final.uRL.path,.str r.final.uRL.query,.str r.final.uRL.fragment,.bool r.final.uRL.hasQuery,.bool r.final.uRL.hasFrag,.int .i64 r.final.head.minor,.int .i64 r.final.head.status,.slice 2 (List.map Af r.final.head.fields) true,.str r.final.body,.slice 9 (List.map AO r.final.trace) true,.slice 7 (List.map Aa r.seen) true]):=AP (Nk.eq_1 ..) Tryz.func194 rfl Tryz.ntmps194 Tryz.results194 [(4,[21],.done)]
instance AGr {a0 a1}:CF vE (Jn N a0 a1) 280 [Ob a0,Ag a1] (fun r=>.bool r):=AP (Jn.eq_1 ..) Tryz.func280 rfl Tryz.ntmps280 Tryz.results280 [(1,[],.take 0 (.take 2 (.take 3 (.alt 1 [3,2] (.take 4 (.take 5 (.take 6 (.take 7 (.take 8 (.take 9 (.take 10 (.take 11 (.take 12 (.take 13 (.take 14 (.take 15 (.take 16 (.take 17 (.take 18 (.take 19 (.take 20 (.take 21 (.take 22 (.take 23 (.take 24 (.take 25 (.take 26 (.take 27 (.take 28 (.take 29 (.take 30 (.alt 31 [] (.done) (.stop))))))))))))))))))))))))))))) (.stop)))))]
@[reducible, instance] def ATj {k2 k s0} := LF.mk (X := IW N k2 k s0) (G := fun k (s : (List UInt8)) => IW N k2 k s) (s := s0) (js := [(3, 10)]) (cs := [0]) (V := fun s => [.str s]) (Ms := fun s => []) rfl (fun s => IW.eq_1 ..) (fun k s => IW.eq_2 ..)
@[reducible, instance] def AT4 {k15 k s0} := LF.mk (X := IR N k15 k s0) (G := fun k (s : (List UInt8)) => IR N k15 k s) (s := s0) (js := [(13, 16)]) (cs := [0]) (V := fun s => [.str s]) (Ms := fun s => []) rfl (fun s => IR.eq_1 ..) (fun k s => IR.eq_2 ..)
instance Aan {a0}:CF vE (MF N a0) 285 [.str a0] (fun r=>.str r):=AP (MF.eq_1 ..) Tryz.func285 rfl Tryz.ntmps285 Tryz.results285 [(1,[],.stop),(3,[],.stop)]
instance Rh {a0 a1}:CF vE (EI N a0 a1) 251 [.slice 7 (List.map Aa a0) false,Aa a1] (fun r=>.bool r):=AP (EI.eq_1 ..) Tryz.func251 rfl Tryz.ntmps251 Tryz.results251
@[reducible, instance] def Md {k2 k bi0_s bi0_at_} := LF.mk (X := Aj N k2 k bi0_s bi0_at_) (G := fun k (s : (List UInt8) × Int) => Aj N k2 k s.1 s.2) (s := (bi0_s, bi0_at_)) (js := [(10, 23)]) (cs := []) (V := fun s => []) (Ms := fun s => [.s ([.str s.1, .int .i64 s.2])]) rfl (fun s => Aj.eq_1 ..) (fun k s => Aj.eq_2 ..)
instance NM {a0}:CB vE (CQ N a0) 163 (fun i0=>[.ptr i0 0,.fn (.func 164) [] []]) (fun i0=>[.str a0.s,.int .i64 a0.at_]) (fun r=>.str r.1) (fun i0 r=>[.str r.2.s,.int .i64 r.2.at_]):=ED (CQ.eq_1 ..) Tryz.func163 rfl Tryz.ntmps163 Tryz.results163 [(2,[],.take 0 (.alt 1 [] (.take 2 (.take 3 (.take 4 (.take 5 (.take 6 (.take 7 (.take 8 (.take 9 (.take 10 (.take 11 (.take 12 (.take 13 (.alt 14 [12,11,10,9,8,7,6,5,2,0] (.take 15 (.done)) (.stop)))))))))))))) (.stop))),(4,[],.take 0 (.take 1 (.take 2 (.take 3 (.take 4 (.take 5 (.take 6 (.take 7 (.take 8 (.take 9 (.alt 10 [] (.done) (.stop))))))))))))]
instance AFx {a0 a1}:CB vE (Au N a0 a1) 104 (fun i0=>[.ptr i0 0,.int .u8 a1]) (fun i0=>[.str a0.s,.int .i64 a0.at_]) (fun r=>.bool r.1) (fun i0 r=>[.str r.2.s,.int .i64 r.2.at_]):=ED (Au.eq_1 ..) Tryz.func104 rfl Tryz.ntmps104 Tryz.results104 [(1,[],.take 0 (.alt 1 [] (.take 2 (.take 3 (.take 4 (.take 5 (.take 6 (.take 7 (.take 8 (.take 9 (.take 10 (.take 11 (.take 12 (.take 13 (.take 14 (.done)))))))))))))) (.stop)))]
theorem SN {a0 a1 r} (h:Jm N a0 a1=some r) (ha:args=[.str a0,.int .i64 a1]) (hQ: ∀n',n≤n'→Gl (Q (.tuple [.int .i64 r.1,.int .i64 r.2.1,.int .i64 r.2.2]) ⟨m,n'⟩)):ACall vE 307 args ⟨m,n⟩ Q:=by
 rw[Jm]at h
 subst ha
 refine ent hQ Tryz.func307 rfl Tryz.ntmps307 Tryz.results307 (.q (.r []) (.q .z .z)) fun R hR=>?_
 replace h:=And.intro trivial h
 simp(disch:=omega) only[vm,seval,h.1]
 refine⟨MQ (γ:=Unit) h [11,12,13,14,15,16,17] [18] (fun j1 g=>[.bool j1]) (fun j1 g=>m) (.r []) ?_ ?_⟩<;>clear h
 rintro j1 _ n4 hnn4 _ _ h
 refine BM (.c (.q (.r []) .z) .z) ?_
 rcases Ec h with h|h
 exact tR
 simp(disch:=omega) only[vm,seval,h.1]
 refine⟨MQ (γ:=Unit) h [4,5,6,7,8,9,10,19,20,21,22,23,24,25,26,27,28,29,30,31,32,33,34,35,36,37,38,39,40,41,42,43,44,45,46,47,48,49,50,51,52,53,54,55,56,57,58,59,60,61,62,63,64,65,66,67,68,69,70,71,72,73,74,75,76,77,78,79,80,81,82,83] [] (fun j5 g=>[]) (fun j5 g=>m) (.q (.r []) .z) ?_ ?_⟩<;>clear h
 rintro j5 _ n8 hnn8 _ _ h
 refine BM (.q (.r []) .z) ?_
 exact tR
 intro k6 Jk6 hk6 h
 obtain⟨hfk9,h⟩:=Ho h
 simp(disch:=omega) only[vm,seval,h.1]
 refine⟨AVd (σ:=Unit) (γ:=Unit) 0 4 hfk9 (fun xs i s=>Dn N a0 a1 k6 xs i) (fun i s g=>[.int .i64 i]) (fun i s g=>m) [4,5,6,7,8,9,10,21,22,23,24,25,26,27,28,29,30,31,32,33,34,35,36,37,38,39,40,41,42,43,44,45,46,47,48,49,50,51,52,53,54,55,56,57,58,59,60,61,62,63,64,65,66,67,68,69,70,71,72,73,74,75,76,77,78,79,80,81,82,83] [20] () () h tD tD ?_ ?_⟩<;>clear h
 rintro s20 _ _ nL0_1 hnL0_1 _ h
 change _∧Dn N a0 a1 k6 0 s20=_ at h
 rw[Dn]at h
 refine BM (.q (.r []) (.q (.c .z .z) (.q (.q (.r []) (.q (.q .z (.c .z .z)) (.q .z (.q (.q (.r []) (.c .z .z)) .z)))) (.r [])))) ?_
 exact tJ (hk6 () ())
 rintro xsk9 s20 _ _ nL0_1 hnL0_1 _ h Jk9 hk9
 change _∧Dn N a0 a1 k6 (xsk9+1) s20=_ at h
 rw[Dn]at h
 refine BM (.q (.r []) (.q (.c .z .z) (.q (.q (.r []) (.q (.q .z (.c .z .z)) (.q .z (.q (.q (.r []) (.c .z .z)) .z)))) (.r [])))) ?_
 obtain⟨x10,h⟩:=Cu h
 replace h:=EY (Oi (k:=.i64) h.1.1) h
 obtain⟨x11,h⟩:=Cu h
 simp(disch:=omega) only[vm,seval,h.1]
 refine⟨Jg [] (.take 0 (.take 1 (.take 2 (.take 3 (.take 4 (.take 5 (.take 6 (.take 7 (.take 8 (.done)))))))))) HY (by kernel_rfl) ?_⟩
 rcases Ec h with h|h
 exact tJ (hk9 () ())
 simp(disch:=omega) only[vm,seval,h.1]
 refine⟨Jg [] (.take 0 (.take 1 (.take 2 (.take 3 (.take 4 (.take 5 (.take 6 (.alt 7 [] (.done) (.stop))))))))) HY (by kernel_rfl) ?_⟩
 rcases Ec h with h|h
 exact tJ (hk6 () ())
 simp(disch:=omega) only[vm,seval,h.1]
 refine⟨MQ (γ:=Unit) h [4,5,6,10,47,48,49,50,51,52,53,54,55,56,57,58,59,60,61,62,63,64,65,66,67,68] [9] (fun j12 g=>[.int .i64 j12]) (fun j12 g=>(nL0_1,[.int .u8 x10.mark,.int .u8 x10.mask,.int .i64 x10.least])::m) (.q (.r []) .z) ?_ ?_⟩<;>clear h
 rintro j12 _ n15 hnn15 _ _ h
 refine BM (.q .z (.q (.r []) .z)) ?_
 simp(disch:=omega) only[vm,seval,h.1]
 refine⟨MQ (γ:=Unit) h [69,70,71,72,73,74,75,76] [77] (fun j18 g=>[.bool j18]) (fun j18 g=>(nL0_1,[.int .u8 x10.mark,.int .u8 x10.mask,.int .i64 x10.least])::m) (.r []) ?_ ?_⟩<;>clear h
 rintro j18 _ n21 hnn21 _ _ h
 refine BM (.c .z .z) ?_
 rcases Ec h with h|h
 exact tJ (hk6 () ())
 exact tR
 intro k19 Jk19 hk19 h
 rcases Ec h with h|h
 exact tJ (hk19 true ())
 obtain⟨y22,h⟩:=Cu h
 simp(disch:=omega) only[vm,seval,h.1]
 refine⟨NW h.1.1 tD fun n23 hn23=>?_⟩
 exact tJ (hk19 (!y22) ())
 intro k13 Jk13 hk13 h
 simp(disch:=omega) only[vm,seval,h.1]
 refine⟨AGl (σ:=Int×Int) (γ:=Unit) (fun k s=>FP N a0 a1 s20 k13 k s.1 s.2) (fun s g=>[.int .i64 s.1,.int .i64 s.2]) (fun s g=>(nL0_1,[.int .u8 x10.mark,.int .u8 x10.mask,.int .i64 x10.least])::m) [4,5,6,47,48,49,50,51,52,53,54,55,56,57,58,59,60,61,62,63,64,65,66,67,68] [9,10] ((wr .i64 (Pk .u8 (AY x11) x10.mask)),1) () h (fun _=>rfl) tD tD ?_⟩
 clear h
 rintro k16 ⟨s9,s10⟩ _ nL1_2 hnL1_2 _ h Jk16 hk16
 change _∧FP N a0 a1 s20 k13 (k16+1) s9 s10=_ at h
 rw[FP]at h
 refine BM (.q (.q (.r []) (.c .z .z)) (.q (.q (.q (.r []) (.c (.q (.r []) .z) .z)) (.r [])) (.r []))) ?_
 rcases Ec h with h|h
 obtain⟨x17,h⟩:=Cu h
 rcases Ec h with h|h
 exact tR
 exact tJ (hk16 ((Qo .i64 (AYO .i64 s9 6) (wr .i64 (Pk .u8 (AY x17) 63))),(wr .i64 (s10+1))) ())
 exact tJ (hk13 s9 ())
 intro k2 Jk2 hk2 h
 rcases Ec h with h|h
 exact tJ (hk2 true ())
 exact tJ (hk2 (decide (a1≥(a0.length:Int))) ())
instance AOT {a0 a1}:CF vE (Jm N a0 a1) 307 [.str a0,.int .i64 a1] (fun r=>.tuple [.int .i64 r.1,.int .i64 r.2.1,.int .i64 r.2.2]):=⟨fun h hQ=>SN h rfl hQ⟩
theorem SX {a0 r} (h:Jf N a0=some r) (ha:args=[.int .i64 a0]) (hQ: ∀n',n≤n'→Gl (Q (.tuple [.str r.1,.int .i64 r.2]) ⟨m,n'⟩)):ACall vE 309 args ⟨m,n⟩ Q:=by
 rw[Jf]at h
 subst ha
 refine ent hQ Tryz.func309 rfl Tryz.ntmps309 Tryz.results309 (.q (.r []) (.q (.q (.r []) (.c (.q (.r []) .z) .z)) (.q (.r []) .z))) fun R hR=>?_
 replace h:=And.intro trivial h
 obtain⟨y1,h⟩:=Cu h
 simp(disch:=omega) only[vm,seval,h.1]
 refine⟨NW h.1.1 tD fun n2 hn2=>?_⟩
 rcases Ec h with h|h
 simp(disch:=omega) only[vm,seval,h.1]
 refine⟨MQ (γ:=Unit) h [10,11,12,13,14,15,16,17,18,19,20,21,22] [4] (fun j3 g=>[.int .i64 j3]) (fun j3 g=>m) .z ?_ ?_⟩<;>clear h
 rintro j3 _ n6 hnn6 _ _ h
 refine BM (.q (.r []) .z) ?_
 obtain⟨c,h⟩:=Ho h
 try simp only[liE,seval]at c
 replace h:=EY c h
 simp(disch:=omega) only[vm,seval,h.1]
 refine⟨MQ (γ:=Unit) h [6,26,27,28,29,30,31,32,33,34,35,36,37,38,39] [0] (fun j13 g=>[.int .i64 j13.1]) (fun j13 g=>(n6,List.map (AVal.int .u8) j13.2)::m) (.q (.r []) .z) ?_ ?_⟩<;>clear h
 rintro j13 _ n16 hnn16 _ _ h
 refine BM (.q (.r []) (.q (.r []) .z)) ?_
 obtain⟨x18,h⟩:=Cu h
 replace h:=EY (KX (k:=.i64) h.1.1) h
 obtain⟨c,h⟩:=Ho h
 try simp only[liE,seval]at c
 replace h:=EY c h
 obtain⟨c,h⟩:=Ho h
 try simp only[liE,seval]at c
 replace h:=EY c h
 obtain⟨c,h⟩:=Ho h
 try simp only[liE,seval]at c
 replace h:=EY c h
 exact tR
 intro k14 Jk14 hk14 h
 simp(disch:=omega) only[vm,seval,h.1]
 refine⟨AGl (σ:=Int×Int×(List Int)) (γ:=Unit) (fun k s=>FQ N j3 k14 k s.1 s.2.1 s.2.2) (fun s g=>[.int .i64 s.1,.int .i64 s.2.1]) (fun s g=>(n6,List.map (AVal.int .u8) s.2.2)::m) [27,28,29,30,31,32,33,34,35,36,37,38,39] [0,6] (a0,j3,(List.replicate (wr .i64 (j3+1)).toNat 0)) () h (fun _=>rfl) tD tD ?_⟩
 clear h
 rintro k17 ⟨s0,s6,bn6⟩ _ nL1_1 hnL1_1 _ h Jk17 hk17
 change _∧FQ N j3 k14 (k17+1) s0 s6 bn6=_ at h
 rw[FQ]at h
 refine BM (.q (.q (.r []) (.c .z .z)) (.q (.q (.r []) (.r [])) (.r []))) ?_
 rcases Ec h with h|h
 obtain⟨c,h⟩:=Ho h
 try simp only[liE,seval]at c
 replace h:=EY c h
 obtain⟨c,h⟩:=Ho h
 try simp only[liE,seval]at c
 replace h:=EY c h
 exact tJ (hk17 ((AUJ .i64 s0 6),(wr .i64 (s6-1)),(bn6.set s6.toNat (Qo .u8 128 (wr .u8 (Pk .i64 s0 63))))) ())
 exact tJ (hk14 (s0,bn6) ())
 intro k4 Jk4 hk4 h
 simp(disch:=omega) only[vm,seval,h.1]
 refine⟨AGl (σ:=Int) (γ:=Unit) (fun k s=>FO N a0 k4 k s) (fun s g=>[.int .i64 s]) (fun s g=>m) [10,11,12,13,14,15,16,17,18,19,20,21,22] [4] 0 () h (fun _=>rfl) tD tD ?_⟩
 clear h
 rintro k7 s4 _ nL0_1 hnL0_1 _ h Jk7 hk7
 change _∧FO N a0 k4 (k7+1) s4=_ at h
 rw[FO]at h
 refine BM (.q .z (.r [])) ?_
 simp(disch:=omega) only[vm,seval,h.1]
 refine⟨MQ (γ:=Unit) h [10,11,12,13,14,15,16,17,18,19] [20] (fun j8 g=>[.bool j8]) (fun j8 g=>m) (.r []) ?_ ?_⟩<;>clear h
 rintro j8 _ n11 hnn11 _ _ h
 refine BM (.c .z .z) ?_
 rcases Ec h with h|h
 exact tJ (hk7 (wr .i64 (s4+1)) ())
 exact tJ (hk4 s4 ())
 intro k9 Jk9 hk9 h
 rcases Ec h with h|h
 obtain⟨x12,h⟩:=Cu h
 replace h:=EY (KX (k:=.i64) h.1.1) h
 exact tJ (hk9 (decide (a0≥x12.least)) ())
 exact tJ (hk9 false ())
 exact tR
instance AO1 {a0}:CF vE (Jf N a0) 309 [.int .i64 a0] (fun r=>.tuple [.str r.1,.int .i64 r.2]):=⟨fun h hQ=>SX h rfl hQ⟩
@[reducible, instance] def Pw {a0 k2 k bi0_at_} := LC.mk (X := BF N a0 k2 k bi0_at_) (G := fun k i (s : Unit) => BF N a0 k2 k i) (i := bi0_at_) (k := k) (s := ()) (js := [(10, 30)]) (cs := []) (V := fun i s => []) (Ms := fun i s => [.p [.k, .v (.int .i64 i)]]) rfl (fun i s => BF.eq_1 ..) (fun k i s => BF.eq_2 ..)
instance QS {a0}:CB vE (Cg N a0) 203 (fun i0=>[.ptr i0 0,.fn (.func 174) [] []]) (fun i0=>[.str a0.s,.int .i64 a0.at_]) (fun r=>.str r.1) (fun i0 r=>[.str r.2.s,.int .i64 r.2.at_]):=ED (Cg.eq_1 ..) Tryz.func203 rfl Tryz.ntmps203 Tryz.results203 [(2,[],.take 0 (.take 1 (.take 2 (.take 3 (.take 4 (.take 5 (.take 6 (.take 7 (.take 8 (.take 9 (.take 10 (.take 11 (.take 12 (.take 13 (.take 14 (.take 15 (.take 16 (.take 17 (.take 18 (.take 19 (.take 20 (.alt 21 [19,18,17,16,15,14,13,12,9,8,7,6,5,4,3,2,1,0] (.take 22 (.done)) (.stop))))))))))))))))))))))),(4,[],.take 0 (.take 1 (.take 2 (.take 3 (.take 4 (.take 5 (.take 6 (.take 7 (.take 8 (.take 9 (.alt 10 [] (.done) (.stop))))))))))))]
end Go.Proofs.YtcahkpfjpeomoaaGreatDoor
