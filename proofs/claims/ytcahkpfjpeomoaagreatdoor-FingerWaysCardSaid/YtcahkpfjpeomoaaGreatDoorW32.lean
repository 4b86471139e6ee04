import Derived.Test.YtcahkpfjpeomoaaGreatDoorW25
set_option linter.unusedVariables false
set_option linter.unusedSimpArgs false
set_option maxHeartbeats 4000000
set_option maxRecDepth 100000
set_option linter.defProp false
namespace Go.Proofs.YtcahkpfjpeomoaaGreatDoor
open Go.VM
attribute [local irreducible] AA grd letL
variable{N n:Nat}{m:MS}{Q:PQ}{args:List AVal}
instance AYu {a0}:CF vE (KQ N a0) 13 [Ap a0] (fun r=>.tuple [Aa r.1,.int .i64 r.2]):=AP (KQ.eq_1 ..) Tryz.func13 rfl Tryz.ntmps13 Tryz.results13
instance ATl {a0}:CF vE (NG N a0) 11 [Ap a0] (fun r=>.str r):=AP (NG.eq_1 ..) Tryz.func11 rfl Tryz.ntmps11 Tryz.results11
@[reducible, instance] def MM {k2 xs s8_0 bi1_0_0} := LR.mk (X := Ai N k2 xs s8_0 bi1_0_0) (G := fun xs i (s : ApiID) => Ai N k2 xs i s) (i := s8_0) (s := bi1_0_0) (js := [(4, 2), (9, 10)]) (cs := [8]) (V := fun i s => [.int .i64 i]) (Ms := fun i s => [.s ([.int .i64 s.kind, .str s.text, .str s.host, .int .i64 s.port])]) rfl (fun i s => Ai.eq_1 ..) (fun x xs i s => Ai.eq_2 ..)
instance M9 {a0 b1_0}:CB vE (CO N a0 b1_0) 137 (fun i1_0=>[.slice 1 (List.map AVal.str a0) false,.fn (.func 88) [] [.ptr i1_0 0]]) (fun i1_0=>[.int .i64 b1_0.kind,.str b1_0.text,.str b1_0.host,.int .i64 b1_0.port]) (fun r=>.int .i64 r.1) (fun i1_0 r=>[.int .i64 r.2.kind,.str r.2.text,.str r.2.host,.int .i64 r.2.port]):=ED (CO.eq_1 ..) Tryz.func137 rfl Tryz.ntmps137 Tryz.results137
instance AOn {a0}:CF vE (LP N a0) 54 [Ap a0] (fun r=>.tuple [Aa r.1,.int .i64 r.2]):=AP (LP.eq_1 ..) Tryz.func54 rfl Tryz.ntmps54 Tryz.results54
instance AZz {a0}:CF vE (Oz N a0) 59 [Ap a0] (fun r=>.tuple [Aa r.1,.int .i64 r.2]):=AP (Oz.eq_1 ..) Tryz.func59 rfl Tryz.ntmps59 Tryz.results59
instance Ab5:CF vE (Qh N) 4 [] (fun r=>.bool r):=AP (Qh.eq_1 ..) Tryz.func4 rfl Tryz.ntmps4 Tryz.results4 [(3,[],.stop)]
instance MV {a0 b1_0}:CB vE (Bt N a0 b1_0) 90 (fun i1_0=>[.slice 1 (List.map AVal.str a0) false,.fn (.func 88) [] [.ptr i1_0 0]]) (fun i1_0=>[.int .i64 b1_0.kind,.str b1_0.text,.str b1_0.host,.int .i64 b1_0.port]) (fun r=>.bool r.1) (fun i1_0 r=>[.int .i64 r.2.kind,.str r.2.text,.str r.2.host,.int .i64 r.2.port]):=ED (Bt.eq_1 ..) Tryz.func90 rfl Tryz.ntmps90 Tryz.results90
instance AZe {a0 a1}:CF vE (Mx N a0 a1) 53 [Gy a0,Ap a1] (fun r=>.tuple [Df r.1,.int .i64 r.2]):=AP (Mx.eq_1 ..) Tryz.func53 rfl Tryz.ntmps53 Tryz.results53 [(8,[],.stop),(10,[],.take 0 (.take 1 (.take 2 (.take 4 (.take 5 (.alt 3 [5,4,0] (.alt 6 [4,2,1,0] (.alt 7 [5,4,2,1] (.alt 8 [] (.alt 9 [] (.done) (.stop)) (.stop)) (.stop)) (.stop)) (.stop)))))))] true
instance Oj {a0}:CB vE (Gg N a0) 26 (fun i0=>[.ptr i0 0]) (fun i0=>[.slice 7 (List.map Ag a0.l) false,.int .u64 a0.now,.int .i64 a0.id.kind,.str a0.id.text,.str a0.id.host,.int .i64 a0.id.port,.slice 9 (List.map AO a0.trace) true]) (fun r=>.tuple [Df r.1,.int .i64 r.2.1,.bool r.2.2.1]) (fun i0 r=>[.slice 7 (List.map Ag r.2.2.2.l) false,.int .u64 r.2.2.2.now,.int .i64 r.2.2.2.id.kind,.str r.2.2.2.id.text,.str r.2.2.2.id.host,.int .i64 r.2.2.2.id.port,.slice 9 (List.map AO r.2.2.2.trace) true]):=ED (Gg.eq_1 ..) Tryz.func26 rfl Tryz.ntmps26 Tryz.results26 [(7,[],.take 0 (.take 1 (.take 2 (.take 3 (.take 4 (.alt 5 [3,2,1] (.take 6 (.alt 7 [4,3,2,1,0] (.alt 8 [4,3,2,1,0] (.alt 9 [6,4,3,2,1,0] (.alt 10 [] (.alt 11 [] (.done) (.stop)) (.stop)) (.stop)) (.alt 9 [6,4,3,2,1,0] (.alt 8 [4,3,2,1,0] (.alt 10 [] (.alt 11 [] (.done) (.stop)) (.stop)) (.alt 10 [] (.alt 8 [4,3,2,1,0] (.alt 11 [] (.done) (.stop)) (.stop)) (.stop))) (.stop))) (.alt 8 [4,3,2,1,0] (.alt 7 [4,3,2,1,0] (.alt 9 [6,4,3,2,1,0] (.alt 10 [] (.alt 11 [] (.done) (.stop)) (.stop)) (.stop)) (.alt 9 [6,4,3,2,1,0] (.alt 7 [4,3,2,1,0] (.alt 10 [] (.alt 11 [] (.done) (.stop)) (.stop)) (.stop)) (.stop))) (.alt 9 [6,4,3,2,1,0] (.alt 7 [4,3,2,1,0] (.alt 8 [4,3,2,1,0] (.alt 10 [] (.alt 11 [] (.done) (.stop)) (.stop)) (.alt 10 [] (.alt 8 [4,3,2,1,0] (.alt 11 [] (.done) (.stop)) (.stop)) (.stop))) (.alt 8 [4,3,2,1,0] (.alt 7 [4,3,2,1,0] (.alt 10 [] (.alt 11 [] (.done) (.stop)) (.stop)) (.stop)) (.stop))) (.stop))))) (.alt 9 [4,3,2,1,0] (.alt 5 [3,2,1] (.take 6 (.alt 7 [4,3,2,1,0] (.alt 8 [4,3,2,1,0] (.alt 10 [] (.alt 11 [] (.done) (.stop)) (.stop)) (.alt 10 [] (.alt 8 [4,3,2,1,0] (.alt 11 [] (.done) (.stop)) (.stop)) (.stop))) (.alt 8 [4,3,2,1,0] (.alt 7 [4,3,2,1,0] (.alt 10 [] (.alt 11 [] (.done) (.stop)) (.stop)) (.stop)) (.stop)))) (.stop)) (.stop))))))))] true
theorem Oh {a0 r}{i0:Nat} (h:Gg N a0=some r) (ha:args=[.ptr i0 0]) (hi0:AZ m i0=some ([.slice 7 (List.map Ag a0.l) false,.int .u64 a0.now,.int .i64 a0.id.kind,.str a0.id.text,.str a0.id.host,.int .i64 a0.id.port,.slice 9 (List.map AO a0.trace) true])) (hQ: ∀n',n≤n'→Gl (Q (.tuple [Df r.1,.int .i64 r.2.1,.bool r.2.2.1]) ⟨Ao m i0 ([.slice 7 (List.map Ag r.2.2.2.l) false,.int .u64 r.2.2.2.now,.int .i64 r.2.2.2.id.kind,.str r.2.2.2.id.text,.str r.2.2.2.id.host,.int .i64 r.2.2.2.id.port,.slice 9 (List.map AO r.2.2.2.trace) true]),n'⟩)):ACall vE 26 args ⟨m,n⟩ Q:=
 ha▸Oj.go h hi0 hQ
instance AIQ {a0 a1}:CB vE (Hu N a0 a1) 58 (fun i0=>[.ptr i0 0,Aa a1]) (fun i0=>[.slice 7 (List.map Ag a0.l) false,.int .u64 a0.now,.int .i64 a0.id.kind,.str a0.id.text,.str a0.id.host,.int .i64 a0.id.port,.slice 9 (List.map AO a0.trace) true]) (fun r=>.tuple [Df r.1,.int .i64 r.2.1]) (fun i0 r=>[.slice 7 (List.map Ag r.2.2.l) false,.int .u64 r.2.2.now,.int .i64 r.2.2.id.kind,.str r.2.2.id.text,.str r.2.2.id.host,.int .i64 r.2.2.id.port,.slice 9 (List.map AO r.2.2.trace) true]):=ED (Hu.eq_1 ..) Tryz.func58 rfl Tryz.ntmps58 Tryz.results58 [(4,[],.take 0 (.take 1 (.take 2 (.take 3 (.take 4 (.alt 5 [3,2,1] (.alt 6 [4,3,2,1,0] (.alt 7 [4,3,2,1,0] (.alt 8 [] (.alt 9 [] (.done) (.stop)) (.stop)) (.stop)) (.alt 7 [4,3,2,1,0] (.alt 6 [4,3,2,1,0] (.alt 8 [] (.alt 9 [] (.done) (.stop)) (.stop)) (.stop)) (.stop))) (.stop)))))))] true
instance NR {a0}:CB vE (Et N a0) 27 (fun i0=>[.ptr i0 0]) (fun i0=>[.slice 7 (List.map Ag a0.l) false,.int .u64 a0.now,.int .i64 a0.id.kind,.str a0.id.text,.str a0.id.host,.int .i64 a0.id.port,.slice 9 (List.map AO a0.trace) true]) (fun r=>.tuple [Df r.1,.int .i64 r.2.1,.bool r.2.2.1]) (fun i0 r=>[.slice 7 (List.map Ag r.2.2.2.l) false,.int .u64 r.2.2.2.now,.int .i64 r.2.2.2.id.kind,.str r.2.2.2.id.text,.str r.2.2.2.id.host,.int .i64 r.2.2.2.id.port,.slice 9 (List.map AO r.2.2.2.trace) true]):=ED (Et.eq_1 ..) Tryz.func27 rfl Tryz.ntmps27 Tryz.results27 [(11,[],.take 0 (.take 1 (.take 2 (.take 3 (.take 4 (.alt 5 [3,2,1] (.take 6 (.alt 7 [4,3,2,1,0] (.alt 8 [4,3,2,1,0] (.alt 9 [] (.alt 10 [] (.done) (.stop)) (.stop)) (.alt 9 [] (.alt 8 [4,3,2,1,0] (.alt 10 [] (.done) (.stop)) (.stop)) (.stop))) (.alt 8 [4,3,2,1,0] (.alt 7 [4,3,2,1,0] (.alt 9 [] (.alt 10 [] (.done) (.stop)) (.stop)) (.stop)) (.stop)))) (.stop)))))))] true
theorem NP {a0 r}{i0:Nat} (h:Et N a0=some r) (ha:args=[.ptr i0 0]) (hi0:AZ m i0=some ([.slice 7 (List.map Ag a0.l) false,.int .u64 a0.now,.int .i64 a0.id.kind,.str a0.id.text,.str a0.id.host,.int .i64 a0.id.port,.slice 9 (List.map AO a0.trace) true])) (hQ: ∀n',n≤n'→Gl (Q (.tuple [Df r.1,.int .i64 r.2.1,.bool r.2.2.1]) ⟨Ao m i0 ([.slice 7 (List.map Ag r.2.2.2.l) false,.int .u64 r.2.2.2.now,.int .i64 r.2.2.2.id.kind,.str r.2.2.2.id.text,.str r.2.2.2.id.host,.int .i64 r.2.2.2.id.port,.slice 9 (List.map AO r.2.2.2.trace) true]),n'⟩)):ACall vE 27 args ⟨m,n⟩ Q:=
 ha▸NR.go h hi0 hQ
instance O6 {a0}:CB vE (Hq N a0) 28 (fun i0=>[.ptr i0 0]) (fun i0=>[.slice 7 (List.map Ag a0.l) false,.int .u64 a0.now,.int .i64 a0.id.kind,.str a0.id.text,.str a0.id.host,.int .i64 a0.id.port,.slice 9 (List.map AO a0.trace) true]) (fun r=>.tuple [Df r.1,.int .i64 r.2.1,.bool r.2.2.1]) (fun i0 r=>[.slice 7 (List.map Ag r.2.2.2.l) false,.int .u64 r.2.2.2.now,.int .i64 r.2.2.2.id.kind,.str r.2.2.2.id.text,.str r.2.2.2.id.host,.int .i64 r.2.2.2.id.port,.slice 9 (List.map AO r.2.2.2.trace) true]):=ED (Hq.eq_1 ..) Tryz.func28 rfl Tryz.ntmps28 Tryz.results28 [(9,[],.stop)] true
theorem O3 {a0 r}{i0:Nat} (h:Hq N a0=some r) (ha:args=[.ptr i0 0]) (hi0:AZ m i0=some ([.slice 7 (List.map Ag a0.l) false,.int .u64 a0.now,.int .i64 a0.id.kind,.str a0.id.text,.str a0.id.host,.int .i64 a0.id.port,.slice 9 (List.map AO a0.trace) true])) (hQ: ∀n',n≤n'→Gl (Q (.tuple [Df r.1,.int .i64 r.2.1,.bool r.2.2.1]) ⟨Ao m i0 ([.slice 7 (List.map Ag r.2.2.2.l) false,.int .u64 r.2.2.2.now,.int .i64 r.2.2.2.id.kind,.str r.2.2.2.id.text,.str r.2.2.2.id.host,.int .i64 r.2.2.2.id.port,.slice 9 (List.map AO r.2.2.2.trace) true]),n'⟩)):ACall vE 28 args ⟨m,n⟩ Q:=
 ha▸O6.go h hi0 hQ
theorem Ur {a0 a1 a2 r} (h:Kq N a0 a1 a2=some r) (ha:args=[.slice 7 (List.map Ag a0) false,.int .u64 a1,Ap a2]) (hQ: ∀n',n≤n'→Gl (Q (.tuple [Df r.1,.int .i64 r.2]) ⟨m,n'⟩)):ACall vE 12 args ⟨m,n⟩ Q:=by
 rw[Kq]at h
 subst ha
 refine Ac5 hQ Tryz.func12 rfl Tryz.ntmps12 Tryz.results12 (.q (.r []) (.q (.q (.r []) (.c (.q (.r []) .z) .z)) (.q (.r []) (.q (.r []) .z)))) fun R hR=>?_
 replace h:=And.intro trivial h
 obtain⟨y1,h⟩:=Cu h
 simp(disch:=omega) only[vm,seval,h.1,DN,DC,C9,DF,DL,DK,DJ]
 refine⟨Ww h.1.1 (by first|(simp(disch:=omega) only[vm,seval,h.1,DN,DC,C9,DF,DL,DK,DJ];done)|rfl) fun n2 hn2=>?_⟩
 rcases Ec h with h|h
 simp(disch:=omega) only[vm,seval,h.1,DN,DC,C9,DF,DL,DK,DJ]
 refine⟨MQ (γ:=Unit) h [7,10,11,12,13,14,25,26,27,28,29,30,31,32,33,34,35,36,37,38,39,40,41,42,43,44,45,46,47,48,49,50,51,52,53,54,55,56,57] [] (fun j3 g=>[]) (fun j3 g=>(n2,[.slice 7 (List.map Ag j3.l) false,.int .u64 j3.now,.int .i64 j3.id.kind,.str j3.id.text,.str j3.id.host,.int .i64 j3.id.port,.slice 9 (List.map AO j3.trace) true])::((n+1),[.int .i64 0,.str [],.str [],.int .i64 0,.slice 4 (List.map Ap []) true,.int .i64 0,.bool false,.int .u64 0,.slice 9 (List.map AO []) true])::(n,[.int .i64 a2.kind,.str a2.text,.str a2.host,.int .i64 a2.port])::m) (.q (.r []) .z) ?_ ?_⟩<;>clear h
 rintro j3 _ n6 hnn6 _ _ h
 refine BM (.q (.r []) .z) ?_
 obtain⟨H,h⟩:=h
 cases h
 simp(disch:=omega) only[vm,seval,H,DN,DC,C9,DF,DL,DK,DJ]
 refine⟨(hR _ _ _ _ _ _ (by simp(disch:=omega) only[vm,seval,H,DN,DC,C9,DF,DL,DK,DJ];rfl) (.cons _ (.cons _ (.cons _ slr))) ?_ (by omega) ?_).1⟩<;>first|(simp(disch:=omega) only[vm,seval,H,DN,DC,C9,DF,DL,DK,DJ];done)|rfl
 intro k4 Jk4 hk4 h
 simp(disch:=omega) only[vm,seval,h.1,DN,DC,C9,DF,DL,DK,DJ]
 refine⟨AMf 4 (Rl (BM (.q (.r []) (.q (.c .z .z) (.q (.q (.r []) (.q (.r []) (.q (.q (.r []) (.c .z .z)) (.q (.q (.r []) (.c (.q (.r []) .z) .z)) (.q .z (.q (.r []) .z)))))) (.r [])))) ?_))⟩
 obtain⟨y7,h⟩:=Cu h
 simp(disch:=omega) only[vm,seval,h.1,DN,DC,C9,DF,DL,DK,DJ]
 refine⟨Oh h.1.1 (by first|(simp(disch:=omega) only[vm,seval,h.1,DN,DC,C9,DF,DL,DK,DJ];done)|rfl) (i0:=n2) (by simp(disch:=omega) only[vm,seval,h.1,DN,DC,C9,DF,DL,DK,DJ]) fun n8 hn8=>?_⟩
 rcases Ec h with h|h
 simp(disch:=omega) only[vm,seval,h.1,DN,DC,C9,DF,DL,DK,DJ]
 refine⟨Rl (BM (.q (.r []) (.q (.c .z .z) (.q (.q (.r []) (.q (.r []) (.q (.q (.r []) (.c .z .z)) (.q (.q (.r []) (.c (.q (.r []) .z) .z)) (.q .z (.q (.r []) .z)))))) (.r [])))) ?_)⟩
 obtain⟨y9,h⟩:=Cu h
 simp(disch:=omega) only[vm,seval,h.1,DN,DC,C9,DF,DL,DK,DJ]
 refine⟨NP h.1.1 (by first|(simp(disch:=omega) only[vm,seval,h.1,DN,DC,C9,DF,DL,DK,DJ];done)|rfl) (i0:=n2) (by simp(disch:=omega) only[vm,seval,h.1,DN,DC,C9,DF,DL,DK,DJ]) fun n10 hn10=>?_⟩
 rcases Ec h with h|h
 simp(disch:=omega) only[vm,seval,h.1,DN,DC,C9,DF,DL,DK,DJ]
 refine⟨Rl (BM (.q (.r []) (.q (.c .z .z) (.q (.q (.r []) (.q (.r []) (.q (.q (.r []) (.c .z .z)) (.q (.q (.r []) (.c (.q (.r []) .z) .z)) (.q .z (.q (.r []) .z)))))) (.r [])))) ?_)⟩
 obtain⟨y11,h⟩:=Cu h
 simp(disch:=omega) only[vm,seval,h.1,DN,DC,C9,DF,DL,DK,DJ]
 refine⟨O3 h.1.1 (by first|(simp(disch:=omega) only[vm,seval,h.1,DN,DC,C9,DF,DL,DK,DJ];done)|rfl) (i0:=n2) (by simp(disch:=omega) only[vm,seval,h.1,DN,DC,C9,DF,DL,DK,DJ]) fun n12 hn12=>?_⟩
 rcases Ec h with h|h
 simp(disch:=omega) only[vm,seval,h.1,DN,DC,C9,DF,DL,DK,DJ]
 refine⟨Rl (BM (.q (.r []) (.q (.c .z .z) (.q (.q (.r []) (.q (.r []) (.q (.q (.r []) (.c .z .z)) (.q (.q (.r []) (.c (.q (.r []) .z) .z)) (.q .z (.q (.r []) .z)))))) (.r [])))) ?_)⟩
 simp(disch:=omega) only[vm,seval,h.1,DN,DC,C9,DF,DL,DK,DJ]
 refine⟨hk4 y11.2.2.2 () _ _ _ _ h.2 (.cons _ (.cons _ (.cons _ slr))) ?_ ?_ ?_ (by omega)⟩<;>first|(simp(disch:=omega) only[vm,seval,h.1,DN,DC,C9,DF,DL,DK,DJ];done)|rfl
 rcases Ec h with h|h
 obtain⟨H,h⟩:=h
 cases h
 simp(disch:=omega) only[vm,seval,H,DN,DC,C9,DF,DL,DK,DJ]
 refine⟨(hR _ _ _ _ _ _ (by simp(disch:=omega) only[vm,seval,H,DN,DC,C9,DF,DL,DK,DJ];rfl) (.cons _ (.cons _ (.cons _ (.cons _ (.cons _ (.cons _ slr)))))) ?_ (by omega) ?_).1⟩<;>first|(simp(disch:=omega) only[vm,seval,H,DN,DC,C9,DF,DL,DK,DJ];done)|rfl
 simp(disch:=omega) only[vm,seval,h.1,DN,DC,C9,DF,DL,DK,DJ]
 refine⟨Jg [] (.take 0 (.take 1 (.take 2 (.take 3 (.take 4 (.take 5 (.take 6 (.alt 7 [5,4,3,2] (.take 8 (.alt 9 [] (.done) (.stop))) (.stop))))))))) HY (by kernel_rfl) ?_⟩
 obtain⟨H,h⟩:=h
 cases h
 simp(disch:=omega) only[vm,seval,H,DN,DC,C9,DF,DL,DK,DJ]
 refine⟨(hR _ _ _ _ _ _ (by simp(disch:=omega) only[vm,seval,H,DN,DC,C9,DF,DL,DK,DJ];rfl) (.cons _ (.cons _ (.cons _ (.cons _ (.cons _ (.cons _ slr)))))) ?_ (by omega) ?_).1⟩<;>first|(simp(disch:=omega) only[vm,seval,H,DN,DC,C9,DF,DL,DK,DJ];done)|rfl
 rcases Ec h with h|h
 obtain⟨H,h⟩:=h
 cases h
 simp(disch:=omega) only[vm,seval,H,DN,DC,C9,DF,DL,DK,DJ]
 refine⟨(hR _ _ _ _ _ _ (by simp(disch:=omega) only[vm,seval,H,DN,DC,C9,DF,DL,DK,DJ];rfl) (.cons _ (.cons _ (.cons _ (.cons _ (.cons _ slr))))) ?_ (by omega) ?_).1⟩<;>first|(simp(disch:=omega) only[vm,seval,H,DN,DC,C9,DF,DL,DK,DJ];done)|rfl
 simp(disch:=omega) only[vm,seval,h.1,DN,DC,C9,DF,DL,DK,DJ]
 refine⟨Jg [] (.take 0 (.take 1 (.take 2 (.take 3 (.take 4 (.take 5 (.take 6 (.alt 7 [5,4,3,2] (.take 8 (.alt 9 [] (.done) (.stop))) (.stop))))))))) HY (by kernel_rfl) ?_⟩
 obtain⟨H,h⟩:=h
 cases h
 simp(disch:=omega) only[vm,seval,H,DN,DC,C9,DF,DL,DK,DJ]
 refine⟨(hR _ _ _ _ _ _ (by simp(disch:=omega) only[vm,seval,H,DN,DC,C9,DF,DL,DK,DJ];rfl) (.cons _ (.cons _ (.cons _ (.cons _ (.cons _ slr))))) ?_ (by omega) ?_).1⟩<;>first|(simp(disch:=omega) only[vm,seval,H,DN,DC,C9,DF,DL,DK,DJ];done)|rfl
 rcases Ec h with h|h
 obtain⟨H,h⟩:=h
 cases h
 simp(disch:=omega) only[vm,seval,H,DN,DC,C9,DF,DL,DK,DJ]
 refine⟨(hR _ _ _ _ _ _ (by simp(disch:=omega) only[vm,seval,H,DN,DC,C9,DF,DL,DK,DJ];rfl) (.cons _ (.cons _ (.cons _ (.cons _ slr)))) ?_ (by omega) ?_).1⟩<;>first|(simp(disch:=omega) only[vm,seval,H,DN,DC,C9,DF,DL,DK,DJ];done)|rfl
 simp(disch:=omega) only[vm,seval,h.1,DN,DC,C9,DF,DL,DK,DJ]
 refine⟨Jg [] (.take 0 (.take 1 (.take 2 (.take 3 (.take 4 (.take 5 (.take 6 (.alt 7 [5,4,3,2] (.take 8 (.alt 9 [] (.done) (.stop))) (.stop))))))))) HY (by kernel_rfl) ?_⟩
 obtain⟨H,h⟩:=h
 cases h
 simp(disch:=omega) only[vm,seval,H,DN,DC,C9,DF,DL,DK,DJ]
 refine⟨(hR _ _ _ _ _ _ (by simp(disch:=omega) only[vm,seval,H,DN,DC,C9,DF,DL,DK,DJ];rfl) (.cons _ (.cons _ (.cons _ (.cons _ slr)))) ?_ (by omega) ?_).1⟩<;>first|(simp(disch:=omega) only[vm,seval,H,DN,DC,C9,DF,DL,DK,DJ];done)|rfl
 obtain⟨H,h⟩:=h
 cases h
 simp(disch:=omega) only[vm,seval,H,DN,DC,C9,DF,DL,DK,DJ]
 refine⟨(hR _ _ _ _ _ _ (by simp(disch:=omega) only[vm,seval,H,DN,DC,C9,DF,DL,DK,DJ];rfl) (.cons _ (.cons _ slr)) ?_ (by omega) ?_).1⟩<;>first|(simp(disch:=omega) only[vm,seval,H,DN,DC,C9,DF,DL,DK,DJ];done)|rfl
instance ATy {a0 a1 a2}:CF vE (Kq N a0 a1 a2) 12 [.slice 7 (List.map Ag a0) false,.int .u64 a1,Ap a2] (fun r=>.tuple [Df r.1,.int .i64 r.2]):=⟨fun h hQ=>Ur h rfl hQ⟩
end Go.Proofs.YtcahkpfjpeomoaaGreatDoor
