import Derived.Test.YtjgdhjpafjpjgaaGreatDoorVmFacts
import Derived.Test.YtjgdhjpafjpjgaaGreatDoorDefs
import Derived.Test.YtjgdhjpafjpjgaaGreatDoorVM7
import Derived.Test.YtjgdhjpafjpjgaaGreatDoorVM5
set_option linter.unusedVariables false
set_option linter.unusedSimpArgs false
set_option maxHeartbeats 4000000
set_option maxRecDepth 100000
set_option linter.defProp false
namespace Go.Proofs.YtjgdhjpafjpjgaaGreatDoor
open Go.VM
attribute [local irreducible] AA grd letL
variable{N n:Nat}{m:MS}{Q:PQ}{args:List AVal}
@[instance_reducible, instance] def APE {a0 a1 k2 xs s14} := LR.mk (X := Dw N a0 a1 k2 xs s14) (G := fun xs i (s : Unit) => Dw N a0 a1 k2 xs i) (i := s14) (s := ()) (js := [(5, 2), (15, 22)]) (cs := [14]) (V := fun i s => [.int .i64 i]) (Ms := fun i s => []) rfl (fun i s => Dw.eq_1 ..) (fun x xs i s => Dw.eq_2 ..)
instance AEI {a0 a1}:CF vE (Fq N a0 a1) 147 [AC a0,.str a1] (fun r=>.tuple [AC r.1,.bool r.2]):=mkF (Fq.eq_1 ..) Tryz.func147 rfl Tryz.ntmps147 Tryz.results147 [(6,[],.stop)] true fun r n m R hR h hD=>tW
theorem SQ {a0 a1 r} (h:Fq N a0 a1=some r) (ha:args=[AC a0,.str a1]) (hQ: ∀n',n≤n'→Gl (Q (.tuple [AC r.1,.bool r.2]) ⟨m,n'⟩)):ACall vE 147 args ⟨m,n⟩ Q:=
 ha▸AEI.go h hQ
@[instance_reducible, instance] def AJP {k2 k s0 s4 bn} := LF.mk (X := EJ N k2 k s0 s4 bn) (G := fun k (s : Int × Int × (List Int)) => EJ N k2 k s.1 s.2.1 s.2.2) (s := (s0, s4, bn)) (js := [(5, 12)]) (cs := [0, 4]) (V := fun s => [.int .u64 s.1, .int .i64 s.2.1]) (Ms := fun s => [.s (List.map (AVal.int .u8) s.2.2)]) rfl (fun s => EJ.eq_1 ..) (fun k s => EJ.eq_2 ..)
instance AOZ {a0}:CF vE (Gv N a0) 135 [.int .u64 a0] (fun r=>.str r):=mkF (Gv.eq_1 ..) Tryz.func135 rfl Tryz.ntmps135 Tryz.results135 [] false fun r n m R hR h hD=>tW
instance AOm {a0}:CF vE (KO N a0) 81 [Em a0] (fun r=>Fb r):=mkF (KO.eq_1 ..) Tryz.func81 rfl Tryz.ntmps81 Tryz.results81 [] false fun r n m R hR h hD=>tW
instance AOx {a0}:CF vE (Ie N a0) 82 [Em a0] (fun r=>.str r):=mkF (Ie.eq_1 ..) Tryz.func82 rfl Tryz.ntmps82 Tryz.results82 [] false fun r n m R hR h hD=>tW
instance Sm {a0}:CF vE (Ez N a0) 51 [GM a0] (fun r=>.str r):=mkF (Ez.eq_1 ..) Tryz.func51 rfl Tryz.ntmps51 Tryz.results51 [] false fun r n m R hR h hD=>tW
theorem TB {a0 r} (h:Ez N a0=some r) (ha:args=[GM a0]) (hQ: ∀n',n≤n'→Gl (Q (.str r) ⟨m,n'⟩)):ACall vE 51 args ⟨m,n⟩ Q:=
 ha▸Sm.go h hQ
instance Qz {a0 a1}:CF vE (BG N a0 a1) 211 [.str a0,.str a1] (fun r=>.bool r):=mkF (BG.eq_1 ..) Tryz.func211 rfl Tryz.ntmps211 Tryz.results211 [(1,[],.stop)] false fun r n m R hR h hD=>tW
instance AOj {a0}:CF vE (F7 N a0) 191 [.int .u8 a0] (fun r=>.bool r):=mkF (F7.eq_1 ..) Tryz.func191 rfl Tryz.ntmps191 Tryz.results191 [(1,[],.stop)] false fun r n m R hR h hD=>tW
instance ACg {a0 a1}:CB vE (FH N a0 a1) 79 (fun i0=>[.ptr i0 0,.int .u8 a1]) (fun i0=>[.slice 1 (List.map (AVal.int .u8) a0) true]) (fun r=>.tuple []) (fun i0 r=>[.slice 1 (List.map (AVal.int .u8) r) true]):=mkB (FH.eq_1 ..) Tryz.func79 rfl Tryz.ntmps79 Tryz.results79 [(0,[7],.take 0 (.take 1 (.take 2 (.take 4 (.take 5 (.take 6 (.take 7 (.take 8 (.take 9 (.take 10 (.alt 3 [10,9,8,7,6,5,4,1,0] (.alt 11 [9,8,7,6,5,4,2,1,0] (.take 12 (.alt 13 [] (.done) (.stop))) (.stop)) (.stop))))))))))))] false fun r n i m R hin hR h hD=>tW
theorem K4 {a0 r}{i0:Nat} (h:Df N a0=some r) (ha:args=[.ptr i0 0]) (hi0:Bd m i0=some ([Fj i0 196 2 a0.addr,.buf 5 a0.buf true])) (hQ: ∀n',n≤n'→Gl (Q (.tuple []) ⟨Bl m i0 ([Fj i0 196 2 r.addr,.buf 5 r.buf true]),n'⟩)):ACall vE 214 args ⟨m,n⟩ Q:=by
 rw[Df]at h
 subst ha
 refine ACall.front hi0 fun hin=>ent (fun n' k=>⟨_,rfl,(hQ n' k).go⟩) Tryz.func214 rfl Tryz.ntmps214 Tryz.results214 (.q (.r []) (.c (.r []) (.q (.r []) (.c .z .z)))) fun R hR=>?_
 replace h:=And.intro trivial h
 rcases D9 h with h|h
 obtain⟨H,h⟩:=h
 cases h
 simp(disch:=omega) only[vm,seval,H]
 refine⟨(hR _ _ _ _ _ _ (by simp(disch:=omega) only[vm,seval,H];rfl) slr ?_ (by omega) ?_).2⟩<;>first|(simp(disch:=omega) only[vm,seval,H];done)|rfl
 simp(disch:=omega) only[vm,seval,h.1]
 refine⟨AJ2 ?_⟩
 obtain⟨H,h⟩:=h
 cases h
 simp(disch:=omega) only[vm,seval,H]
 refine⟨(hR _ _ _ _ _ _ (by simp(disch:=omega) only[vm,seval,H];rfl) slr ?_ (by omega) ?_).2⟩<;>first|(simp(disch:=omega) only[vm,seval,H];done)|rfl
instance TN {a0}:CB vE (Df N a0) 214 (fun i0=>[.ptr i0 0]) (fun i0=>[Fj i0 196 2 a0.addr,.buf 5 a0.buf true]) (fun r=>.tuple []) (fun i0 r=>[Fj i0 196 2 r.addr,.buf 5 r.buf true]):=⟨fun h hi hQ=>K4 h rfl hi hQ⟩
instance MZ {a0}:CB vE (CX N a0) 170 (fun i0=>[.ptr i0 0]) (fun i0=>[Fj i0 196 2 a0.addr,.buf 5 a0.buf true]) (fun r=>.str r.1) (fun i0 r=>[Fj i0 196 2 r.2.addr,.buf 5 r.2.buf false]):=mkB (CX.eq_1 ..) Tryz.func170 rfl Tryz.ntmps170 Tryz.results170 [(1,[6],.take 0 (.take 1 (.take 2 (.take 5 (.take 6 (.take 7 (.take 8 (.take 9 (.alt 3 [9,8,7,6,5,1,0] (.alt 4 [9,8,7,6,5,2,1,0] (.alt 10 [8,7,6,5,2,1,0] (.alt 11 [] (.done) (.stop)) (.stop)) (.stop)) (.stop))))))))))] false fun r n i m R hin hR h hD=>tW
theorem ML {a0 r}{i0:Nat} (h:CX N a0=some r) (ha:args=[.ptr i0 0]) (hi0:Bd m i0=some ([Fj i0 196 2 a0.addr,.buf 5 a0.buf true])) (hQ: ∀n',n≤n'→Gl (Q (.str r.1) ⟨Bl m i0 ([Fj i0 196 2 r.2.addr,.buf 5 r.2.buf false]),n'⟩)):ACall vE 170 args ⟨m,n⟩ Q:=
 ha▸MZ.go h hi0 hQ
@[instance_reducible, instance] def PO {a0 k2 k s2 s4} := LF.mk (X := BL N a0 k2 k s2 s4) (G := fun k (s : Int × Nat) => BL N a0 k2 k s.1 s.2) (s := (s2, s4)) (js := [(5, 4)]) (cs := [2, 4]) (V := fun s => [.int .i64 s.1, .iter a0 s.2]) (Ms := fun s => []) rfl (fun s => BL.eq_1 ..) (fun k s => BL.eq_2 ..)
instance Jy {a0}:CF vE (CU N a0) 259 [.str a0] (fun r=>.int .i64 r):=mkF (CU.eq_1 ..) Tryz.func259 rfl Tryz.ntmps259 Tryz.results259 [] false fun r n m R hR h hD=>tW
theorem Ju {a0 r} (h:CU N a0=some r) (ha:args=[.str a0]) (hQ: ∀n',n≤n'→Gl (Q (.int .i64 r) ⟨m,n'⟩)):ACall vE 259 args ⟨m,n⟩ Q:=
 ha▸Jy.go h hQ
theorem AJb{i0:Nat} (ha:args=[.ptr i0 0]) (hi0:Bd m i0=some [.nself i0 196 2,.nbuf 5]) (hQ: ∀n',n≤n'→Gl (Q (.tuple []) ⟨Bl m i0 [.ptr i0 0,.nbuf 5],n'⟩)):ACall vE 214 args ⟨m,n⟩ Q:=by
 subst ha
 refine ACall.front hi0 fun hin=>ent (fun n' k=>⟨_,rfl,(hQ n' k).go⟩) Tryz.func214 rfl Tryz.ntmps214 Tryz.results214 (.q (.r []) (.c (.r []) (.q (.r []) (.c .z .z)))) fun R hR=>?_
 simp(disch:=omega) only[vm,seval]
 refine⟨AJ2 ?_⟩
 simp(disch:=omega) only[vm,seval]
 refine⟨(hR _ _ _ _ _ _ (by simp(disch:=omega) only[vm,seval];rfl) slr ?_ (by omega) ?_).2⟩<;>first|(simp(disch:=omega) only[vm,seval];done)|rfl
theorem ANR{k0:Nat}{i0:Nat} (h1:1≤k0) (h2:k0≤140737488355328) (hin:i0<n) (hQ: ∀j n',n≤n'→Gl (Q (.tuple []) ⟨(j,[.any])::(i0,[.ptr i0 0,.trow 5 j 0])::m,n'⟩)):ACall vE 261 [.ptr i0 0,.int .i64 k0] ⟨(i0,[.ptr i0 0,.nbuf 5])::m,n⟩ Q:=by
 have hw:wr .i64 (wr .i64 0+(k0:Int))=(k0:Int):=by rw[show wr .i64 0=0 from rfl];simp only[wr];rw[IntKind.wrap_i64];omega
 refine AX3 Tryz.func261 rfl Tryz.ntmps261 Tryz.results261 (.q .z (.q (.r []) (.r []))) fun R hR=>?_
 simp(disch:=omega) only[vm,seval]
 refine⟨Ji [] (.take 0 (.take 1 (.take 2 (.take 3 (.take 6 (.take 9 (.take 10 (.take 11 (.take 12 (.take 13 (.alt 4 [13,12,11,10,9,6,2,1,0] (.take 5 (.take 7 (.alt 8 [5,13,12,11,10,9,6,3,2,1,0] (.take 14 (.alt 15 [] (.done) (.stop))) (.stop)))) (.stop)))))))))))) Gh (by kernel_rfl) ?_⟩
 simp(disch:=omega) only[vm,seval,hw]
 refine⟨AVN h1 h2 ?_⟩
 simp(disch:=omega) only[vm,seval,hw]
 refine⟨(hR _ _ [] ((n,[.any])::(i0,[.ptr i0 0,.trow 5 n 0])::m) _ (n+1) (by first|rfl|(simp(disch:=omega) only[vm,seval];rfl)) slr (by omega) (hQ n (n+1) (by omega)).go).2⟩
theorem NM{n0:Int}{r:Unit}{i0:Nat} (h:Fw N n0=some r) (ha:args=[.ptr i0 0,.int .i64 n0]) (hi0:Bd m i0=some [.nself i0 196 2,.nbuf 5]) (hQ: ∀n',n≤n'→Gl (Q (.tuple []) ⟨Bl m i0 [.ptr i0 0,.buf 5 [] true],n'⟩)):ACall vE 249 args ⟨m,n⟩ Q:=by
 unfold Fw at h
 replace h:=GJ (And.intro trivial h)
 obtain⟨⟨c1,c2⟩,h⟩:=h
 obtain⟨k0,rfl⟩: ∃k0:Nat,n0=(k0:Int):=⟨n0.toNat,by omega⟩
 clear h
 subst ha
 have e1:decide ((k0:Int)<0)=false:=decide_eq_false (by omega)
 have e2:decide ((0:Int)<(k0:Int))=true:=decide_eq_true (by omega)
 have e3:wr .i64 (0-0)=0:=rfl
 have e4:wr .i64 0=0:=rfl
 refine ACall.front hi0 fun hin=>ACall.fuse (AX3 Tryz.func249 rfl Tryz.ntmps249 Tryz.results249 (.q (.r []) (.q (.q (.r []) (.c (.r []) .z)) (.q .z (.c (.r []) .z)))) fun R hR=>?_)
 simp(disch:=omega) only[vm,seval]
 refine⟨AJb rfl (i0:=i0) (by simp(disch:=omega) only[vm,seval]) fun n2 hn2=>?_⟩
 simp(disch:=omega) only[vm,seval,e1]
 refine⟨Ji [] (.take 0 (.take 1 (.take 2 (.take 3 (.take 5 (.take 6 (.take 7 (.take 8 (.take 9 (.take 11 (.alt 4 [11,9,8,7,6,5,2,1,0] (.take 10 (.take 12 (.done))) (.stop)))))))))))) Gh (by kernel_rfl) ?_⟩
 simp(disch:=omega) only[vm,seval,e1,e2,e3,e4]
 refine⟨ANR (by omega) (by omega) (by omega) fun j n3 hn3=>?_⟩
 simp(disch:=omega) only[vm,seval]
 refine⟨(hR _ _ [] ((j,[.any])::(i0,[.ptr i0 0,.trow 5 j 0])::Eh m i0) _ n3 (by first|rfl|(simp(disch:=omega) only[vm,seval];rfl)) slr (by omega) ⟨_,_,_,_,_,rfl,_,rfl,(hQ n3 (by omega)).go⟩).2⟩
instance Oh {a0}:CF vE (Dr N a0) 262 [.str a0] (fun r=>.tuple [.int .i32 r.1,.int .i64 r.2]):=mkF (Dr.eq_1 ..) Tryz.func262 rfl Tryz.ntmps262 Tryz.results262 [(14,[],.stop),(19,[],.stop),(24,[],.stop)] false fun r n m R hR h hD=>tW
instance QJ {a0 a1}:CF vE (Db N a0 a1) 202 [.str a0,.str a1] (fun r=>.bool r):=mkF (Db.eq_1 ..) Tryz.func202 rfl Tryz.ntmps202 Tryz.results202 [(1,[],.stop)] false fun r n m R hR h hD=>tW
end Go.Proofs.YtjgdhjpafjpjgaaGreatDoor
