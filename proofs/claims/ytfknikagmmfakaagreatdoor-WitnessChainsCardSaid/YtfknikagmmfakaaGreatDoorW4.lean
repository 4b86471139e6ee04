import Derived.Test.YtfknikagmmfakaaGreatDoorVmFacts
import Derived.Test.YtfknikagmmfakaaGreatDoorDefs
import Derived.Test.YtfknikagmmfakaaGreatDoorVM7
set_option linter.unusedVariables false
set_option linter.unusedSimpArgs false
set_option maxHeartbeats 4000000
set_option maxRecDepth 100000
set_option linter.defProp false
namespace Go.Proofs.YtfknikagmmfakaaGreatDoor
open Go.VM
attribute [local irreducible] AA grd letL
variable{N n:Nat}{m:MS}{Q:PQ}{args:List AVal}
@[reducible, instance] def AZX {k2 xs} := LQ.mk (X := IM N k2 xs) (G := fun xs i (s : Unit) => IM N k2 xs) (s := ()) (js := [(2, 3), (8, 16)]) (cs := [7]) (V := fun i s => [.int .i64 i]) (Ms := fun i s => []) (fun _ => rfl) (fun i s => IM.eq_1 ..) (fun x xs i s => IM.eq_2 ..)
instance Ai7 {a0}:CF vE (MQ N a0) 126 [.str a0] (fun r=>.bool r):=AR (MQ.eq_1 ..) Tryz.func126 rfl Tryz.ntmps126 Tryz.results126 [(5,[],.stop)]
instance AgV {a0}:CF vE (NH N a0) 198 [.int .u8 a0] (fun r=>.bool r):=AR (NH.eq_1 ..) Tryz.func198 rfl Tryz.ntmps198 Tryz.results198 [(1,[],.stop)]
theorem AQB{i0:Nat} (ha:args=[.ptr i0 0]) (hi0:Ab m i0=some [.nself i0 274 2,.nbuf 5]) (hQ: ∀n',n≤n'→Gl (Q (.tuple []) ⟨Ak m i0 [.ptr i0 0,.nbuf 5],n'⟩)):ACall vE 293 args ⟨m,n⟩ Q:=by
 subst ha
 refine ACall.front hi0 fun hin=>ent (fun n' k=>⟨_,rfl,(hQ n' k).go⟩) Tryz.func293 rfl Tryz.ntmps293 Tryz.results293 (.q (.r []) (.c (.r []) (.q (.r []) (.c .z .z)))) fun R hR=>?_
 simp(disch:=omega) only[vm,seval]
 refine⟨ATY ?_⟩
 simp(disch:=omega) only[vm,seval]
 refine⟨(hR _ _ _ _ _ _ (by simp(disch:=omega) only[vm,seval];rfl) slr ?_ (by omega) ?_).2⟩<;>first|(simp(disch:=omega) only[vm,seval];done)|rfl
theorem AWH{k0:Nat}{i0:Nat} (h1:1≤k0) (h2:k0≤140737488355328) (hin:i0<n) (hQ: ∀j n',n≤n'→Gl (Q (.tuple []) ⟨(j,[.any])::(i0,[.ptr i0 0,.trow 5 j 0])::m,n'⟩)):ACall vE 377 [.ptr i0 0,.int .i64 k0] ⟨(i0,[.ptr i0 0,.nbuf 5])::m,n⟩ Q:=by
 have hw:wr .i64 (wr .i64 0+(k0:Int))=(k0:Int):=by rw[show wr .i64 0=0 from rfl];simp only[wr];rw[IntKind.wrap_i64];omega
 refine Ab7 Tryz.func377 rfl Tryz.ntmps377 Tryz.results377 (.q .z (.q (.r []) (.r []))) fun R hR=>?_
 simp(disch:=omega) only[vm,seval]
 refine⟨L6 [] (.take 0 (.take 1 (.take 2 (.take 3 (.take 6 (.take 9 (.take 10 (.take 11 (.take 12 (.take 13 (.alt 4 [13,12,11,10,9,6,2,1,0] (.take 5 (.take 7 (.alt 8 [5,13,12,11,10,9,6,3,2,1,0] (.take 14 (.alt 15 [] (.done) (.stop))) (.stop)))) (.stop)))))))))))) JY (by kernel_rfl) ?_⟩
 simp(disch:=omega) only[vm,seval,hw]
 refine⟨Aja h1 h2 ?_⟩
 simp(disch:=omega) only[vm,seval,hw]
 refine⟨(hR _ _ [] ((n,[.any])::(i0,[.ptr i0 0,.trow 5 n 0])::m) _ (n+1) (by first|rfl|(simp(disch:=omega) only[vm,seval];rfl)) slr (by omega) (hQ n (n+1) (by omega)).go).2⟩
theorem Ns{n0:Int}{r:Unit}{i0:Nat} (h:Fv N n0=some r) (ha:args=[.ptr i0 0,.int .i64 n0]) (hi0:Ab m i0=some [.nself i0 274 2,.nbuf 5]) (hQ: ∀n',n≤n'→Gl (Q (.tuple []) ⟨Ak m i0 [.ptr i0 0,.buf 5 [] true],n'⟩)):ACall vE 289 args ⟨m,n⟩ Q:=by
 unfold Fv at h
 replace h:=Mj (And.intro trivial h)
 obtain⟨⟨c1,c2⟩,h⟩:=h
 obtain⟨k0,rfl⟩: ∃k0:Nat,n0=(k0:Int):=⟨n0.toNat,by omega⟩
 clear h
 subst ha
 have e1:decide ((k0:Int)<0)=false:=decide_eq_false (by omega)
 have e2:decide ((0:Int)<(k0:Int))=true:=decide_eq_true (by omega)
 have e3:wr .i64 (0-0)=0:=rfl
 have e4:wr .i64 0=0:=rfl
 refine ACall.front hi0 fun hin=>ACall.fuse (Ab7 Tryz.func289 rfl Tryz.ntmps289 Tryz.results289 (.q (.r []) (.q (.q (.r []) (.c (.r []) .z)) (.q .z (.c (.r []) .z)))) fun R hR=>?_)
 simp(disch:=omega) only[vm,seval]
 refine⟨AQB rfl (i0:=i0) (by simp(disch:=omega) only[vm,seval]) fun n2 hn2=>?_⟩
 simp(disch:=omega) only[vm,seval,e1]
 refine⟨L6 [] (.take 0 (.take 1 (.take 2 (.take 3 (.take 5 (.take 6 (.take 7 (.take 8 (.take 9 (.take 11 (.alt 4 [11,9,8,7,6,5,2,1,0] (.take 10 (.take 12 (.done))) (.stop)))))))))))) JY (by kernel_rfl) ?_⟩
 simp(disch:=omega) only[vm,seval,e1,e2,e3,e4]
 refine⟨AWH (by omega) (by omega) (by omega) fun j n3 hn3=>?_⟩
 simp(disch:=omega) only[vm,seval]
 refine⟨(hR _ _ [] ((j,[.any])::(i0,[.ptr i0 0,.trow 5 j 0])::Ce m i0) _ n3 (by first|rfl|(simp(disch:=omega) only[vm,seval];rfl)) slr (by omega) ⟨_,_,_,_,_,rfl,_,rfl,(hQ n3 (by omega)).go⟩).2⟩
instance AHa {n0}:CB vE (Fv N n0) 289 (fun i0=>[.ptr i0 0,.int .i64 n0]) (fun i0=>[.nself i0 274 2,.nbuf 5]) (fun r=>.tuple []) (fun i0 r=>[.ptr i0 0,.buf 5 [] true]):=⟨fun h hi hQ=>Ns h rfl hi hQ⟩
instance AKL {a0}:CB vE (JM N a0) 202 (fun i0=>[.ptr i0 0]) (fun i0=>[F8 i0 274 2 a0.addr,.buf 5 a0.buf true]) (fun r=>.int .i64 r.1) (fun i0 r=>[F8 i0 274 2 r.2.addr,.buf 5 r.2.buf true]):=D9 (JM.eq_1 ..) Tryz.func202 rfl Tryz.ntmps202 Tryz.results202
instance ATL {a0}:CF vE (Jf N a0) 59 [Aj a0] (fun r=>Ay r):=AR (Jf.eq_1 ..) Tryz.func59 rfl Tryz.ntmps59 Tryz.results59
instance AKG {a0 a1}:CB vE (JN N a0 a1) 329 (fun i0=>[.ptr i0 0,.int .i64 a1]) (fun i0=>[.str a0.did.method,.str a0.did.iD,.int .i64 a0.e]) (fun r=>.tuple []) (fun i0 r=>[.str r.did.method,.str r.did.iD,.int .i64 r.e]):=D9 (JN.eq_1 ..) Tryz.func329 rfl Tryz.ntmps329 Tryz.results329
@[reducible, instance] def AV7 {a0 a1 k2 xs s11} := LR.mk (X := GI N a0 a1 k2 xs s11) (G := fun xs i (s : Unit) => GI N a0 a1 k2 xs i) (i := s11) (s := ()) (js := [(5, 3), (12, 25)]) (cs := [11]) (V := fun i s => [.int .i64 i]) (Ms := fun i s => []) rfl (fun i s => GI.eq_1 ..) (fun x xs i s => GI.eq_2 ..)
instance Afh {a0 a1}:CF vE (Js N a0 a1) 234 [AB a0,.str a1] (fun r=>.tuple [AB r.1,.bool r.2]):=AR (Js.eq_1 ..) Tryz.func234 rfl Tryz.ntmps234 Tryz.results234 [(4,[],.stop)] true
@[reducible, instance] def Sz {a1 k2 xs s8_0} := LR.mk (X := Bg N a1 k2 xs s8_0) (G := fun xs i (s : Unit) => Bg N a1 k2 xs i) (i := s8_0) (s := ()) (js := [(4, 2), (9, 10)]) (cs := [8]) (V := fun i s => [.int .i64 i]) (Ms := fun i s => []) rfl (fun i s => Bg.eq_1 ..) (fun x xs i s => Bg.eq_2 ..)
instance Ur {a0 a1}:CF vE (Ex N a0 a1) 134 [.slice 4 (List.map Aj a0) false,Aj a1] (fun r=>.int .i64 r):=AR (Ex.eq_1 ..) Tryz.func134 rfl Tryz.ntmps134 Tryz.results134 [(4,[],.take 0 (.take 1 (.take 2 (.take 3 (.take 4 (.take 5 (.done)))))))]
instance Aga {a0}:CF vE (QE N a0) 387 [.int .u8 a0] (fun r=>.bool r):=AR (QE.eq_1 ..) Tryz.func387 rfl Tryz.ntmps387 Tryz.results387 [(1,[],.stop)]
instance Tp {a0}:CF vE (KV N a0) 477 [.int .i64 a0] (fun r=>.bool r):=AR (KV.eq_1 ..) Tryz.func477 rfl Tryz.ntmps477 Tryz.results477 [(1,[],.stop)]
theorem UB {a0 r} (h:KV N a0=some r) (ha:args=[.int .i64 a0]) (hQ: ∀n',n≤n'→Gl (Q (.bool r) ⟨m,n'⟩)):ACall vE 477 args ⟨m,n⟩ Q:=
 ha▸Tp.go h hQ
instance U2 {a0}:CF vE (JR N a0) 439 [Cm a0] (fun r=>.bool r):=AR (JR.eq_1 ..) Tryz.func439 rfl Tryz.ntmps439 Tryz.results439 [(6,[],.stop)]
theorem Um {a0 r} (h:JR N a0=some r) (ha:args=[Cm a0]) (hQ: ∀n',n≤n'→Gl (Q (.bool r) ⟨m,n'⟩)):ACall vE 439 args ⟨m,n⟩ Q:=
 ha▸U2.go h hQ
@[reducible, instance] def Wj {a1 k2 k s0} := LF.mk (X := Ci N a1 k2 k s0) (G := fun k (s : (List UInt8)) => Ci N a1 k2 k s) (s := s0) (js := [(5, 11)]) (cs := [0]) (V := fun s => [.str s]) (Ms := fun s => []) rfl (fun s => Ci.eq_1 ..) (fun k s => Ci.eq_2 ..)
instance AD2 {a0 a1}:CF vE (strings_trimLeftByte N a0 a1) 470 [.str a0,.int .u8 a1] (fun r=>.str r):=AR (strings_trimLeftByte.eq_1 ..) Tryz.func470 rfl Tryz.ntmps470 Tryz.results470 [(1,[],.stop)]
@[reducible, instance] def Vj {a1 k2 k s0} := LF.mk (X := Cc N a1 k2 k s0) (G := fun k (s : (List UInt8)) => Cc N a1 k2 k s) (s := s0) (js := [(5, 17)]) (cs := [0]) (V := fun s => [.str s]) (Ms := fun s => []) rfl (fun s => Cc.eq_1 ..) (fun k s => Cc.eq_2 ..)
instance Yd {a0 a1}:CF vE (strings_trimRightByte N a0 a1) 473 [.str a0,.int .u8 a1] (fun r=>.str r):=AR (strings_trimRightByte.eq_1 ..) Tryz.func473 rfl Tryz.ntmps473 Tryz.results473 [(1,[],.stop)]
instance XT {a0}:CF vE (Ha N a0) 480 [.int .u8 a0] (fun r=>.bool r):=AR (Ha.eq_1 ..) Tryz.func480 rfl Tryz.ntmps480 Tryz.results480
instance ARA {a0 a1}:CB vE (GJ N a0 a1) 304 (fun i0=>[.ptr i0 0,AB a1]) (fun i0=>[.int .i64 a0.e]) (fun r=>.str r.1) (fun i0 r=>[.int .i64 r.2.e]):=D9 (GJ.eq_1 ..) Tryz.func304 rfl Tryz.ntmps304 Tryz.results304
instance Ajy {a0}:CF vE (Te N a0) 394 [AB a0] (fun r=>.int .i64 r):=AR (Te.eq_1 ..) Tryz.func394 rfl Tryz.ntmps394 Tryz.results394
@[reducible, instance] def Afg {a1 k2 xs s5} := LQ.mk (X := Ju N a1 k2 xs s5) (G := fun xs i (s : (List ApiLink)) => Ju N a1 k2 xs s) (s := s5) (js := [(7, 1), (12, 20)]) (cs := [5, 11]) (V := fun i s => [.slice 6 (List.map BS s) true, .int .i64 i]) (Ms := fun i s => []) (fun _ => rfl) (fun i s => Ju.eq_1 ..) (fun x xs i s => Ju.eq_2 ..)
instance AlU {a0 a1}:CF vE (SL N a0 a1) 307 [GZ a0,.str a1] (fun r=>.slice 6 (List.map BS r) false):=AR (SL.eq_1 ..) Tryz.func307 rfl Tryz.ntmps307 Tryz.results307 [(8,[27],.done)]
instance AKE {a0}:CB vE (Bj N a0) 310 (fun i0=>[.ptr i0 0]) (fun i0=>[.str a0.s,.int .i64 a0.at_]) (fun r=>.bool r.1) (fun i0 r=>[.str r.2.s,.int .i64 r.2.at_]):=D9 (Bj.eq_1 ..) Tryz.func310 rfl Tryz.ntmps310 Tryz.results310 [(1,[],.take 0 (.take 1 (.take 2 (.take 3 (.take 4 (.take 5 (.take 6 (.take 7 (.take 8 (.take 9 (.alt 10 [] (.done) (.stop))))))))))))]
instance YU {a0}:CF vE (Hd N a0) 397 [.int .u8 a0] (fun r=>.bool r):=AR (Hd.eq_1 ..) Tryz.func397 rfl Tryz.ntmps397 Tryz.results397 [(1,[],.stop)]
instance AZx {a0}:CF vE (Nc N a0) 219 [.int .i64 a0] (fun r=>.int .i64 r):=AR (Nc.eq_1 ..) Tryz.func219 rfl Tryz.ntmps219 Tryz.results219
instance Aix {a0 a1}:CF vE (Qv N a0 a1) 321 [.int .u64 a0,.int .u64 a1] (fun r=>.int .u64 r):=AR (Qv.eq_1 ..) Tryz.func321 rfl Tryz.ntmps321 Tryz.results321
instance Alj {a0}:CF vE (R4 N a0) 12 [A7 a0] (fun r=>.bool r):=AR (R4.eq_1 ..) Tryz.func12 rfl Tryz.ntmps12 Tryz.results12
@[reducible, instance] def AK4 {a1 k2 xs s13} := LR.mk (X := CX N a1 k2 xs s13) (G := fun xs i (s : Unit) => CX N a1 k2 xs i) (i := s13) (s := ()) (js := [(4, 2), (14, 12)]) (cs := [13]) (V := fun i s => [.int .i64 i]) (Ms := fun i s => []) rfl (fun i s => CX.eq_1 ..) (fun x xs i s => CX.eq_2 ..)
instance ATV {a0 a1}:CF vE (Hf N a0 a1) 8 [.slice 9 (List.map AL a0) false,.slice 9 (List.map AL a1) false] (fun r=>.bool r):=AR (Hf.eq_1 ..) Tryz.func8 rfl Tryz.ntmps8 Tryz.results8 [(6,[],.take 0 (.take 1 (.take 2 (.take 3 (.take 4 (.take 5 (.take 6 (.take 7 (.take 8 (.done))))))))))]
end Go.Proofs.YtfknikagmmfakaaGreatDoor
