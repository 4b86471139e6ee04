import Derived.Test.YtjmejdocgdbklaaGreatDoorVmFacts
import Derived.Test.YtjmejdocgdbklaaGreatDoorDefs
import Derived.Test.YtjmejdocgdbklaaGreatDoorVM7
import Derived.Test.YtjmejdocgdbklaaGreatDoorVM5
set_option linter.unusedVariables false
set_option linter.unusedSimpArgs false
set_option maxHeartbeats 4000000
set_option maxRecDepth 100000
set_option linter.defProp false
namespace Go.Proofs.YtjmejdocgdbklaaGreatDoor
open Go.VM
attribute [local irreducible] AB grd letL
variable{N n:Nat}{m:MS}{Q:PQ}{args:List AVal}
@[reducible,instance] def AYp {a0 k2 xs s10 bn} := LR.mk (X := Gd N a0 k2 xs s10 bn) (G := λxs i (s : (List Int)) => Gd N a0 k2 xs i s) (i := s10) (s := bn) (js := [(4, 2), (11, 16)]) (cs := [10]) (V := λi s => [.int .i64 i]) (Ms := λi s => [.s (List.map (AVal.int .u8) s)]) rfl (λi s => Gd.eq_1 ..) (λx xs i s => Gd.eq_2 ..)
instance Ahi {a0}:CF vE (IX N a0) 50 [.str a0] (λr=>.str r):=AZ (IX.eq_1 ..) Tryz.func50 rfl Tryz.ntmps50 Tryz.results50 [(5,[],.stop)]
def AS9{i0:Nat} (ha:args=[.ptr i0 0]) (hi0:A9 m i0=some [.nself i0 155 2,.nbuf 5]) (hQ: ∀n',n<=n'->Gl (Q (.tuple []) ⟨Bz m i0 [.ptr i0 0,.nbuf 5],n'⟩)):ACall vE 147 args ⟨m,n⟩ Q:=by subst ha;refine ACall.front hi0 λhin=>ent (λn' k=>⟨_,rfl,(hQ n' k).go⟩) Tryz.func147 rfl Tryz.ntmps147 Tryz.results147 (.q (.r []) (.c (.r []) (.q (.r []) (.c .z .z)))) λR hR=>?_;simp(disch:= omega) only[vm,seval];refine⟨AVY ?_⟩;simp(disch:= omega) only[vm,seval];refine⟨(hR _ _ _ _ _ _ (by simp(disch:= omega) only[vm,seval];rfl) slr ?_ fy ?_).2⟩<;>first| (simp(disch:= omega) only[vm,seval];done)| rfl
def AWg{k0:Nat}{i0:Nat} (h1:1<=k0) (h2:k0<=140737488355328) (hin:i0<n) (hQ: ∀j n',n<=n'->Gl (Q (.tuple []) ⟨(j,[.any])::(i0,[.ptr i0 0,.trow 5 j 0])::m,n'⟩)):ACall vE 148 [.ptr i0 0,.int .i64 k0] ⟨(i0,[.ptr i0 0,.nbuf 5])::m,n⟩ Q:=by
 have hw:wr .i64 (wr .i64 0+(k0:Int))=(k0:Int):=by rw[show wr .i64 0=0 from rfl];simp only[wr];rw[IntKind.wrap_i64];omega
 refine Ac9 Tryz.func148 rfl Tryz.ntmps148 Tryz.results148 (.q .z (.q (.r []) (.r []))) λR hR=>?_;simp(disch:= omega) only[vm,seval];refine⟨PV [] (.take 0 (.take 1 (.take 2 (.take 3 (.take 6 (.take 9 (.take 10 (.take 11 (.take 12 (.take 13 (.alt 4 [13,12,11,10,9,6,2,1,0] (.take 5 (.take 7 (.alt 8 [5,13,12,11,10,9,6,3,2,1,0] (.take 14 (.alt 15 [] (.done) (.stop))) (.stop)))) (.stop)))))))))))) MZ (by kernel_rfl) ?_⟩;simp(disch:= omega) only[vm,seval,hw];refine⟨AkR h1 h2 ?_⟩;simp(disch:= omega) only[vm,seval,hw];refine⟨(hR _ _ [] ((n,[.any])::(i0,[.ptr i0 0,.trow 5 n 0])::m) _ (n+1) (by first| rfl| (simp(disch:= omega) only[vm,seval];rfl)) slr fy (hQ n (n+1) fy).go).2⟩
theorem Rs{n0:Int}{r:Unit}{i0:Nat} (h:Eg N n0=some r) (ha:args=[.ptr i0 0,.int .i64 n0]) (hi0:A9 m i0=some [.nself i0 155 2,.nbuf 5]) (hQ: ∀n',n<=n'->Gl (Q (.tuple []) ⟨Bz m i0 [.ptr i0 0,.buf 5 [] true],n'⟩)):ACall vE 96 args ⟨m,n⟩ Q:=by unfold Eg at h;replace h:=LV (ac trivial h);obtain⟨⟨c1,c2⟩,h⟩:=h;obtain⟨k0,rfl⟩: ∃k0:Nat,n0=(k0:Int):=⟨n0.toNat,fy⟩;clear h;subst ha;have e1:decide ((k0:Int)<0)=false:=aO fy;have e2:decide ((0:Int)<(k0:Int))=true:=aA fy;have e3:wr .i64 (0-0)=0:=rfl;have e4:wr .i64 0=0:=rfl;refine ACall.front hi0 λhin=>ACall.fuse (Ac9 Tryz.func96 rfl Tryz.ntmps96 Tryz.results96 (.q (.r []) (.q (.q (.r []) (.c (.r []) .z)) (.q .z (.c (.r []) .z)))) λR hR=>?_);simp(disch:= omega) only[vm,seval];refine⟨AS9 rfl (i0:=i0) (by simp(disch:= omega) only[vm,seval]) λn2 hn2=>?_⟩;simp(disch:= omega) only[vm,seval,e1];refine⟨PV [] (.take 0 (.take 1 (.take 2 (.take 3 (.take 5 (.take 6 (.take 7 (.take 8 (.take 9 (.take 11 (.alt 4 [11,9,8,7,6,5,2,1,0] (.take 10 (.take 12 (.done))) (.stop)))))))))))) MZ (by kernel_rfl) ?_⟩;simp(disch:= omega) only[vm,seval,e1,e2,e3,e4];refine⟨AWg fy fy fy λj n3 hn3=>?_⟩;simp(disch:= omega) only[vm,seval];refine⟨(hR _ _ [] ((j,[.any])::(i0,[.ptr i0 0,.trow 5 j 0])::EP m i0) _ n3 (by first| rfl| (simp(disch:= omega) only[vm,seval];rfl)) slr fy ⟨_,_,_,_,_,rfl,_,rfl,(hQ n3 fy).go⟩).2⟩
instance AKr {n0}:CB vE (Eg N n0) 96 (λi0=>[.ptr i0 0,.int .i64 n0]) (λi0=>[.nself i0 155 2,.nbuf 5]) (λr=>.tuple []) (λi0 r=>[.ptr i0 0,.buf 5 [] true]):=⟨λh hi hQ=>Rs h rfl hi hQ⟩
instance AAF {a0}:CB vE (E5 N a0) 147 (λi0=>[.ptr i0 0]) (λi0=>[KI i0 155 2 a0.addr,.buf 5 a0.buf true]) (λr=>.tuple []) (λi0 r=>[KI i0 155 2 r.addr,.buf 5 r.buf true]):=G5 (E5.eq_1 ..) Tryz.func147 rfl Tryz.ntmps147 Tryz.results147
instance ADn {a0}:CB vE (Bl N a0) 98 (λi0=>[.ptr i0 0]) (λi0=>[KI i0 155 2 a0.addr,.buf 5 a0.buf true]) (λr=>.str r.1) (λi0 r=>[KI i0 155 2 r.2.addr,.buf 5 r.2.buf false]):=G5 (Bl.eq_1 ..) Tryz.func98 rfl Tryz.ntmps98 Tryz.results98 [(1,[6],.take 0 (.take 1 (.take 2 (.take 5 (.take 6 (.take 7 (.take 8 (.take 9 (.alt 3 [9,8,7,6,5,1,0] (.alt 4 [9,8,7,6,5,2,1,0] (.alt 10 [8,7,6,5,2,1,0] (.alt 11 [] (.done) (.stop)) (.stop)) (.stop)) (.stop))))))))))]
instance AL5 {a0}:CB vE (Au N a0) 53 (λi0=>[.ptr i0 0]) (λi0=>[.str a0.s,.int .i64 a0.at_]) (λr=>.bool r.1) (λi0 r=>[.str r.2.s,.int .i64 r.2.at_]):=G5 (Au.eq_1 ..) Tryz.func53 rfl Tryz.ntmps53 Tryz.results53 [(1,[],.take 0 (.take 1 (.take 2 (.take 3 (.take 4 (.take 5 (.take 6 (.take 7 (.take 8 (.take 9 (.alt 10 [] (.done) (.stop))))))))))))]
instance AbM {a0}:CF vE (Cu N a0) 154 [.int .u8 a0] (λr=>.bool r):=AZ (Cu.eq_1 ..) Tryz.func154 rfl Tryz.ntmps154 Tryz.results154 [(1,[],.stop)]
instance Aap {a0}:CF vE (F9 N a0) 156 [.int .u8 a0] (λr=>.bool r):=AZ (F9.eq_1 ..) Tryz.func156 rfl Tryz.ntmps156 Tryz.results156 [(1,[],.stop)]
instance Xi {a0 a1}:CF vE (Bf N a0 a1) 196 [.str a0,.int .u8 a1] (λr=>.int .i64 r):=AZ (Bf.eq_1 ..) Tryz.func196 rfl Tryz.ntmps196 Tryz.results196
instance ADV {a0}:CF vE (GJ N a0) 101 [.int .u8 a0] (λr=>.bool r):=AZ (GJ.eq_1 ..) Tryz.func101 rfl Tryz.ntmps101 Tryz.results101 [(1,[],.stop)]
instance AVM {a0}:CF vE (KW N a0) 151 [.int .u8 a0] (λr=>.bool r):=AZ (KW.eq_1 ..) Tryz.func151 rfl Tryz.ntmps151 Tryz.results151 [(1,[],.stop)]
instance AhX {a0}:CF vE (Ot N a0) 105 [.int .u8 a0] (λr=>.bool r):=AZ (Ot.eq_1 ..) Tryz.func105 rfl Tryz.ntmps105 Tryz.results105 [(1,[],.stop)]
instance Yp {a0}:CF vE (Hw N a0) 262 [.int .i64 a0] (λr=>.bool r):=AZ (Hw.eq_1 ..) Tryz.func262 rfl Tryz.ntmps262 Tryz.results262 [(1,[],.stop)]
def RO {a0 r} (h:Hw N a0=some r) (ha:args=[.int .i64 a0]) (hQ: ∀n',n<=n'->Gl (Q (.bool r) ⟨m,n'⟩)):ACall vE 262 args ⟨m,n⟩ Q:=ha▸Yp.go h hQ
instance ARU {a0}:CB vE (K3 N a0) 229 (λi0=>[.ptr i0 0]) (λi0=>[.str a0.s,.int .i64 a0.at_]) (λr=>.int .u8 r.1) (λi0 r=>[.str r.2.s,.int .i64 r.2.at_]):=G5 (K3.eq_1 ..) Tryz.func229 rfl Tryz.ntmps229 Tryz.results229 [(1,[],.take 0 (.take 1 (.take 2 (.take 3 (.take 4 (.take 5 (.take 6 (.take 7 (.take 8 (.take 9 (.done))))))))))),(2,[],.take 0 (.take 1 (.take 2 (.take 3 (.take 4 (.take 5 (.take 6 (.take 7 (.take 8 (.alt 9 [] (.done) (.stop)))))))))))]
instance Zq {a0}:CF vE (MQ N a0) 158 [Eb a0] (λr=>.bool r):=AZ (MQ.eq_1 ..) Tryz.func158 rfl Tryz.ntmps158 Tryz.results158 [(6,[],.stop)]
def Z5 {a0 r} (h:MQ N a0=some r) (ha:args=[Eb a0]) (hQ: ∀n',n<=n'->Gl (Q (.bool r) ⟨m,n'⟩)):ACall vE 158 args ⟨m,n⟩ Q:=ha▸Zq.go h hQ
end Go.Proofs.YtjmejdocgdbklaaGreatDoor
