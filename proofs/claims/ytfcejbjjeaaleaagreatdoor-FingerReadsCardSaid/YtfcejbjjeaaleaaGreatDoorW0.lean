import Derived.Test.YtfcejbjjeaaleaaGreatDoorVmFacts
import Derived.Test.YtfcejbjjeaaleaaGreatDoorDefs
import Derived.Test.YtfcejbjjeaaleaaGreatDoorVM7
import Derived.Shelf.Strings.Search2
set_option linter.unusedVariables false
set_option linter.unusedSimpArgs false
set_option maxHeartbeats 4000000
set_option maxRecDepth 100000
set_option linter.defProp false
namespace Go.Proofs.YtfcejbjjeaaleaaGreatDoor
open Go.VM
attribute [local irreducible] AB grd letL
variable{N n:Nat}{m:MS}{Q:PQ}{args:List AVal}
@[reducible,instance] def AZG {a0 k2 xs s10 bn} := LR.mk (X := Gf N a0 k2 xs s10 bn) (G := λxs i (s : (List Int)) => Gf N a0 k2 xs i s) (i := s10) (s := bn) (js := [(4, 2), (11, 16)]) (cs := [10]) (V := λi s => [.int .i64 i]) (Ms := λi s => [.s (List.map (AVal.int .u8) s)]) rfl (λi s => Gf.eq_1 ..) (λx xs i s => Gf.eq_2 ..)
instance Ajx {a0}:CF vE (IP N a0) 99 [.str a0] (λr=>.str r):=AX (IP.eq_1 ..) Tryz.func99 rfl Tryz.ntmps99 Tryz.results99 [(5,[],.stop)]
instance YO {a0 a1}:CF vE (Bl N a0 a1) 133 [.str a0,.int .u8 a1] (λr=>.int .i64 r):=AX (Bl.eq_1 ..) Tryz.func133 rfl Tryz.ntmps133 Tryz.results133
def Asj:Go.Shelf.Ren:=⟨λ|217=>133|219=>212|224=>239|225=>238|266=>193|267=>240|314=>273|k=>k,λ|3=>3|4=>4|5=>5|9=>9|46=>193|51=>276|146=>277|k=>k,λ|1=>0|k=>k⟩
def AgR:Go.Proofs.Lays.n219 Tryz.prog Asj:= {mixed:=by kernel_rfl,f217:=Tryz.func133.trans (bg some (by kernel_rfl)),f219:=Tryz.func212.trans (bg some (by kernel_rfl)),f224:=Tryz.func239.trans (bg some (by kernel_rfl)),f225:=Tryz.func238.trans (bg some (by kernel_rfl)),f266:=Tryz.func193.trans (bg some (by kernel_rfl)),f267:=Tryz.func240.trans (bg some (by kernel_rfl)),f314:=Tryz.func273.trans (bg some (by kernel_rfl)),t3:=Tryz.underlying3,a3:=Tryz.isAgg3,z3:=Tryz.sizeOf3,v3:=Tryz.zeroValue3,t4:=Tryz.underlying4,a4:=Tryz.isAgg4,z4:=Tryz.sizeOf4,v4:=Tryz.zeroValue4,t5:=Tryz.underlying5,a5:=Tryz.isAgg5,z5:=Tryz.sizeOf5,v5:=Tryz.zeroValue5,t9:=Tryz.underlying9,a9:=Tryz.isAgg9,z9:=Tryz.sizeOf9,v9:=Tryz.zeroValue9,t46:=Tryz.underlying193,a46:=Tryz.isAgg193,z46:=Tryz.sizeOf193,v46:=Tryz.zeroValue193,t51:=Tryz.underlying276,a51:=Tryz.isAgg276,z51:=Tryz.sizeOf276,v51:=Tryz.zeroValue276,t146:=Tryz.underlying277,a146:=Tryz.isAgg277,z146:=Tryz.sizeOf277,v146:=Tryz.zeroValue277,g1:=by kernel_rfl}
def Amu{Γ:Ghost}{F:Nat->Nat}{w:World}{st:St}{af:List AVal}{tm:List Value} (hs:Sim vE F Γ st w af tm): ∃m,w.cell? ⟨0,0,none⟩=some (.int .i64 m):=by
 have h:=hs.glob 0 [.num .i64] rfl;cases h with
 | cptr hb hd h ho=>
  cases h with
  | cons hr ht=>
   cases hr with
   |num _ k=>
    cases ht;obtain⟨arr,e,fz,hw,⟨ds,ha⟩,_⟩:=hs.com_ok _ _ hb;refine⟨k,?_⟩;rw[ba]at hd;rw[hd]at ha;have h0:arr[0]?=some (.int .i64 k):=by rw[<-Array.getElem?_toList,ha];rfl
    simp[World.cell?,hw,h0]
def Pv {a0 a1 r} (h:Cr N a0 a1=some r) (ha:args=[.str a0,.str a1]) (hQ: ∀n',n<=n'->Gl (Q (.int .i64 r) ⟨m,n'⟩)):ACall vE 212 args ⟨m,n⟩ Q:=by
 subst ha;refine⟨λF Γ w cargs hs=>?_⟩;have hr:=hs.rep;obtain⟨l⟩:=cargs;cases hr with
 | cons h0 t=>
  cases t with
  | cons h1 t=>
   cases t;cases h0 with
   | str b0 hb0=>
    cases h1 with
    | str b1 hb1=>
     have fin:Calls vE.P 212 #[.string b0,.string b1] w (λe w'=>e=.returned (.int .i64 r)/\w'=w):=by
      rw[Cr]at h;split at h
      ·rename_i h1;obtain⟨c,hc⟩: ∃c,b1.data.toList=[c]:=by
        have h2:b1.data.toList.length=1:=by have h3:=bE.1 h1;omega
        match hb:b1.data.toList,h2 with |[c],_=>exact⟨c,rfl⟩
       have e1:b1=⟨#[c]⟩:=by obtain⟨⟨l⟩⟩:=b1;have:l=[c]:=hc;subst this;rfl
       cases h;subst e1;exact Go.Proofs.Any.stringslite_Index_one AgR b0 c w
      ·obtain⟨hl,h⟩:=ABs h;cases h;obtain⟨k,hk⟩:=Amu hs;exact Go.Proofs.Any.stringslite_Index AgR b0 b1 k w (by rw[Go.Lib.size_eq];exact hl) hk
     refine fin.mono λe w' ⟨he,hw⟩=>?_;subst hw;refine⟨_,he,Γ,.int .i64 r,⟨m,n⟩,Ext.refl _ _ _,aw _,?_,(hQ n (aw _)).go⟩;exact {hs with rep:=.cons (.int _ _) .nil,own:=by simp[ownL,own],tok:=λb=>by have:=hs.tok b;simp only[AP,cnt]at this⊢;omega}
instance AA0 {a0 a1}:CF vE (Cr N a0 a1) 212 [.str a0,.str a1] (λr=>.int .i64 r):=⟨λh hQ=>Pv h rfl hQ⟩
instance Adh {a0}:CF vE (Cw N a0) 180 [.int .u8 a0] (λr=>.bool r):=AX (Cw.eq_1 ..) Tryz.func180 rfl Tryz.ntmps180 Tryz.results180 [(1,[],.stop)]
instance Adj {a0}:CF vE (GI N a0) 192 [.int .u8 a0] (λr=>.bool r):=AX (GI.eq_1 ..) Tryz.func192 rfl Tryz.ntmps192 Tryz.results192 [(1,[],.stop)]
instance ANv {a0 a1}:CB vE (Gt N a0 a1) 76 (λi0=>[.ptr i0 0,.int .u8 a1]) (λi0=>[.slice 1 (List.map (AVal.int .u8) a0) true]) (λr=>.tuple []) (λi0 r=>[.slice 1 (List.map (AVal.int .u8) r) true]):=IB (Gt.eq_1 ..) Tryz.func76 rfl Tryz.ntmps76 Tryz.results76 [(0,[7],.take 0 (.take 1 (.take 2 (.take 4 (.take 5 (.take 6 (.take 7 (.take 8 (.take 9 (.take 10 (.alt 3 [10,9,8,7,6,5,4,1,0] (.alt 11 [9,8,7,6,5,4,2,1,0] (.take 12 (.alt 13 [] (.done) (.stop))) (.stop)) (.stop))))))))))))]
instance VX {a0}:CF vE (FV N a0) 314 [.str a0] (λr=>.tuple [.int .i32 r.1,.int .i64 r.2]):=AX (FV.eq_1 ..) Tryz.func314 rfl Tryz.ntmps314 Tryz.results314 [(14,[],.stop),(19,[],.stop),(24,[],.stop)]
@[reducible,instance] def WL {a0 k2 k s2 s4} := LF.mk (X := Bz N a0 k2 k s2 s4) (G := λk (s : Int × Nat) => Bz N a0 k2 k s.1 s.2) (s := (s2, s4)) (js := [(5, 4)]) (cs := [2, 4]) (V := λs => [.int .i64 s.1, .iter a0 s.2]) (Ms := λs => []) rfl (λs => Bz.eq_1 ..) (λk s => Bz.eq_2 ..)
instance Xi {a0}:CF vE (E8 N a0) 320 [.str a0] (λr=>.int .i64 r):=AX (E8.eq_1 ..) Tryz.func320 rfl Tryz.ntmps320 Tryz.results320
instance Ajo {a0}:CF vE (PO N a0) 214 [Qv a0] (λr=>.str r):=AX (PO.eq_1 ..) Tryz.func214 rfl Tryz.ntmps214 Tryz.results214
@[reducible,instance] def AD0 {k2 xs bn} := LQ.mk (X := CS N k2 xs bn) (G := λxs i (s : (List Bool)) => CS N k2 xs s) (s := bn) (js := [(3, 1), (5, 15)]) (cs := [4]) (V := λi s => [.int .i64 i]) (Ms := λi s => [.s (List.map AVal.bool s)]) (λ_ => rfl) (λi s => CS.eq_1 ..) (λx xs i s => CS.eq_2 ..)
instance AMQ {a0}:CF vE (strings_makeASCIISet N a0) 266 [.str a0] (λr=>.tuple [.agg (List.map AVal.bool r.1),.bool r.2]):=AX (strings_makeASCIISet.eq_1 ..) Tryz.func266 rfl Tryz.ntmps266 Tryz.results266
instance ABW {a0 a1}:CB vE (C8 N a0 a1) 297 (λi0=>[.ptr i0 0,.int .u8 a1]) (λi0=>List.map AVal.bool a0) (λr=>.bool r.1) (λi0 r=>List.map AVal.bool r.2):=IB (C8.eq_1 ..) Tryz.func297 rfl Tryz.ntmps297 Tryz.results297
instance ADg {a0}:CF vE (M7 N a0) 239 [.int .i64 a0] (λr=>.int .i64 r):=AX (M7.eq_1 ..) Tryz.func239 rfl Tryz.ntmps239 Tryz.results239
instance AD9 {a0}:CF vE (D9 N a0) 317 [.int .i32 a0] (λr=>.bool r):=AX (D9.eq_1 ..) Tryz.func317 rfl Tryz.ntmps317 Tryz.results317 [(1,[],.stop),(3,[],.stop)]
instance ABa {a0}:CF vE (strings_shouldUseASCIISet N a0) 307 [.int .i64 a0] (λr=>.bool r):=AX (strings_shouldUseASCIISet.eq_1 ..) Tryz.func307 rfl Tryz.ntmps307 Tryz.results307
@[reducible,instance] def AU2 {k2 k s0 s4 bn} := LF.mk (X := F6 N k2 k s0 s4 bn) (G := λk (s : Int × Int × (List Int)) => F6 N k2 k s.1 s.2.1 s.2.2) (s := (s0, s4, bn)) (js := [(5, 12)]) (cs := [0, 4]) (V := λs => [.int .u64 s.1, .int .i64 s.2.1]) (Ms := λs => [.s (List.map (AVal.int .u8) s.2.2)]) rfl (λs => F6.eq_1 ..) (λk s => F6.eq_2 ..)
instance Adt {a0}:CF vE (GL N a0) 134 [.int .u64 a0] (λr=>.str r):=AX (GL.eq_1 ..) Tryz.func134 rfl Tryz.ntmps134 Tryz.results134
instance Adx {a0}:CF vE (O4 N a0) 78 [FK a0] (λr=>FT r):=AX (O4.eq_1 ..) Tryz.func78 rfl Tryz.ntmps78 Tryz.results78
instance AdI {a0}:CF vE (M6 N a0) 79 [FK a0] (λr=>.str r):=AX (M6.eq_1 ..) Tryz.func79 rfl Tryz.ntmps79 Tryz.results79
instance Xa {a0 a1}:CF vE (Ba N a0 a1) 301 [.str a0,.str a1] (λr=>.bool r):=AX (Ba.eq_1 ..) Tryz.func301 rfl Tryz.ntmps301 Tryz.results301 [(1,[],.stop)]
@[reducible,instance] def TW {a0 a1 k2 k s5} := LF.mk (X := Ag N a0 a1 k2 k s5) (G := λk (s : Int) => Ag N a0 a1 k2 k s) (s := s5) (js := [(4, 1), (9, 10)]) (cs := [5]) (V := λs => [.int .i64 s]) (Ms := λs => []) rfl (λs => Ag.eq_1 ..) (λk s => Ag.eq_2 ..)
instance UH {a0 a1}:CF vE (De N a0 a1) 310 [.str a0,.int .u8 a1] (λr=>.int .i64 r):=AX (De.eq_1 ..) Tryz.func310 rfl Tryz.ntmps310 Tryz.results310
def AT4{i0:Nat} (ha:args=[.ptr i0 0]) (hi0:A9 m i0=some [.nself i0 210 2,.nbuf 5]) (hQ: ∀n',n<=n'->Gl (Q (.tuple []) ⟨CU m i0 [.ptr i0 0,.nbuf 5],n'⟩)):ACall vE 202 args ⟨m,n⟩ Q:=by subst ha;refine ACall.front hi0 λhin=>ent (λn' k=>⟨_,rfl,(hQ n' k).go⟩) Tryz.func202 rfl Tryz.ntmps202 Tryz.results202 (.q (.r []) (.c (.r []) (.q (.r []) (.c .z .z)))) λR hR=>?_;simp(disch:= omega) only[vm,seval];refine⟨AXi ?_⟩;simp(disch:= omega) only[vm,seval];refine⟨(hR _ _ _ _ _ _ (by simp(disch:= omega) only[vm,seval];rfl) slr ?_ fG ?_).2⟩<;>first| (simp(disch:= omega) only[vm,seval];done)| rfl
def AY6{k0:Nat}{i0:Nat} (h1:1<=k0) (h2:k0<=140737488355328) (hin:i0<n) (hQ: ∀j n',n<=n'->Gl (Q (.tuple []) ⟨(j,[.any])::(i0,[.ptr i0 0,.trow 5 j 0])::m,n'⟩)):ACall vE 203 [.ptr i0 0,.int .i64 k0] ⟨(i0,[.ptr i0 0,.nbuf 5])::m,n⟩ Q:=by
 have hw:wr .i64 (wr .i64 0+(k0:Int))=(k0:Int):=by rw[show wr .i64 0=0 from rfl];simp only[wr];rw[IntKind.wrap_i64];omega
 refine AeV Tryz.func203 rfl Tryz.ntmps203 Tryz.results203 (.q .z (.q (.r []) (.r []))) λR hR=>?_;simp(disch:= omega) only[vm,seval];refine⟨QD [] (.take 0 (.take 1 (.take 2 (.take 3 (.take 6 (.take 9 (.take 10 (.take 11 (.take 12 (.take 13 (.alt 4 [13,12,11,10,9,6,2,1,0] (.take 5 (.take 7 (.alt 8 [5,13,12,11,10,9,6,3,2,1,0] (.take 14 (.alt 15 [] (.done) (.stop))) (.stop)))) (.stop)))))))))))) M9 (by kernel_rfl) ?_⟩;simp(disch:= omega) only[vm,seval,hw];refine⟨AlB h1 h2 ?_⟩;simp(disch:= omega) only[vm,seval,hw];refine⟨(hR _ _ [] ((n,[.any])::(i0,[.ptr i0 0,.trow 5 n 0])::m) _ (n+1) (by first| rfl| (simp(disch:= omega) only[vm,seval];rfl)) slr fG (hQ n (n+1) fG).go).2⟩
theorem TL{n0:Int}{r:Unit}{i0:Nat} (h:Eo N n0=some r) (ha:args=[.ptr i0 0,.int .i64 n0]) (hi0:A9 m i0=some [.nself i0 210 2,.nbuf 5]) (hQ: ∀n',n<=n'->Gl (Q (.tuple []) ⟨CU m i0 [.ptr i0 0,.buf 5 [] true],n'⟩)):ACall vE 155 args ⟨m,n⟩ Q:=by unfold Eo at h;replace h:=Ll (ac trivial h);obtain⟨⟨c1,c2⟩,h⟩:=h;obtain⟨k0,rfl⟩: ∃k0:Nat,n0=(k0:Int):=⟨n0.toNat,fG⟩;clear h;subst ha;have e1:decide ((k0:Int)<0)=false:=aO fG;have e2:decide ((0:Int)<(k0:Int))=true:=aA fG;have e3:wr .i64 (0-0)=0:=rfl;have e4:wr .i64 0=0:=rfl;refine ACall.front hi0 λhin=>ACall.fuse (AeV Tryz.func155 rfl Tryz.ntmps155 Tryz.results155 (.q (.r []) (.q (.q (.r []) (.c (.r []) .z)) (.q .z (.c (.r []) .z)))) λR hR=>?_);simp(disch:= omega) only[vm,seval];refine⟨AT4 rfl (i0:=i0) (by simp(disch:= omega) only[vm,seval]) λn2 hn2=>?_⟩;simp(disch:= omega) only[vm,seval,e1];refine⟨QD [] (.take 0 (.take 1 (.take 2 (.take 3 (.take 5 (.take 6 (.take 7 (.take 8 (.take 9 (.take 11 (.alt 4 [11,9,8,7,6,5,2,1,0] (.take 10 (.take 12 (.done))) (.stop)))))))))))) M9 (by kernel_rfl) ?_⟩;simp(disch:= omega) only[vm,seval,e1,e2,e3,e4];refine⟨AY6 fG fG fG λj n3 hn3=>?_⟩;simp(disch:= omega) only[vm,seval];refine⟨(hR _ _ [] ((j,[.any])::(i0,[.ptr i0 0,.trow 5 j 0])::Ed m i0) _ n3 (by first| rfl| (simp(disch:= omega) only[vm,seval];rfl)) slr fG ⟨_,_,_,_,_,rfl,_,rfl,(hQ n3 fG).go⟩).2⟩
instance AMw {n0}:CB vE (Eo N n0) 155 (λi0=>[.ptr i0 0,.int .i64 n0]) (λi0=>[.nself i0 210 2,.nbuf 5]) (λr=>.tuple []) (λi0 r=>[.ptr i0 0,.buf 5 [] true]):=⟨λh hi hQ=>TL h rfl hi hQ⟩
instance ABH {a0}:CB vE (FE N a0) 202 (λi0=>[.ptr i0 0]) (λi0=>[Kh i0 210 2 a0.addr,.buf 5 a0.buf true]) (λr=>.tuple []) (λi0 r=>[Kh i0 210 2 r.addr,.buf 5 r.buf true]):=IB (FE.eq_1 ..) Tryz.func202 rfl Tryz.ntmps202 Tryz.results202
instance AEf {a0}:CB vE (Bv N a0) 157 (λi0=>[.ptr i0 0]) (λi0=>[Kh i0 210 2 a0.addr,.buf 5 a0.buf true]) (λr=>.str r.1) (λi0 r=>[Kh i0 210 2 r.2.addr,.buf 5 r.2.buf false]):=IB (Bv.eq_1 ..) Tryz.func157 rfl Tryz.ntmps157 Tryz.results157 [(1,[6],.take 0 (.take 1 (.take 2 (.take 5 (.take 6 (.take 7 (.take 8 (.take 9 (.alt 3 [9,8,7,6,5,1,0] (.alt 4 [9,8,7,6,5,2,1,0] (.alt 10 [8,7,6,5,2,1,0] (.alt 11 [] (.done) (.stop)) (.stop)) (.stop)) (.stop))))))))))]
instance Xf {a0 a1}:CF vE (FD N a0 a1) 287 [.str a0,.str a1] (λr=>.bool r):=AX (FD.eq_1 ..) Tryz.func287 rfl Tryz.ntmps287 Tryz.results287 [(1,[],.stop)]
instance AdR {a0}:CF vE (GK N a0) 221 [Gv a0] (λr=>.str r):=AX (GK.eq_1 ..) Tryz.func221 rfl Tryz.ntmps221 Tryz.results221
def AET {r} (h:PL N=some r) (ha:args=[]) (hQ: ∀i n',n<=i->i<n'->Gl (Q (.sh i) ⟨(i,[.map [[97,99,99,116],[109,97,105,108,116,111],[104,116,116,112,115],[100,105,100]] [.fn (.func 174) [] [],.fn (.func 175) [] [],.fn (.func 176) [] [],.fn (.func 177) [] []]])::m,n'⟩)):ACall vE 113 args ⟨m,n⟩ Q:=by rw[PL]at h;subst ha;refine AeV Tryz.func113 rfl Tryz.ntmps113 Tryz.results113 (.q (.r []) (.q (.r []) .z)) λR hR=>?_;replace h:=ac trivial h;obtain⟨H,h⟩:=h;cases h;simp(decide:=true) (disch:= omega) only[vm,seval,H,IW,Kc];refine⟨(hR _ _ [.sh n] ((n,[.map [[97,99,99,116],[109,97,105,108,116,111],[104,116,116,112,115],[100,105,100]] [.fn (.func 174) [] [],.fn (.func 175) [] [],.fn (.func 176) [] [],.fn (.func 177) [] []]])::m) _ (n+1) (by first| (simp(decide:=true) (disch:= omega) only[vm,seval,H,IW,Kc];done)| (simp(decide:=true) (disch:= omega) only[vm,seval,H,IW,Kc];rfl)) slr fG (hQ (n) (n+1) fG fG).go).1⟩
instance Akc:CN vE (PL N) 113 [] (λi=>.sh i) (λr i=>[.map [[97,99,99,116],[109,97,105,108,116,111],[104,116,116,112,115],[100,105,100]] [.fn (.func 174) [] [],.fn (.func 175) [] [],.fn (.func 176) [] [],.fn (.func 177) [] []]]):=⟨λh hQ=>AET h rfl hQ⟩
instance Aos:CF vE (Zi N) 13 [] (λr=>BF r):=AX (Zi.eq_1 ..) Tryz.func13 rfl Tryz.ntmps13 Tryz.results13
@[reducible,instance] def AWy {k s0 s3} := LF.mk (X := Eu N k s0 s3) (G := λk (s : Int × B8) => Eu N k s.1 s.2) (s := (s0, s3)) (js := [(2, 1), (4, 13)]) (cs := [0, 3]) (V := λs => [.int .u64 s.1, .str s.2]) (Ms := λs => []) rfl (λs => Eu.eq_1 ..) (λk s => Eu.eq_2 ..)
instance Ai8 {a0}:CF vE (H7 N a0) 135 [.int .u64 a0] (λr=>.str r):=AX (H7.eq_1 ..) Tryz.func135 rfl Tryz.ntmps135 Tryz.results135
instance Afv {a0}:CF vE (Pz N a0) 37 [FK a0] (λr=>FT r):=AX (Pz.eq_1 ..) Tryz.func37 rfl Tryz.ntmps37 Tryz.results37
end Go.Proofs.YtfcejbjjeaaleaaGreatDoor
