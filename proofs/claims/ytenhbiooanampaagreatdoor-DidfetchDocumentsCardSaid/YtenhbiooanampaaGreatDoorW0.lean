import Derived.Test.YtenhbiooanampaaGreatDoorVmFacts
import Derived.Test.YtenhbiooanampaaGreatDoorDefs
import Derived.Test.YtenhbiooanampaaGreatDoorVM7
import Derived.Shelf.Strings.Search2
set_option linter.unusedVariables false
set_option linter.unusedSimpArgs false
set_option maxHeartbeats 4000000
set_option maxRecDepth 100000
set_option linter.defProp false
namespace Go.Proofs.YtenhbiooanampaaGreatDoor
open Go.VM Tryz
attribute [local irreducible] AA grd letL
variable{N n:Nat}{m:MS}{Q:PQ}{args:List AVal}
abbrev Aek {a0 k2 xs s10 bn}:=lr (λxs i (s:(List Int))=>Gp N a0 k2 xs i s) xs s10 bn [(4,2),(11,16)] [10] (λi s=>Gp.eq_1 ..) (λx xs i s=>Gp.eq_2 ..) (Ms:=λi s=>[.s (List.map (AVal.int .u8) s)])
abbrev AVm {k2 k s0 s4 bn}:=lf (λk (s:Int×Int×(List Int))=>Ew N k2 k s.1 s.2.1 s.2.2) k (s0,s4,bn) [(5,12)] [0,4] (λs=>[.int .u64 s.1,.int .i64 s.2.1]) (λs=>Ew.eq_1 ..) (λk s=>Ew.eq_2 ..) (Ms:=λs=>[.s (List.map (AVal.int .u8) s.2.2)]) (X:=Ew N k2 k s0 s4 bn)
abbrev AC4 {a1 k2 k s0}:=lf (λk (s:B8)=>Ey N a1 k2 k s) k s0 [(5,11)] [0] (λs=>[.str s]) (λs=>Ey.eq_1 ..) (λk s=>Ey.eq_2 ..)
abbrev AC3 {k2 xs bn}:=lq (λxs i (s:(List Bool))=>Cb N k2 xs s) xs bn [(3,1),(5,15)] [4] (λi s=>Cb.eq_1 ..) (λx xs i s=>Cb.eq_2 ..) (Ms:=λi s=>[.s (List.map AVal.bool s)])
abbrev ABT {a1 k2 k s0}:=lf (λk (s:B8)=>Eh N a1 k2 k s) k s0 [(5,17)] [0] (λs=>[.str s]) (λs=>Eh.eq_1 ..) (λk s=>Eh.eq_2 ..)
abbrev V5 {a0 k2 k s2 s4}:=lf (λk (s:Int×Nat)=>Bl N a0 k2 k s.1 s.2) k (s2,s4) [(5,4)] [2,4] (λs=>[.int .i64 s.1,.iter a0 s.2]) (λs=>Bl.eq_1 ..) (λk s=>Bl.eq_2 ..) (X:=Bl N a0 k2 k s2 s4)
abbrev AbM {a0 a1 k2 xs s11}:=lr (λxs i (s:Unit)=>LM N a0 a1 k2 xs i) xs s11 () [(5,3),(12,25)] [11] (λi s=>LM.eq_1 ..) (λx xs i s=>LM.eq_2 ..)
attribute [instance] Aek AVm AC4 AC3 ABT V5 AbM
instance ApH {a0}:CF vE (FI N a0) 109 [.str a0] (λr=>.str r):=AQ (FI.eq_1 ..) func109 rfl ntmps109 results109 [(5,[],.stop)]
instance AA5 {a0}:CB vE (GJ N a0) 242 (λi0=>[.ptr i0 0]) (λi0=>[Gs i0 234 2 a0.addr,.buf 5 a0.buf true]) (λr=>.tuple []) (λi0 r=>[Gs i0 234 2 r.addr,.buf 5 r.buf true]):=Fb (GJ.eq_1 ..) func242 rfl ntmps242 results242
instance AEJ {a0}:CB vE (BG N a0) 166 (λi0=>[.ptr i0 0]) (λi0=>[Gs i0 234 2 a0.addr,.buf 5 a0.buf true]) (λr=>.str r.1) (λi0 r=>[Gs i0 234 2 r.2.addr,.buf 5 r.2.buf false]):=Fb (BG.eq_1 ..) func166 rfl ntmps166 results166 [(1,[6],.tk 0 3 (.tk 5 5 (.al 3 [(9,5),(1,2)] (.al 4 [(9,5),(2,3)] (.al 10 [(8,4),(2,3)] (.al 11 [] .done))))))]
def AX2{i0:Nat} (ha:args=[.ptr i0 0]) (hi0:Ag m i0=some [.nself i0 234 2,.nbuf 5]) (hQ: ∀n',n<=n'->Gl (Q (.tuple []) ⟨A7 m i0 [.ptr i0 0,.nbuf 5],n'⟩)):ACall vE 242 args ⟨m,n⟩ Q:=by subst ha;refine ACall.front hi0 λhin=>ent (λn' k=>⟨_,rfl,(hQ n' k).go⟩) func242 rfl ntmps242 results242 (.q (.r []) (.c (.r []) (.q (.r []) (.c .z .z)))) λR hR=>?_;simp(disch:=omega) only[vm,seval];refine⟨AZW ?_⟩;simp(disch:=omega) only[vm,seval];refine⟨(hR _ _ _ _ _ _ (by simp(disch:=omega) only[vm,seval];rfl) slr ?_ fH ?_).2⟩<;>first|(simp(disch:=omega) only[vm,seval];done)|rfl
def Acp{k0:Nat}{i0:Nat} (h1:1<=k0) (h2:k0<=140737488355328) (hin:i0<n) (hQ: ∀j n',n<=n'->Gl (Q (.tuple []) ⟨(j,[.any])::(i0,[.ptr i0 0,.trow 5 j 0])::m,n'⟩)):ACall vE 273 [.ptr i0 0,.int .i64 k0] ⟨(i0,[.ptr i0 0,.nbuf 5])::m,n⟩ Q:=by
 have hw:wr .i64 (wr .i64 0+(k0:Int))=(k0:Int):=by rw[show wr .i64 0=0 from rfl];simp only[wr];rw[IntKind.wrap_i64];omega
 refine Aji func273 rfl ntmps273 results273 (.q .z (.q (.r []) (.r []))) λR hR=>?_;simp(disch:=omega) only[vm,seval];refine⟨QQ [] (.take 0 (.take 1 (.take 2 (.take 3 (.take 6 (.take 9 (.take 10 (.take 11 (.take 12 (.take 13 (.alt 4 [13,12,11,10,9,6,2,1,0] (.take 5 (.take 7 (.alt 8 [5,13,12,11,10,9,6,3,2,1,0] (.take 14 (.alt 15 [] (.done) (.stop))) (.stop)))) (.stop)))))))))))) M0 (by kernel_rfl) ?_⟩;simp(disch:=omega) only[vm,seval,hw];refine⟨Asn h1 h2 ?_⟩;simp(disch:=omega) only[vm,seval,hw];refine⟨(hR _ _ [] ((n,[.any])::(i0,[.ptr i0 0,.trow 5 n 0])::m) _ (n+1) (by first|rfl|(simp(disch:=omega) only[vm,seval];rfl)) slr fH (hQ n (n+1) fH).go).2⟩
theorem TH{n0:Int}{r:Unit}{i0:Nat} (h:D9 N n0=some r) (ha:args=[.ptr i0 0,.int .i64 n0]) (hi0:Ag m i0=some [.nself i0 234 2,.nbuf 5]) (hQ: ∀n',n<=n'->Gl (Q (.tuple []) ⟨A7 m i0 [.ptr i0 0,.buf 5 [] true],n'⟩)):ACall vE 195 args ⟨m,n⟩ Q:=by unfold D9 at h;replace h:=Nk (ac trivial h);obtain⟨⟨c1,c2⟩,h⟩:=h;obtain⟨k0,rfl⟩: ∃k0:Nat,n0=(k0:Int):=⟨n0.toNat,fH⟩;clear h;subst ha;have e1:decide ((k0:Int)<0)=false:=aJ fH;have e2:decide ((0:Int)<(k0:Int))=true:=aE fH;have e3:wr .i64 (0-0)=0:=rfl;have e4:wr .i64 0=0:=rfl;refine ACall.front hi0 λhin=>ACall.fuse (Aji func195 rfl ntmps195 results195 (.q (.r []) (.q (.q (.r []) (.c (.r []) .z)) (.q .z (.c (.r []) .z)))) λR hR=>?_);simp(disch:=omega) only[vm,seval];refine⟨AX2 rfl (i0:=i0) (by simp(disch:=omega) only[vm,seval]) λn2 hn2=>?_⟩;simp(disch:=omega) only[vm,seval,e1];refine⟨QQ [] (.take 0 (.take 1 (.take 2 (.take 3 (.take 5 (.take 6 (.take 7 (.take 8 (.take 9 (.take 11 (.alt 4 [11,9,8,7,6,5,2,1,0] (.take 10 (.take 12 (.done))) (.stop)))))))))))) M0 (by kernel_rfl) ?_⟩;simp(disch:=omega) only[vm,seval,e1,e2,e3,e4];refine⟨Acp fH fH fH λj n3 hn3=>?_⟩;simp(disch:=omega) only[vm,seval];refine⟨(hR _ _ [] ((j,[.any])::(i0,[.ptr i0 0,.trow 5 j 0])::Dm m i0) _ n3 (by first|rfl|(simp(disch:=omega) only[vm,seval];rfl)) slr fH ⟨_,_,_,_,_,rfl,_,rfl,(hQ n3 fH).go⟩).2⟩
instance AHA {n0}:CB vE (D9 N n0) 195 (λi0=>[.ptr i0 0,.int .i64 n0]) (λi0=>[.nself i0 234 2,.nbuf 5]) (λr=>.tuple []) (λi0 r=>[.ptr i0 0,.buf 5 [] true]):=⟨λh hi hQ=>TH h rfl hi hQ⟩
instance APU {a0}:CB vE (Fh N a0) 112 (λi0=>[.ptr i0 0]) (λi0=>[.str a0.s,.int .i64 a0.at_]) (λr=>.bool r.1) (λi0 r=>[.str r.2.s,.int .i64 r.2.at_]):=Fb (Fh.eq_1 ..) func112 rfl ntmps112 results112 [(1,[],.tk 0 10 (.al 10 [] .done))]
instance Agi {a0}:CF vE (Cq N a0) 278 [.int .u8 a0] (λr=>.bool r):=AQ (Cq.eq_1 ..) func278 rfl ntmps278 results278 [(1,[],.stop)]
instance Agq {a0}:CF vE (Gf N a0) 280 [.int .u8 a0] (λr=>.bool r):=AQ (Gf.eq_1 ..) func280 rfl ntmps280 results280 [(1,[],.stop)]
instance YX {a0 a1}:CF vE (EF N a0 a1) 314 [.str a0,.int .u8 a1] (λr=>.int .i64 r):=AQ (EF.eq_1 ..) func314 rfl ntmps314 results314
instance ADC {a0}:CF vE (KG N a0) 198 [.int .u8 a0] (λr=>.bool r):=AQ (KG.eq_1 ..) func198 rfl ntmps198 results198 [(1,[],.stop)]
instance AoV {a0}:CF vE (Un N a0) 202 [.int .u8 a0] (λr=>.bool r):=AQ (Un.eq_1 ..) func202 rfl ntmps202 results202 [(1,[],.stop)]
instance ZP {a0}:CF vE (Od N a0) 406 [.int .i64 a0] (λr=>.bool r):=AQ (Od.eq_1 ..) func406 rfl ntmps406 results406 [(1,[],.stop)]
def Y1 {a0 r} (h:Od N a0=some r) (ha:args=[.int .i64 a0]) (hQ: ∀n',n<=n'->Gl (Q (.bool r) ⟨m,n'⟩)):ACall vE 406 args ⟨m,n⟩ Q:=ha▸ZP.go h hQ
instance AAX {a0}:CF vE (Mm N a0) 282 [Dz a0] (λr=>.bool r):=AQ (Mm.eq_1 ..) func282 rfl ntmps282 results282 [(6,[],.stop)]
def AAk {a0 r} (h:Mm N a0=some r) (ha:args=[Dz a0]) (hQ: ∀n',n<=n'->Gl (Q (.bool r) ⟨m,n'⟩)):ACall vE 282 args ⟨m,n⟩ Q:=ha▸AAX.go h hQ
def AxQ:Go.Shelf.Ren:=⟨λ|217=>314|219=>304|224=>357|225=>356|266=>363|267=>358|314=>396|k=>k,λ|3=>3|4=>4|5=>5|9=>9|46=>333|51=>377|146=>378|k=>k,λ|1=>0|k=>k⟩
def AiY:Go.Proofs.Lays.n219 Tryz.prog AxQ:= {mixed:=by kernel_rfl,f217:=func314.trans (br some (by kernel_rfl)),f219:=func304.trans (br some (by kernel_rfl)),f224:=func357.trans (br some (by kernel_rfl)),f225:=func356.trans (br some (by kernel_rfl)),f266:=func363.trans (br some (by kernel_rfl)),f267:=func358.trans (br some (by kernel_rfl)),f314:=func396.trans (br some (by kernel_rfl)),t3:=Tryz.underlying3,a3:=Tryz.isAgg3,z3:=Tryz.sizeOf3,v3:=Tryz.zeroValue3,t4:=Tryz.underlying4,a4:=Tryz.isAgg4,z4:=Tryz.sizeOf4,v4:=Tryz.zeroValue4,t5:=Tryz.underlying5,a5:=Tryz.isAgg5,z5:=Tryz.sizeOf5,v5:=Tryz.zeroValue5,t9:=Tryz.underlying9,a9:=Tryz.isAgg9,z9:=Tryz.sizeOf9,v9:=Tryz.zeroValue9,t46:=Tryz.underlying333,a46:=Tryz.isAgg333,z46:=Tryz.sizeOf333,v46:=Tryz.zeroValue333,t51:=Tryz.underlying377,a51:=Tryz.isAgg377,z51:=Tryz.sizeOf377,v51:=Tryz.zeroValue377,t146:=Tryz.underlying378,a146:=Tryz.isAgg378,z146:=Tryz.sizeOf378,v146:=Tryz.zeroValue378,g1:=by kernel_rfl}
def Apm{O:Ghost}{F:Nat->Nat}{w:World}{st:St}{af:List AVal}{tm:List Value} (hs:Sim vE F O st w af tm): ∃m,w.cell? ⟨0,0,none⟩=some (.int .i64 m):=by
 have h:=hs.glob 0 [.num .i64] rfl;cases h with
 | cptr hb hd h ho=>
  cases h with
  | cons hr ht=>
   cases hr with
   |num _ k=>
    cases ht;obtain⟨arr,e,fz,hw,⟨ds,ha⟩,_⟩:=hs.com_ok _ _ hb;refine⟨k,?_⟩;rw[aO]at hd;rw[hd]at ha;have h0:arr[0]?=some (.int .i64 k):=by rw[<-fq,ha];rfl
    simp[World.cell?,hw,h0]
def QD {a0 a1 r} (h:BF N a0 a1=some r) (ha:args=[.str a0,.str a1]) (hQ: ∀n',n<=n'->Gl (Q (.int .i64 r) ⟨m,n'⟩)):ACall vE 304 args ⟨m,n⟩ Q:=by
 subst ha;refine⟨λF O w cargs hs=>?_⟩;have hr:=hs.rep;obtain⟨l⟩:=cargs;cases hr with
 | cons h0 t=>
  cases t with
  | cons h1 t=>
   cases t;cases h0 with
   | str b0 hb0=>
    cases h1 with
    | str b1 hb1=>
     have fin:Calls vE.P 304 #[.string b0,.string b1] w (λe w'=>e=.returned (.int .i64 r)/\w'=w):=by
      rw[BF]at h;split at h
      ·rename_i h1;obtain⟨c,hc⟩: ∃c,b1.data.toList=[c]:=by
        have h2:b1.data.toList.length=1:=by have h3:=bf.1 h1;omega
        match hb:b1.data.toList,h2 with|[c],_=>exact⟨c,rfl⟩
       have e1:b1=⟨#[c]⟩:=by obtain⟨⟨l⟩⟩:=b1;have:l=[c]:=hc;subst this;rfl
       cases h;subst e1;exact Go.Proofs.Any.stringslite_Index_one AiY b0 c w
      ·obtain⟨hl,h⟩:=ABg h;cases h;obtain⟨k,hk⟩:=Apm hs;exact Go.Proofs.Any.stringslite_Index AiY b0 b1 k w (by rw[Go.Lib.size_eq];exact hl) hk
     refine fin.mono λe w' ⟨he,hw⟩=>?_;subst hw;refine⟨_,he,O,.int .i64 r,⟨m,n⟩,Ext.refl _ _ _,av _,?_,(hQ n (av _)).go⟩;exact {hs with rep:=.cons (.int _ _) .nil,own:=by simp[ownL,own],tok:=λb=>by have:=hs.tok b;simp only[AP,cnt]at this⊢;omega}
instance AAM {a0 a1}:CF vE (BF N a0 a1) 304 [.str a0,.str a1] (λr=>.int .i64 r):=⟨λh hQ=>QD h rfl hQ⟩
instance AhZ {a0}:CF vE (FT N a0) 246 [.int .u64 a0] (λr=>.str r):=AQ (FT.eq_1 ..) func246 rfl ntmps246 results246
instance AJS {a0 a1}:CF vE (strings_trimLeftByte N a0 a1) 383 [.str a0,.int .u8 a1] (λr=>.str r):=AQ (strings_trimLeftByte.eq_1 ..) func383 rfl ntmps383 results383 [(1,[],.stop)]
instance AIp {a0}:CF vE (strings_makeASCIISet N a0) 384 [.str a0] (λr=>.tuple [.agg (List.map AVal.bool r.1),.bool r.2]):=AQ (strings_makeASCIISet.eq_1 ..) func384 rfl ntmps384 results384
instance AAs {a0 a1}:CB vE (EN N a0 a1) 401 (λi0=>[.ptr i0 0,.int .u8 a1]) (λi0=>List.map AVal.bool a0) (λr=>.bool r.1) (λi0 r=>List.map AVal.bool r.2):=Fb (EN.eq_1 ..) func401 rfl ntmps401 results401
instance VG {a0}:CF vE (Ee N a0) 362 [.str a0] (λr=>.tuple [.int .i32 r.1,.int .i64 r.2]):=AQ (Ee.eq_1 ..) func362 rfl ntmps362 results362 [(14,[],.stop),(19,[],.stop),(24,[],.stop)]
instance ACu {a0}:CF vE (Mx N a0) 357 [.int .i64 a0] (λr=>.int .i64 r):=AQ (Mx.eq_1 ..) func357 rfl ntmps357 results357
instance ADk {a0}:CF vE (Ch N a0) 413 [.int .i32 a0] (λr=>.bool r):=AQ (Ch.eq_1 ..) func413 rfl ntmps413 results413 [(1,[],.stop),(3,[],.stop)]
instance AE0 {a0 a1}:CF vE (strings_trimRightByte N a0 a1) 387 [.str a0,.int .u8 a1] (λr=>.str r):=AQ (strings_trimRightByte.eq_1 ..) func387 rfl ntmps387 results387 [(1,[],.stop)]
instance Xx {a0 a1}:CF vE (Bf N a0 a1) 347 [.str a0,.str a1] (λr=>.bool r):=AQ (Bf.eq_1 ..) func347 rfl ntmps347 results347 [(1,[],.stop)]
instance Ags {a0}:CF vE (Cn N a0) 45 [CL a0] (λr=>.str r):=AQ (Cn.eq_1 ..) func45 rfl ntmps45 results45
instance APY {a0 a1}:CB vE (Fj N a0 a1) 245 (λi0=>[.ptr i0 0,.int .u8 a1]) (λi0=>[.slice 1 (List.map (AVal.int .u8) a0) true]) (λr=>.tuple []) (λi0 r=>[.slice 1 (List.map (AVal.int .u8) r) true]):=Fb (Fj.eq_1 ..) func245 rfl ntmps245 results245 [(0,[7],.tk 0 3 (.tk 4 7 (.al 3 [(10,7),(1,2)] (.al 11 [(9,6),(2,3)] (.take 12 (.al 13 [] .done))))))]
instance YP {a0}:CF vE (EG N a0) 310 [.str a0] (λr=>.int .i64 r):=AQ (EG.eq_1 ..) func310 rfl ntmps310 results310
instance XP {a0 a1}:CF vE (EI N a0 a1) 290 [.str a0,.str a1] (λr=>.bool r):=AQ (EI.eq_1 ..) func290 rfl ntmps290 results290 [(1,[],.stop)]
instance APW {a0 a1}:CB vE (Fp N a0 a1) 212 (λi0=>[.ptr i0 0,.int .i64 a1]) (λi0=>[.str a0.did.method,.str a0.did.iD,.int .i64 a0.e]) (λr=>.tuple []) (λi0 r=>[.str r.did.method,.str r.did.iD,.int .i64 r.e]):=Fb (Fp.eq_1 ..) func212 rfl ntmps212 results212
instance Ao3 {a0 a1}:CF vE (Lu N a0 a1) 121 [AC a0,.str a1] (λr=>.tuple [AC r.1,.bool r.2]):=AQ (Lu.eq_1 ..) func121 rfl ntmps121 results121 [(4,[],.stop)] true
end Go.Proofs.YtenhbiooanampaaGreatDoor
