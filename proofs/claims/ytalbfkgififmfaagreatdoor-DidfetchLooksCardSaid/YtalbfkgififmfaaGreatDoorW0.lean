import Derived.Test.YtalbfkgififmfaaGreatDoorVmFacts
import Derived.Test.YtalbfkgififmfaaGreatDoorDefs
import Derived.Test.YtalbfkgififmfaaGreatDoorVM7
import Derived.Shelf.Strings.Search2
set_option linter.unusedVariables false
set_option linter.unusedSimpArgs false
set_option maxHeartbeats 4000000
set_option maxRecDepth 100000
set_option linter.defProp false
namespace Go.Proofs.YtalbfkgififmfaaGreatDoor
open Go.VM Tryz
attribute [local irreducible] AA grd letL
variable{N n:Nat}{m:MS}{Q:PQ}{args:List AVal}
abbrev XU {a e k b d}:=lf (λk (s:Int×Nat)=>Bq N a e k s.1 s.2) k (b,d) [(5,4)] [2,4] (λs=>[.int .i64 s.1,.iter a s.2]) (λs=>Bq.eq_1 ..) (λk s=>Bq.eq_2 ..) (X:=Bq N a e k b d)
abbrev Aeh {b d f a e}:=lr (λa i (s:Unit)=>Me N b d f a i) a e () [(5,3),(12,25)] [11] (λi s=>Me.eq_1 ..) (λx a i s=>Me.eq_2 ..)
abbrev AgG {b d a e f}:=lr (λa i (s:(List Int))=>HV N b d a i s) a e f [(4,2),(11,16)] [10] (λi s=>HV.eq_1 ..) (λx a i s=>HV.eq_2 ..) (Ms:=λi s=>[.s (List.map (AVal.int .u8) s)])
abbrev AaP {a k e b d}:=lf (λk (s:Int×Int×(List Int))=>FJ N a k s.1 s.2.1 s.2.2) k (e,b,d) [(5,12)] [0,4] (λs=>[.int .u64 s.1,.int .i64 s.2.1]) (λs=>FJ.eq_1 ..) (λk s=>FJ.eq_2 ..) (Ms:=λs=>[.s (List.map (AVal.int .u8) s.2.2)]) (X:=FJ N a k e b d)
abbrev AER {a e k b}:=lf (λk (s:B8)=>FW N a e k s) k b [(5,11)] [0] (λs=>[.str s]) (λs=>FW.eq_1 ..) (λk s=>FW.eq_2 ..)
abbrev AEQ {e a b}:=lq (λa i (s:(List Bool))=>Ce N e a s) a b [(3,1),(5,15)] [4] (λi s=>Ce.eq_1 ..) (λx a i s=>Ce.eq_2 ..) (Ms:=λi s=>[.s (List.map AVal.bool s)])
abbrev AD2 {a e k b}:=lf (λk (s:B8)=>Eu N a e k s) k b [(5,17)] [0] (λs=>[.str s]) (λs=>Eu.eq_1 ..) (λk s=>Eu.eq_2 ..)
attribute [instance] XU Aeh AgG AaP AER AEQ AD2
instance Zh {a e}:CF vE (Bi N a e) 246 [.str a,.str e] .bool:=AO (Bi.eq_1 ..) func246 [(1,[],.stop)]
instance Yx {a e}:CF vE (ET N a e) 311 [.str a,.int .u8 e] (.int .i64):=AO (ET.eq_1 ..) func311
def A2q:Go.Shelf.Ren:=⟨λ|217=>311|219=>247|224=>313|225=>312|266=>364|267=>314|314=>365|k=>k,λ|3=>3|4=>4|5=>5|9=>9|46=>340|51=>363|146=>364|k=>k,λ|1=>0|k=>k⟩
def Ane:Go.Proofs.Lays.n219 Tryz.prog A2q:= {mixed:=by kernel_rfl,f217:=func311.trans (br some (by kernel_rfl)),f219:=func247.trans (br some (by kernel_rfl)),f224:=func313.trans (br some (by kernel_rfl)),f225:=func312.trans (br some (by kernel_rfl)),f266:=func364.trans (br some (by kernel_rfl)),f267:=func314.trans (br some (by kernel_rfl)),f314:=func365.trans (br some (by kernel_rfl)),t3:=Tryz.underlying3,a3:=Tryz.isAgg3,z3:=Tryz.sizeOf3,v3:=Tryz.zeroValue3,t4:=Tryz.underlying4,a4:=Tryz.isAgg4,z4:=Tryz.sizeOf4,v4:=Tryz.zeroValue4,t5:=Tryz.underlying5,a5:=Tryz.isAgg5,z5:=Tryz.sizeOf5,v5:=Tryz.zeroValue5,t9:=Tryz.underlying9,a9:=Tryz.isAgg9,z9:=Tryz.sizeOf9,v9:=Tryz.zeroValue9,t46:=Tryz.underlying340,a46:=Tryz.isAgg340,z46:=Tryz.sizeOf340,v46:=Tryz.zeroValue340,t51:=Tryz.underlying363,a51:=Tryz.isAgg363,z51:=Tryz.sizeOf363,v51:=Tryz.zeroValue363,t146:=Tryz.underlying364,a146:=Tryz.isAgg364,z146:=Tryz.sizeOf364,v146:=Tryz.zeroValue364,g1:=by kernel_rfl}
def AvL{O:At}{F:Nat->Nat}{w:World}{st:St}{af:List AVal}{tm:List Value} (hs:Sim vE F O st w af tm): ∃m,w.cell? ⟨0,0,none⟩=some (.int .i64 m):=by
 have h:=hs.glob 0 [.num .i64] rfl;cases h with
 | cptr hb hd h ho=>
  cases h with
  | cons hr ht=>
   cases hr with
   |num _ k=>
    cases ht;obtain⟨arr,e,fz,hw,⟨ds,ha⟩,_⟩:=hs.com_ok _ _ hb;refine⟨k,?_⟩;rw[aN]at hd;rw[hd]at ha;have h0:arr[0]?=some (.int .i64 k):=by rw[<-fx,ha];rfl
    simp[World.cell?,hw,h0]
def RA {a0 a1 r} (h:BH N a0 a1=some r) (ha:args=[.str a0,.str a1]) (hQ: ∀n',n<=n'->Gl (Q (.int .i64 r) ⟨m,n'⟩)):AE vE 247 args ⟨m,n⟩ Q:=by
 subst ha;refine⟨λF O w cargs hs=>?_⟩;have hr:=hs.rep;obtain⟨l⟩:=cargs;cases hr with
 | cons h0 t=>
  cases t with
  | cons h1 t=>
   cases t;cases h0 with
   | str b0 hb0=>
    cases h1 with
    | str b1 hb1=>
     have fin:Calls vE.P 247 #[.string b0,.string b1] w (λe w'=>e=.returned (.int .i64 r)/\w'=w):=by
      rw[BH]at h;split at h
      ·rename_i h1;obtain⟨c,hc⟩: ∃c,b1.data.toList=[c]:=by
        have h2:b1.data.toList.length=1:=by have h3:=be.1 h1;omega
        match hb:b1.data.toList,h2 with|[c],_=>exact⟨c,rfl⟩
       have e1:b1=⟨#[c]⟩:=by obtain⟨⟨l⟩⟩:=b1;have:l=[c]:=hc;subst this;rfl
       cases h;subst e1;exact Go.Proofs.Any.stringslite_Index_one Ane b0 c w
      ·obtain⟨hl,h⟩:=ADY h;cases h;obtain⟨k,hk⟩:=AvL hs;exact Go.Proofs.Any.stringslite_Index Ane b0 b1 k w (by rw[Go.Lib.size_eq];exact hl) hk
     refine fin.mono λe w' ⟨he,hw⟩=>?_;subst hw;refine⟨_,he,O,.int .i64 r,⟨m,n⟩,Ext.refl _ _ _,av _,?_,(hQ n (av _)).go⟩;exact {hs with rep:=.cons (.int _ _) .nil,own:=by simp[ownL,own],tok:=λb=>by have:=hs.tok b;simp only[AR,cnt]at this⊢;omega}
instance AB8 {a e}:CF vE (BH N a e) 247 [.str a,.str e] (.int .i64):=⟨λh hQ=>RA h rfl hQ⟩
instance Aj4 {a}:CF vE (Cf N a) 177 [.int .u8 a] .bool:=AO (Cf.eq_1 ..) func177 [(1,[],.stop)]
instance AjP {a}:CF vE (Fq N a) 293 [.int .u8 a] .bool:=AO (Fq.eq_1 ..) func293 [(1,[],.stop)]
instance ARX {e b}:CB vE (GA N e b) 250 (λa=>[.ptr a 0,.int .u8 b]) (λa=>[.slice 1 (List.map (AVal.int .u8) e) true]) (λr=>.tuple []) (λa r=>[.slice 1 (List.map (AVal.int .u8) r) true]):=Fh (GA.eq_1 ..) func250 [(0,[7],.tk 0 3 (.tk 4 7 (.al 3 [(10,7),(1,2)] (.al 11 [(9,6),(2,3)] (.take 12 (.al 13 [] .done))))))]
def AZK{i0:Nat} (ha:args=[.ptr i0 0]) (hi0:Aj m i0=some [.nself i0 274 2,.nbuf 5]) (hQ: ∀n',n<=n'->Gl (Q (.tuple []) ⟨A9 m i0 [.ptr i0 0,.nbuf 5],n'⟩)):AE vE 286 args ⟨m,n⟩ Q:=by subst ha;refine AE.front hi0 λhin=>ent (λn' k=>⟨_,rfl,(hQ n' k).go⟩) func286 rfl ntmps286 results286 (.q (.r []) (.c (.r []) (.q (.r []) (.c .z .z)))) λR hR=>?_;simp(disch:=omega) only[vm,seval];refine⟨Ac3 ?_⟩;simp(disch:=omega) only[vm,seval];refine⟨(hR _ _ _ _ _ _ (by simp(disch:=omega) only[vm,seval];rfl) slr ?_ fM ?_).2⟩<;>first|(simp(disch:=omega) only[vm,seval];done)|rfl
def AeY{k0:Nat}{i0:Nat} (h1:1<=k0) (h2:k0<=140737488355328) (hin:i0<n) (hQ: ∀j n',n<=n'->Gl (Q (.tuple []) ⟨(j,[.any])::(i0,[.ptr i0 0,.trow 5 j 0])::m,n'⟩)):AE vE 287 [.ptr i0 0,.int .i64 k0] ⟨(i0,[.ptr i0 0,.nbuf 5])::m,n⟩ Q:=by
 have hw:wr .i64 (wr .i64 0+(k0:Int))=(k0:Int):=by rw[show wr .i64 0=0 from rfl];simp only[wr];rw[IntKind.wrap_i64];omega
 refine Ake func287 rfl ntmps287 results287 (.q .z (.q (.r []) (.r []))) λR hR=>?_;simp(disch:=omega) only[vm,seval];refine⟨RV [] (.take 0 (.take 1 (.take 2 (.take 3 (.take 6 (.take 9 (.take 10 (.take 11 (.take 12 (.take 13 (.alt 4 [13,12,11,10,9,6,2,1,0] (.take 5 (.take 7 (.alt 8 [5,13,12,11,10,9,6,3,2,1,0] (.take 14 (.alt 15 [] (.done) (.stop))) (.stop)))) (.stop)))))))))))) Nr (by kernel_rfl) ?_⟩;simp(disch:=omega) only[vm,seval,hw];refine⟨Avp h1 h2 ?_⟩;simp(disch:=omega) only[vm,seval,hw];refine⟨(hR _ _ [] ((n,[.any])::(i0,[.ptr i0 0,.trow 5 n 0])::m) _ (n+1) (by first|rfl|(simp(disch:=omega) only[vm,seval];rfl)) slr fM (hQ n (n+1) fM).go).2⟩
theorem Uh{n0:Int}{r:Unit}{i0:Nat} (h:EI N n0=some r) (ha:args=[.ptr i0 0,.int .i64 n0]) (hi0:Aj m i0=some [.nself i0 274 2,.nbuf 5]) (hQ: ∀n',n<=n'->Gl (Q (.tuple []) ⟨A9 m i0 [.ptr i0 0,.buf 5 [] true],n'⟩)):AE vE 209 args ⟨m,n⟩ Q:=by unfold EI at h;replace h:=Ow (ac trivial h);obtain⟨⟨c1,c2⟩,h⟩:=h;obtain⟨k0,rfl⟩: ∃k0:Nat,n0=(k0:Int):=⟨n0.toNat,fM⟩;clear h;subst ha;have e1:decide ((k0:Int)<0)=false:=aF fM;have e2:decide ((0:Int)<(k0:Int))=true:=aC fM;have e3:wr .i64 (0-0)=0:=rfl;have e4:wr .i64 0=0:=rfl;refine AE.front hi0 λhin=>AE.fuse (Ake func209 rfl ntmps209 results209 (.q (.r []) (.q (.q (.r []) (.c (.r []) .z)) (.q .z (.c (.r []) .z)))) λR hR=>?_);simp(disch:=omega) only[vm,seval];refine⟨AZK rfl (i0:=i0) (by simp(disch:=omega) only[vm,seval]) λn2 hn2=>?_⟩;simp(disch:=omega) only[vm,seval,e1];refine⟨RV [] (.take 0 (.take 1 (.take 2 (.take 3 (.take 5 (.take 6 (.take 7 (.take 8 (.take 9 (.take 11 (.alt 4 [11,9,8,7,6,5,2,1,0] (.take 10 (.take 12 (.done))) (.stop)))))))))))) Nr (by kernel_rfl) ?_⟩;simp(disch:=omega) only[vm,seval,e1,e2,e3,e4];refine⟨AeY fM fM fM λj n3 hn3=>?_⟩;simp(disch:=omega) only[vm,seval];refine⟨(hR _ _ [] ((j,[.any])::(i0,[.ptr i0 0,.trow 5 j 0])::Dy m i0) _ n3 (by first|rfl|(simp(disch:=omega) only[vm,seval];rfl)) slr fM ⟨_,_,_,_,_,rfl,_,rfl,(hQ n3 fM).go⟩).2⟩
instance ALB {e}:CB vE (EI N e) 209 (λa=>[.ptr a 0,.int .i64 e]) (λa=>[.nself a 274 2,.nbuf 5]) (λr=>.tuple []) (λa r=>[.ptr a 0,.buf 5 [] true]):=⟨λh hi hQ=>Uh h rfl hi hQ⟩
instance ACJ {e}:CB vE (Gc N e) 286 (λa=>[.ptr a 0]) (λa=>[Hd a 274 2 e.addr,.buf 5 e.A true]) (λr=>.tuple []) (λa r=>[Hd a 274 2 r.addr,.buf 5 r.A true]):=Fh (Gc.eq_1 ..) func286
instance AFG {e}:CB vE (BJ N e) 211 (λa=>[.ptr a 0]) (λa=>[Hd a 274 2 e.addr,.buf 5 e.A true]) (λr=>.str r.1) (λa r=>[Hd a 274 2 r.2.addr,.buf 5 r.2.A false]):=Fh (BJ.eq_1 ..) func211 [(1,[6],.tk 0 3 (.tk 5 5 (.al 3 [(9,5),(1,2)] (.al 4 [(9,5),(2,3)] (.al 10 [(8,4),(2,3)] (.al 11 [] .done))))))]
instance Zr {a}:CF vE (Ec N a) 366 [.str a] (.int .i64):=AO (Ec.eq_1 ..) func366
instance Wm {a}:CF vE (Ey N a) 368 [.str a] (λr=>.tuple [.int .i32 r.1,.int .i64 r.2]):=AO (Ey.eq_1 ..) func368 [(14,[],.stop),(19,[],.stop),(24,[],.stop)]
instance Yl {a e}:CF vE (Ed N a e) 182 [.str a,.str e] .bool:=AO (Ed.eq_1 ..) func182 [(1,[],.stop)]
instance Aj3 {a}:CF vE (Ct N a) 54 [DC a] .str:=AO (Ct.eq_1 ..) func54
instance ARJ {a d}:CB vE (F9 N a d) 190 (λb=>[.ptr b 0,.int .i64 d]) (λb=>[.str a.did.i,.str a.did.u,.int .i64 a.e]) (λr=>.tuple []) (λb r=>[.str r.did.i,.str r.did.u,.int .i64 r.e]):=Fh (F9.eq_1 ..) func190
instance Arz {a e}:CF vE (Mr N a e) 108 [AC a,.str e] (λr=>.tuple [AC r.1,.bool r.2]):=AO (Mr.eq_1 ..) func108 [(4,[],.stop)] true
instance Ars {a}:CF vE (FT N a) 132 [.str a] .str:=AO (FT.eq_1 ..) func132 [(5,[],.stop)]
instance ARL {a}:CB vE (Cz N a) 135 (λe=>[.ptr e 0]) (λe=>[.str a.s,.int .i64 a.o]) (λr=>.bool r.1) (λe r=>[.str r.2.s,.int .i64 r.2.o]):=Fh (Cz.eq_1 ..) func135 [(1,[],.tk 0 10 (.al 10 [] .done))]
instance AEg {a}:CF vE (Kz N a) 214 [.int .u8 a] .bool:=AO (Kz.eq_1 ..) func214 [(1,[],.stop)]
instance Arx {a}:CF vE (VQ N a) 218 [.int .u8 a] .bool:=AO (VQ.eq_1 ..) func218 [(1,[],.stop)]
instance AA2 {a}:CF vE (Pj N a) 419 [.int .i64 a] .bool:=AO (Pj.eq_1 ..) func419 [(1,[],.stop)]
def AAS {a r} (h:Pj N a=some r) (ha:args=[.int .i64 a]) (hQ: ∀n',n<=n'->Gl (Q (.bool r) ⟨m,n'⟩)):AE vE 419 args ⟨m,n⟩ Q:=ha▸AA2.go h hQ
instance ABx {a}:CF vE (Ng N a) 295 [ED a] .bool:=AO (Ng.eq_1 ..) func295 [(6,[],.stop)]
def AB0 {a r} (h:Ng N a=some r) (ha:args=[ED a]) (hQ: ∀n',n<=n'->Gl (Q (.bool r) ⟨m,n'⟩)):AE vE 295 args ⟨m,n⟩ Q:=ha▸ABx.go h hQ
instance Aje {a}:CF vE (Fu N a) 322 [.int .u64 a] .str:=AO (Fu.eq_1 ..) func322
instance AQC {a e}:CF vE (strings_trimLeftByte N a e) 392 [.str a,.int .u8 e] .str:=AO (strings_trimLeftByte.eq_1 ..) func392 [(1,[],.stop)]
instance AIn {a}:CF vE (strings_makeASCIISet N a) 393 [.str a] (λr=>.tuple [.agg (List.map AVal.bool r.1),.bool r.2]):=AO (strings_makeASCIISet.eq_1 ..) func393
instance ACM {e b}:CB vE (Ef N e b) 421 (λa=>[.ptr a 0,.int .u8 b]) (λa=>List.map AVal.bool e) (λr=>.bool r.1) (λa r=>List.map AVal.bool r.2):=Fh (Ef.eq_1 ..) func421
instance AEG {a}:CF vE (NQ N a) 313 [.int .i64 a] (.int .i64):=AO (NQ.eq_1 ..) func313
instance AFL {a}:CF vE (Ck N a) 432 [.int .i32 a] .bool:=AO (Ck.eq_1 ..) func432 [(1,[],.stop),(3,[],.stop)]
instance AG1 {a e}:CF vE (strings_trimRightByte N a e) 396 [.str a,.int .u8 e] .str:=AO (strings_trimRightByte.eq_1 ..) func396 [(1,[],.stop)]
end Go.Proofs.YtalbfkgififmfaaGreatDoor
