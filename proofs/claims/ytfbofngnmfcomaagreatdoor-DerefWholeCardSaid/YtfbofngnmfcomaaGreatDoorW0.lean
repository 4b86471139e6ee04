import Derived.Test.YtfbofngnmfcomaaGreatDoorVmFacts
import Derived.Test.YtfbofngnmfcomaaGreatDoorDefs
import Derived.Test.YtfbofngnmfcomaaGreatDoorVM7
import Derived.Shelf.Strings.Search2
set_option linter.unusedVariables false
set_option linter.unusedSimpArgs false
set_option maxHeartbeats 4000000
set_option maxRecDepth 100000
set_option linter.defProp false
namespace Go.Proofs.YtfbofngnmfcomaaGreatDoor
open Go.VM
attribute [local irreducible] AA grd letL
variable{N n:Nat}{m:MS}{Q:PQ}{args:List AVal}
instance ATS {a0 a1 a2}:CB vE (Bt N a0 a1 a2) 25 (λi0=>[.ptr i0 0,.int .i64 a1,.int .i64 a2]) (λi0=>[.str a0.s,.int .i64 a0.at_,.int .i64 a0.nodes,.int .i64 a0.fail,.int .i64 a0.where_]) (λr=>.tuple []) (λi0 r=>[.str r.s,.int .i64 r.at_,.int .i64 r.nodes,.int .i64 r.fail,.int .i64 r.where_]):=E8 (Bt.eq_1 ..) Tryz.func25 rfl Tryz.ntmps25 Tryz.results25
instance At5 {a0 a1}:CF vE (JL N a0 a1) 84 [Dc a0,.str a1] (λr=>.bool r):=AQ (JL.eq_1 ..) Tryz.func84 rfl Tryz.ntmps84 Tryz.results84 [(1,[],.stop)]
@[reducible,instance] def AmD {a0 k2 xs}:=lq (λxs i (s:Unit)=>Jb N a0 k2 xs) xs () [(4,1),(6,11)] [5] (λi s=>Jb.eq_1 ..) (λx xs i s=>Jb.eq_2 ..)
instance Asb {a0 a1}:CF vE (GV N a0 a1) 111 [.int .u8 a0,.str a1] (λr=>.bool r):=AQ (GV.eq_1 ..) Tryz.func111 rfl Tryz.ntmps111 Tryz.results111
instance AoA {a0 a1}:CF vE (QI N a0 a1) 194 [.str a0,.int .i64 a1] (λr=>.str r):=AQ (QI.eq_1 ..) Tryz.func194 rfl Tryz.ntmps194 Tryz.results194
instance AfX {a0}:CF vE (CV N a0) 199 [.int .u8 a0] (λr=>.bool r):=AQ (CV.eq_1 ..) Tryz.func199 rfl Tryz.ntmps199 Tryz.results199 [(1,[],.stop)]
@[reducible,instance] def AYf {k s0 s3}:=lf (λk (s:Int×B8)=>Dk N k s.1 s.2) k (s0,s3) [(2,1),(4,13)] [0,3] (λs=>[.int .u64 s.1,.str s.2]) (λs=>Dk.eq_1 ..) (λk s=>Dk.eq_2 ..) (X:=Dk N k s0 s3)
instance AiV {a0}:CF vE (F5 N a0) 195 [.int .u64 a0] (λr=>.str r):=AQ (F5.eq_1 ..) Tryz.func195 rfl Tryz.ntmps195 Tryz.results195
instance Am1 {a0}:CF vE (UD N a0) 380 [.int .i64 a0] (λr=>.bool r):=AQ (UD.eq_1 ..) Tryz.func380 rfl Tryz.ntmps380 Tryz.results380 [(1,[],.stop)]
@[reducible,instance] def Adf {a0 k4 k s4 s3}:=lc (λk i (s:Int)=>LJ N a0 k4 k i s) k s4 s3 [(20,14)] [3,4] (λi s=>LJ.eq_1 ..) (λk i s=>LJ.eq_2 ..) (V:=λi s=>[.int .i64 s,.int .i64 i])
instance Amq {a0}:CF vE (T9 N a0) 344 [.str a0] (λr=>.int .i64 r):=AQ (T9.eq_1 ..) Tryz.func344 rfl Tryz.ntmps344 Tryz.results344 [(3,[],.tk 0 9 (.al 9 [] .done))]
instance AfP {a0}:CF vE (Eo N a0) 200 [.int .u8 a0] (λr=>.bool r):=AQ (Eo.eq_1 ..) Tryz.func200 rfl Tryz.ntmps200 Tryz.results200 [(1,[],.stop)]
@[reducible,instance] def AiJ {a0 a1 k2 xs s14}:=lr (λxs i (s:Unit)=>Ns N a0 a1 k2 xs i) xs s14 () [(5,2),(15,22)] [14] (λi s=>Ns.eq_1 ..) (λx xs i s=>Ns.eq_2 ..)
instance Aq7 {a0 a1}:CF vE (Lh N a0 a1) 196 [AB a0,.str a1] (λr=>.tuple [AB r.1,.bool r.2]):=AQ (Lh.eq_1 ..) Tryz.func196 rfl Tryz.ntmps196 Tryz.results196 [(6,[],.stop)] true
instance AfB {a0}:CF vE (Dp N a0) 30 [Cv a0] (λr=>.str r):=AQ (Dp.eq_1 ..) Tryz.func30 rfl Tryz.ntmps30 Tryz.results30
instance WH {a0 a1}:CF vE (Dy N a0 a1) 170 [.str a0,.int .u8 a1] (λr=>.int .i64 r):=AQ (Dy.eq_1 ..) Tryz.func170 rfl Tryz.ntmps170 Tryz.results170
def AvZ:Go.Shelf.Ren:=⟨λ|217=>170|219=>217|224=>296|225=>295|266=>255|267=>297|314=>350|k=>k,λ|3=>3|4=>4|5=>5|9=>9|46=>271|51=>355|146=>356|k=>k,λ|1=>0|k=>k⟩
def AlC:Go.Proofs.Lays.n219 Tryz.prog AvZ:= {mixed:=by kernel_rfl,f217:=Tryz.func170.trans (bu some (by kernel_rfl)),f219:=Tryz.func217.trans (bu some (by kernel_rfl)),f224:=Tryz.func296.trans (bu some (by kernel_rfl)),f225:=Tryz.func295.trans (bu some (by kernel_rfl)),f266:=Tryz.func255.trans (bu some (by kernel_rfl)),f267:=Tryz.func297.trans (bu some (by kernel_rfl)),f314:=Tryz.func350.trans (bu some (by kernel_rfl)),t3:=Tryz.underlying3,a3:=Tryz.isAgg3,z3:=Tryz.sizeOf3,v3:=Tryz.zeroValue3,t4:=Tryz.underlying4,a4:=Tryz.isAgg4,z4:=Tryz.sizeOf4,v4:=Tryz.zeroValue4,t5:=Tryz.underlying5,a5:=Tryz.isAgg5,z5:=Tryz.sizeOf5,v5:=Tryz.zeroValue5,t9:=Tryz.underlying9,a9:=Tryz.isAgg9,z9:=Tryz.sizeOf9,v9:=Tryz.zeroValue9,t46:=Tryz.underlying271,a46:=Tryz.isAgg271,z46:=Tryz.sizeOf271,v46:=Tryz.zeroValue271,t51:=Tryz.underlying355,a51:=Tryz.isAgg355,z51:=Tryz.sizeOf355,v51:=Tryz.zeroValue355,t146:=Tryz.underlying356,a146:=Tryz.isAgg356,z146:=Tryz.sizeOf356,v146:=Tryz.zeroValue356,g1:=by kernel_rfl}
def Ana{Γ:Ghost}{F:Nat->Nat}{w:World}{st:St}{af:List AVal}{tm:List Value} (hs:Sim vE F Γ st w af tm): ∃m,w.cell? ⟨0,0,none⟩=some (.int .i64 m):=by
 have h:=hs.glob 0 [.num .i64] rfl;cases h with
 | cptr hb hd h ho=>
  cases h with
  | cons hr ht=>
   cases hr with
   |num _ k=>
    cases ht;obtain⟨arr,e,fz,hw,⟨ds,ha⟩,_⟩:=hs.com_ok _ _ hb;refine⟨k,?_⟩;rw[aL]at hd;rw[hd]at ha;have h0:arr[0]?=some (.int .i64 k):=by rw[<-fh,ha];rfl
    simp[World.cell?,hw,h0]
def PN {a0 a1 r} (h:Az N a0 a1=some r) (ha:args=[.str a0,.str a1]) (hQ: ∀n',n<=n'->Gl (Q (.int .i64 r) ⟨m,n'⟩)):ACall vE 217 args ⟨m,n⟩ Q:=by
 subst ha;refine⟨λF Γ w cargs hs=>?_⟩;have hr:=hs.rep;obtain⟨l⟩:=cargs;cases hr with
 | cons h0 t=>
  cases t with
  | cons h1 t=>
   cases t;cases h0 with
   | str b0 hb0=>
    cases h1 with
    | str b1 hb1=>
     have fin:Calls vE.P 217 #[.string b0,.string b1] w (λe w'=>e=.returned (.int .i64 r)/\w'=w):=by
      rw[Az]at h;split at h
      ·rename_i h1;obtain⟨c,hc⟩: ∃c,b1.data.toList=[c]:=by
        have h2:b1.data.toList.length=1:=by have h3:=bc.1 h1;omega
        match hb:b1.data.toList,h2 with|[c],_=>exact⟨c,rfl⟩
       have e1:b1=⟨#[c]⟩:=by obtain⟨⟨l⟩⟩:=b1;have:l=[c]:=hc;subst this;rfl
       cases h;subst e1;exact Go.Proofs.Any.stringslite_Index_one AlC b0 c w
      ·obtain⟨hl,h⟩:=AAv h;cases h;obtain⟨k,hk⟩:=Ana hs;exact Go.Proofs.Any.stringslite_Index AlC b0 b1 k w (by rw[Go.Lib.size_eq];exact hl) hk
     refine fin.mono λe w' ⟨he,hw⟩=>?_;subst hw;refine⟨_,he,Γ,.int .i64 r,⟨m,n⟩,Ext.refl _ _ _,au _,?_,(hQ n (au _)).go⟩;exact {hs with rep:=.cons (.int _ _) .nil,own:=by simp[ownL,own],tok:=λb=>by have:=hs.tok b;simp only[AO,cnt]at this⊢;omega}
instance Y7 {a0 a1}:CF vE (Az N a0 a1) 217 [.str a0,.str a1] (λr=>.int .i64 r):=⟨λh hQ=>PN h rfl hQ⟩
instance Wj {a0 a1}:CF vE (BR N a0 a1) 291 [.str a0,.str a1] (λr=>.bool r):=AQ (BR.eq_1 ..) Tryz.func291 rfl Tryz.ntmps291 Tryz.results291 [(1,[],.stop)]
instance AfD {a0}:CF vE (Cg N a0) 257 [.int .u8 a0] (λr=>.bool r):=AQ (Cg.eq_1 ..) Tryz.func257 rfl Tryz.ntmps257 Tryz.results257 [(1,[],.stop)]
instance AfR {a0}:CF vE (GG N a0) 287 [.int .u8 a0] (λr=>.bool r):=AQ (GG.eq_1 ..) Tryz.func287 rfl Tryz.ntmps287 Tryz.results287 [(1,[],.stop)]
instance AN1 {a0 a1}:CB vE (E5 N a0 a1) 176 (λi0=>[.ptr i0 0,.int .u8 a1]) (λi0=>[.slice 1 (List.map (AVal.int .u8) a0) true]) (λr=>.tuple []) (λi0 r=>[.slice 1 (List.map (AVal.int .u8) r) true]):=E8 (E5.eq_1 ..) Tryz.func176 rfl Tryz.ntmps176 Tryz.results176 [(0,[7],.tk 0 3 (.tk 4 7 (.al 3 [(10,7),(1,2)] (.al 11 [(9,6),(2,3)] (.take 12 (.al 13 [] .done))))))]
instance Zb {a0}:CB vE (Fa N a0) 294 (λi0=>[.ptr i0 0]) (λi0=>[GR i0 263 2 a0.addr,.buf 5 a0.buf true]) (λr=>.tuple []) (λi0 r=>[GR i0 263 2 r.addr,.buf 5 r.buf true]):=E8 (Fa.eq_1 ..) Tryz.func294 rfl Tryz.ntmps294 Tryz.results294
instance ACT {a0}:CB vE (Ba N a0) 216 (λi0=>[.ptr i0 0]) (λi0=>[GR i0 263 2 a0.addr,.buf 5 a0.buf true]) (λr=>.str r.1) (λi0 r=>[GR i0 263 2 r.2.addr,.buf 5 r.2.buf false]):=E8 (Ba.eq_1 ..) Tryz.func216 rfl Tryz.ntmps216 Tryz.results216 [(1,[6],.tk 0 3 (.tk 5 5 (.al 3 [(9,5),(1,2)] (.al 4 [(9,5),(2,3)] (.al 10 [(8,4),(2,3)] (.al 11 [] .done))))))]
@[reducible,instance] def Ux {a0 k2 k s2 s4}:=lf (λk (s:Int×Nat)=>Bd N a0 k2 k s.1 s.2) k (s2,s4) [(5,4)] [2,4] (λs=>[.int .i64 s.1,.iter a0 s.2]) (λs=>Bd.eq_1 ..) (λk s=>Bd.eq_2 ..) (X:=Bd N a0 k2 k s2 s4)
instance Wz {a0}:CF vE (Dt N a0) 355 [.str a0] (λr=>.int .i64 r):=AQ (Dt.eq_1 ..) Tryz.func355 rfl Tryz.ntmps355 Tryz.results355
def AUe{i0:Nat} (ha:args=[.ptr i0 0]) (hi0:Af m i0=some [.nself i0 263 2,.nbuf 5]) (hQ: ∀n',n<=n'->Gl (Q (.tuple []) ⟨Ar m i0 [.ptr i0 0,.nbuf 5],n'⟩)):ACall vE 294 args ⟨m,n⟩ Q:=by subst ha;refine ACall.front hi0 λhin=>ent (λn' k=>⟨_,rfl,(hQ n' k).go⟩) Tryz.func294 rfl Tryz.ntmps294 Tryz.results294 (.q (.r []) (.c (.r []) (.q (.r []) (.c .z .z)))) λR hR=>?_;simp(disch:=omega) only[vm,seval];refine⟨AXc ?_⟩;simp(disch:=omega) only[vm,seval];refine⟨(hR _ _ _ _ _ _ (by simp(disch:=omega) only[vm,seval];rfl) slr ?_ fx ?_).2⟩<;>first|(simp(disch:=omega) only[vm,seval];done)|rfl
def AbC{k0:Nat}{i0:Nat} (h1:1<=k0) (h2:k0<=140737488355328) (hin:i0<n) (hQ: ∀j n',n<=n'->Gl (Q (.tuple []) ⟨(j,[.any])::(i0,[.ptr i0 0,.trow 5 j 0])::m,n'⟩)):ACall vE 367 [.ptr i0 0,.int .i64 k0] ⟨(i0,[.ptr i0 0,.nbuf 5])::m,n⟩ Q:=by
 have hw:wr .i64 (wr .i64 0+(k0:Int))=(k0:Int):=by rw[show wr .i64 0=0 from rfl];simp only[wr];rw[IntKind.wrap_i64];omega
 refine AhV Tryz.func367 rfl Tryz.ntmps367 Tryz.results367 (.q .z (.q (.r []) (.r []))) λR hR=>?_;simp(disch:=omega) only[vm,seval];refine⟨Pk [] (.take 0 (.take 1 (.take 2 (.take 3 (.take 6 (.take 9 (.take 10 (.take 11 (.take 12 (.take 13 (.alt 4 [13,12,11,10,9,6,2,1,0] (.take 5 (.take 7 (.alt 8 [5,13,12,11,10,9,6,3,2,1,0] (.take 14 (.alt 15 [] (.done) (.stop))) (.stop)))) (.stop)))))))))))) MR (by kernel_rfl) ?_⟩;simp(disch:=omega) only[vm,seval,hw];refine⟨AnB h1 h2 ?_⟩;simp(disch:=omega) only[vm,seval,hw];refine⟨(hR _ _ [] ((n,[.any])::(i0,[.ptr i0 0,.trow 5 n 0])::m) _ (n+1) (by first|rfl|(simp(disch:=omega) only[vm,seval];rfl)) slr fx (hQ n (n+1) fx).go).2⟩
theorem R7{n0:Int}{r:Unit}{i0:Nat} (h:Eb N n0=some r) (ha:args=[.ptr i0 0,.int .i64 n0]) (hi0:Af m i0=some [.nself i0 263 2,.nbuf 5]) (hQ: ∀n',n<=n'->Gl (Q (.tuple []) ⟨Ar m i0 [.ptr i0 0,.buf 5 [] true],n'⟩)):ACall vE 328 args ⟨m,n⟩ Q:=by unfold Eb at h;replace h:=NE (ac trivial h);obtain⟨⟨c1,c2⟩,h⟩:=h;obtain⟨k0,rfl⟩: ∃k0:Nat,n0=(k0:Int):=⟨n0.toNat,fx⟩;clear h;subst ha;have e1:decide ((k0:Int)<0)=false:=aO fx;have e2:decide ((0:Int)<(k0:Int))=true:=aG fx;have e3:wr .i64 (0-0)=0:=rfl;have e4:wr .i64 0=0:=rfl;refine ACall.front hi0 λhin=>ACall.fuse (AhV Tryz.func328 rfl Tryz.ntmps328 Tryz.results328 (.q (.r []) (.q (.q (.r []) (.c (.r []) .z)) (.q .z (.c (.r []) .z)))) λR hR=>?_);simp(disch:=omega) only[vm,seval];refine⟨AUe rfl (i0:=i0) (by simp(disch:=omega) only[vm,seval]) λn2 hn2=>?_⟩;simp(disch:=omega) only[vm,seval,e1];refine⟨Pk [] (.take 0 (.take 1 (.take 2 (.take 3 (.take 5 (.take 6 (.take 7 (.take 8 (.take 9 (.take 11 (.alt 4 [11,9,8,7,6,5,2,1,0] (.take 10 (.take 12 (.done))) (.stop)))))))))))) MR (by kernel_rfl) ?_⟩;simp(disch:=omega) only[vm,seval,e1,e2,e3,e4];refine⟨AbC fx fx fx λj n3 hn3=>?_⟩;simp(disch:=omega) only[vm,seval];refine⟨(hR _ _ [] ((j,[.any])::(i0,[.ptr i0 0,.trow 5 j 0])::DR m i0) _ n3 (by first|rfl|(simp(disch:=omega) only[vm,seval];rfl)) slr fx ⟨_,_,_,_,_,rfl,_,rfl,(hQ n3 fx).go⟩).2⟩
instance AIw {n0}:CB vE (Eb N n0) 328 (λi0=>[.ptr i0 0,.int .i64 n0]) (λi0=>[.nself i0 263 2,.nbuf 5]) (λr=>.tuple []) (λi0 r=>[.ptr i0 0,.buf 5 [] true]):=⟨λh hi hQ=>R7 h rfl hi hQ⟩
instance UI {a0}:CF vE (EJ N a0) 383 [.str a0] (λr=>.tuple [.int .i32 r.1,.int .i64 r.2]):=AQ (EJ.eq_1 ..) Tryz.func383 rfl Tryz.ntmps383 Tryz.results383 [(14,[],.stop),(19,[],.stop),(24,[],.stop)]
instance XD {a0 a1}:CF vE (Fh N a0 a1) 259 [.str a0,.str a1] (λr=>.bool r):=AQ (Fh.eq_1 ..) Tryz.func259 rfl Tryz.ntmps259 Tryz.results259 [(1,[],.stop)]
instance ANv {a0 a1}:CB vE (Ez N a0 a1) 201 (λi0=>[.ptr i0 0,.int .i64 a1]) (λi0=>[.str a0.did.method,.str a0.did.iD,.int .i64 a0.e]) (λr=>.tuple []) (λi0 r=>[.str r.did.method,.str r.did.iD,.int .i64 r.e]):=E8 (Ez.eq_1 ..) Tryz.func201 rfl Tryz.ntmps201 Tryz.results201
@[reducible,instance] def Adc {a0 a1 k2 xs s11}:=lr (λxs i (s:Unit)=>K9 N a0 a1 k2 xs i) xs s11 () [(5,3),(12,25)] [11] (λi s=>K9.eq_1 ..) (λx xs i s=>K9.eq_2 ..)
instance Al9 {a0 a1}:CF vE (JW N a0 a1) 93 [AB a0,.str a1] (λr=>.tuple [AB r.1,.bool r.2]):=AQ (JW.eq_1 ..) Tryz.func93 rfl Tryz.ntmps93 Tryz.results93 [(4,[],.stop)] true
@[reducible,instance] def Abx {a1 k2 xs}:=lq (λxs i (s:Unit)=>K5 N a1 k2 xs) xs () [(4,2),(7,1),(11,10)] [10] (λi s=>K5.eq_1 ..) (λx xs i s=>K5.eq_2 ..)
instance AmI {a0 a1}:CF vE (Kc N a0 a1) 28 [.slice 2 (List.map Ad a0) false,.str a1] (λr=>.tuple [.str r.1,.bool r.2]):=AQ (Kc.eq_1 ..) Tryz.func28 rfl Tryz.ntmps28 Tryz.results28
@[reducible,instance] def AOF {a1 k2 xs}:=lq (λxs i (s:Unit)=>Hy N a1 k2 xs) xs () [(4,2),(7,1),(12,10)] [11] (λi s=>Hy.eq_1 ..) (λx xs i s=>Hy.eq_2 ..)
instance AYE {a0 a1}:CF vE (PI N a0 a1) 29 [R3 a0,.str a1] (λr=>.tuple [.slice 1 (List.map AVal.str r.1) false,.bool r.2]):=AQ (PI.eq_1 ..) Tryz.func29 rfl Tryz.ntmps29 Tryz.results29 [] true
@[reducible,instance] def AT9 {k2 k s0 s4 bn}:=lf (λk (s:Int×Int×(List Int))=>Eg N k2 k s.1 s.2.1 s.2.2) k (s0,s4,bn) [(5,12)] [0,4] (λs=>[.int .u64 s.1,.int .i64 s.2.1]) (λs=>Eg.eq_1 ..) (λk s=>Eg.eq_2 ..) (Ms:=λs=>[.s (List.map (AVal.int .u8) s.2.2)]) (X:=Eg N k2 k s0 s4 bn)
instance AfS {a0}:CF vE (F8 N a0) 181 [.int .u64 a0] (λr=>.str r):=AQ (F8.eq_1 ..) Tryz.func181 rfl Tryz.ntmps181 Tryz.results181
end Go.Proofs.YtfbofngnmfcomaaGreatDoor
