import Derived.Test.YtjmejdocgdbklaaGreatDoorL5
set_option linter.defProp false
set_option linter.unusedVariables false
set_option linter.unusedSimpArgs false
namespace Go.VM
section
variable{N:Nat}
def L6 (a:B8):Prop:=a.map Cn=[104,116,116,112,115]
def Yg{a:B8} (h:L6 a):a.length=5/\∀x,x∈a->BU x=true/\x.toNat<128/\x≠35/\x≠63/\x≠47/\x≠58/\x≠64:=by
 refine⟨by have:=a8 List.length h;simp_all,λx AQ=>?_⟩;have hm:Cn x∈([104,116,116,112,115]:B8):=by rw[<-h];grind
 have key:=BH (f:=λn=>(!([104,116,116,112,115]:B8).contains (Cn (UInt8.ofNat n)))||(ABL n&&decide (n<128)&&decide (n≠35)&&decide (n≠63)&&decide (n≠47)&&decide (n≠58)&&decide (n≠64))) (g:=λ_=>true) (by kernel_rfl) x;simp only[bo]at key;rw[show([104,116,116,112,115]:B8).contains (Cn x)=true by grind]at key;simp only[bL,be,az,aq]at key;obtain⟨⟨⟨⟨⟨⟨k1,k2⟩,k3⟩,k4⟩,k5⟩,k6⟩,k7⟩:=key;refine⟨k1,k2,?_,?_,?_,?_,?_⟩<;>(rintro rfl;simp_all)
theorem R6{c:UInt8}: ∀(pre t:B8),(∀x,x∈pre->x≠c)->AR c (pre++t)=(pre++(AR c t).1,(AR c t).2)
 |[],t,_=>rfl
 | x::pre,t,h=>by
  have ih:=R6 pre t λy hy=>h y (by grind);have AQ:x≠c:=h x fA;have e1:(c==x)=false:=by grind
  have e2:(x !=c)=true:=by grind
  rw[ba];cases hc:(pre++t).contains c;·rw[SK (by rw[bb,e1,hc];rfl)];rw[SK hc]at ih;simp only[aD]at ih;obtain⟨i1,i2⟩:=ih;rw[ba,<-i1,<-i2]
  ·rw[Gt (by grind),aJ,e2,bz,e2];rw[Gt hc]at ih;simp_all
def Aib{α:Type} (c:UInt8) (l:B8) (hb:l.length<=1000000) (k:B8×B8×Bool->Option α):((BP N l [c]).bind λy=>if(decide (y<(l.length:Int)))=true then (sub l (wr .i64 (y+1)) (l.length:Int)).bind λx7=>(sub l 0 y).bind λx8=>k (x8,x7,true)else k (l,[],false))=k (AR c l):=by
 have hw:(λx:UInt8=>!([c]:B8).contains x)=(λx=>x !=c):=by grind
 rw[KD l [c] fA fy,aa,hw];cases hc:l.contains c;·rw[R3 l hc,ae fA,SK hc]
 ·have hlt:=Mf hc;obtain⟨s1,s2⟩:=AGM hc hb;rw[ML,ah hc]at s1 s2;have w0:wr .i64 (((l.takeWhile (· !=c)).length:Int)+0)=((l.takeWhile (· !=c)).length:Int):=by grind[AO]
  rw[w0]at s1;rw[ah (by grind),show((1:Int))=(([c]:B8).length:Int)from rfl,s2,aa,s1,aa,Gt hc]
def NV (r:B8):B8×B8×Bool:=if preB [47,47] r=true then((r.drop 2).dropWhile (· !=47),(r.drop 2).takeWhile (· !=47),true)else(r,[],false)
def U8 (a b:B8):ApiURI:=⟨a,(NV (AR 63 (AR 35 b).1).1).2.1,(NV (AR 63 (AR 35 b).1).1).1,(AR 63 (AR 35 b).1).2.1,(AR 35 b).2.1,true,(NV (AR 63 (AR 35 b).1).1).2.2,(AR 63 (AR 35 b).1).2.2,(AR 35 b).2.2⟩
def Xt (k2:Unit->Option Bool): ∀(l:B8) (i:Int),(∀x,x∈l->BU x=true)->Dq N k2 l i=k2 () |[],i,_=>by rw[Dq]| c::l,i,h=>by rw[Dq];dsimp only[AA];rw[N9,aa,h c fA,ah rfl,ae fB];exact Xt k2 l (i+1) λx AQ=>h x (by grind)
def ARy{a:B8} (h:L6 a):LJ N a=some true:=by obtain⟨h5,hl⟩:=Yg h;unfold LJ;rw[AA,BS fy,Xt _ a 0 λx AQ=>(hl x AQ).1];cases a with |nil=>grind|cons _ _=>rfl
theorem Ab2{p:UInt8->Bool}: ∀(a:B8){x:UInt8}{t:B8},(∀y,y∈a->p y=true)->p x=false->(a++x::t).takeWhile p=a |[],x,t,_,AQ=>by rw[bc,aJ,AQ];rfl|y::a,x,t,h,AQ=>by simp_all
def Aj7{a:B8} (h:L6 a): ∀y,y∈a->(!([58,47]:B8).contains y)=true:=λy hy=>by obtain⟨_,_,_,_,k5,k6,_⟩:=(Yg h).2 y hy;grind
def AbR{α:Type}{d:JD Int} (r:B8) (hb:r.length<=1000000) (k:B8×B8×Bool->Option α):((strings_CutPrefix N r ([47,47]:B8)).bind λy24=>if y24.2=true then (strings_IndexByte N y24.1 47).bind λy26=>AB (λj28:Int=>(sub y24.1 0 j28).bind λx32=>(sub y24.1 j28 (y24.1.length:Int)).bind λx33=>k (x33,x32,true)) (λk29=>if(decide (y26<0))=true then k29 (y24.1.length:Int) else k29 y26) d else k (r,[],false))=k (NV r):=by
 rw[AUo,aa];unfold NV;by_cases h:preB [47,47] r=true
 ·rw [ah h,ah h];simp only[av,ag,ap];rw[show(47:Int)=AC 47 from rfl,Ij,aa,ML,AA];generalize hq:r.drop (0+1+1)=q;have hql:q.length<=1000000:=by grind
  cases hc:q.contains 47
  ·have hd:q.dropWhile (· !=(47:UInt8))=[]:=by have e:=aU (p:=(· !=(47:UInt8))) (l:=q);rw[R3 q hc]at e;simp_all
   simp only[al,au];rw[ah fB,show(0:Int)=((0:Nat):Int)from rfl,BB q 0 _ (bK _) (aw _),aa,Cf (aw _),aa,R3 q hc,hd];simp
  ·have hlt:=Mf hc;simp only[av];rw[ae fA,show(0:Int)=((0:Nat):Int)from rfl,BB q 0 _ (bK _) fy,aa,Cf fy,aa,aY,bP,IB,LM]
 simp_all
def Alf{α:Type} (r:B8) (hb:r.length<=1000000) (k:B8×B8×Bool->Option α):((Fe N r ([47,47]:B8)).bind λy36=>if y36=true then (sub r 2 (r.length:Int)).bind λx38=>(BP N x38 ([47]:B8)).bind λy39=>(sub r 2 (wr .i64 (2+y39))).bind λx41=>(sub r (wr .i64 (2+y39)) (r.length:Int)).bind λx42=>k (x42,x41,true) else k (r,[],false))=k (NV r):=by
 have hw:(λx:UInt8=>!([47]:B8).contains x)=(λx=>x !=47):=by grind
 rw[SA,aa];unfold NV;by_cases h:preB [47,47] r=true
 ·have hl:=PR h;simp only[ag,ap]at hl;have hle:=KC (· !=(47:UInt8)) (r.drop 2);rw[aB]at hle;rw[ah h,ah h,show(2:Int)=((2:Nat):Int)from rfl,Cf fy,aa,KD _ [47] fA (by grind),aa,hw];have e:wr .i64 (((2:Nat):Int)+(((r.drop 2).takeWhile (λx=>x !=47)).length:Int))=((2+((r.drop 2).takeWhile (λx=>x !=47)).length:Nat):Int):=by grind[AO]
  rw[e,BB r 2 _ fy fy,aa,Cf fy,aa,show 2+((r.drop 2).takeWhile (λx=>x !=47)).length-2=((r.drop 2).takeWhile (λx=>x !=47)).length by omega,IB,<-aF,LM]
 simp_all
def Ali{c:UInt8}{a b:B8} (h: ∀x,x∈a->x≠c) (hc:(58:UInt8)≠c):AR c (a++58::b)=(a++58::(AR c b).1,(AR c b).2):=by
 rw[show a++58::b=(a++[58])++b by simp,R6 (a++[58]) b (by
  intro x AQ;simp only[aX,aL,dw,eC]at AQ;rcases AQ with AQ|rfl;·exact h x AQ
  ·exact hc)];simp
def Aia{a b:B8} (h:L6 a) (hb:(a++58::b).length<=16384) (hN:20000<=N):OA N (a++58::b)=some (U8 a b,0):=by
 obtain⟨h5,hl⟩:=Yg h;simp only[an,ag]at hb;have hc1:=FP 35 b;have hc2:=FP 63 (AR 35 b).1;unfold OA U8;rw[ae (by simp only[an,ag,aq];omega),Ml 35 _ (by grind),aa,Ali (c:=35) (λx AQ=>(hl x AQ).2.2.1) fB,Ml 63 _ (by grind),aa,Ali (c:=63) (λx AQ=>(hl x AQ).2.2.2.1) fB];dsimp only;generalize (AR 63 (AR 35 b).1)=d at *;obtain⟨r,q,hq⟩:=d;dsimp only at *;have hset:=Aj7 h;have htw:((a++58::r).takeWhile λc=>!([58,47]:B8).contains c)=a:=Ab2 a hset fB;have hany:(a++58::r).any ([58,47]:B8).contains=true:=fA;refine(Av (a:=(r,a,true)) λk=>?_).trans ?_;·rw[YA fB fB fB (by grind) (by grind) fy,aa];unfold ATn;rw[ah hany,htw];have hget:(a++58::r)[a.length]?=some 58:=fA;dsimp only[AA];rw[ah fA,Jt,hget,aa,ah fB,show(0:Int)=((0:Nat):Int)from rfl,BB _ 0 _ (bK _) fA,aa,aY,bP,List.take_left,ARy h,aa,ah rfl,show wr .i64 ((a.length:Int)+1)=((a.length+1:Nat):Int) by grind[AO],Cf fA,aa];simp
 ·dsimp only;refine(Av (a:=NV r) λk=>AbR r fy k).trans ?_;rfl
end
end Go.VM
namespace Go.VM
section
variable{N:Nat}
def AXL (c:UInt8):Bool:=([43,45,46]:B8).contains c
def AUF (c:UInt8):Bool:=BU c||(DI c||AXL c)
def ADC:B8->Bool |[]=>false|c::t=>BU c&&t.all AUF
def NM (c:UInt8):Bool:=!([58,47]:B8).contains c
def AD4 (set:B8): ∀l:B8,l.any set.contains=!((l.dropWhile λc=>!set.contains c)==[])
 |[]=>rfl
 | c::l=>by
  rw[bT,bz];cases h:set.contains c;·rw[be,AD4 set l];rfl
  ·simp
def ADL (d:B8):Option (B8×B8):=if(d.dropWhile NM).head?=some 58 then some (d.takeWhile NM,(d.dropWhile NM).drop 1)else none
def AY7:ApiURI:=⟨[],[],[],[],[],false,false,false,false⟩
def usT (s:B8) (a:B8) (h:Bool) (d:B8):ApiURI:=⟨a,(NV d).2.1,(NV d).1,(AR 63 (AR 35 s).1).2.1,(AR 35 s).2.1,h,(NV d).2.2,(AR 63 (AR 35 s).1).2.2,(AR 35 s).2.2⟩
def Sm (s:B8):ApiURI×Int:=if s.length>16384 then(AY7,5) else match ADL (AR 63 (AR 35 s).1).1 with |none=>(usT s [] false (AR 63 (AR 35 s).1).1,0)|some (a,r)=>if ADC a=true then(usT s a true r,0)else(AY7,6)
def Ape (c:UInt8):decide (Go.Lib.indexByte ([43,45,46]:B8) c<0)=!AXL c:=by grind[AXL,Go.Lib.indexByte]
def AEL (k2:Unit->Option Bool): ∀(l:B8) (i:Int),1<=i->Dq N k2 l i=if l.all AUF=true then k2 ()else some false
 |[],i,_=>by grind[Dq]
 | c::l,i,h=>by
  have ih:=AEL k2 l (i+1) fy;have h0:(i==0)=false:=by grind
  rw[Dq];dsimp only[AA];rw[N9,aa,aI];unfold AUF at *;cases BU c
  ·rw[ae fB,h0,ae fB,QY,aa];cases DI c;·rw[ae fB,Ij,aa,Ape];cases AXL c<;>simp_all[AXL]
   simp_all
  simp_all
def AkG{a:B8} (hb:a.length<=1000000):LJ N a=some (ADC a):=by
 unfold LJ ADC;rw[AA,BS fy];cases a with
 |nil=>grind[Dq]
 | cons c t=>
  rw[Dq];dsimp only[AA];rw[N9,aa];cases BU c;·rfl
  ·rw[ah rfl,ae fB,AEL _ t _ fy];cases t.all AUF<;>rfl
def AEG (k2:Unit->Option Bool): ∀(l:B8) (i:Int),1<=i->EF N k2 l i=if l.all AUF=true then k2 ()else some false
 |[],i,_=>by grind[EF]
 | c::l,i,h=>by
  have ih:=AEG k2 l (i+1) fy;have h0:(i==0)=false:=by grind
  rw[EF];dsimp only[AA];rw[PX,aa,aI];unfold AUF at *;cases BU c
  ·rw[ae fB,h0,ae fB,OP,aa];cases DI c
   ·rw[ae fB,N7 _ _ fB,aa];unfold AXL;cases ([43,45,46]:B8).contains c;·rfl
    ·rw[ae fB,ih];rfl
   simp_all
  simp_all
def Akg{a:B8} (hb:a.length<=1000000):Lp N a=some (ADC a):=by
 unfold Lp ADC;rw[AA,BS fy];cases a with
 |nil=>grind[EF]
 | cons c t=>
  rw[EF];dsimp only[AA];rw[PX,aa];cases BU c;·rfl
  ·rw[ah rfl,ae fB,AEG _ t _ fy];cases t.all AUF<;>rfl
def ZC{α:Type} (d:B8) (e:Option α) (k:B8×B8×Bool->Option α):Option α:=match ADL d with |none=>k (d,[],false)|some (a,r)=>if ADC a=true then k (r,a,true)else e
def TG (d:B8):d.takeWhile NM++d.dropWhile NM=d:=aU
theorem AYC{α:Type}{d:B8} (hb:d.length<=1000000) (hN:20<=N) (e:Option α) (k:B8×B8×Bool->Option α){D:JD Bool}:((strings_IndexAny N d ([58,47]:B8)).bind λy9=>AB (λj11:Bool=>if j11=true then (sub d 0 y9).bind λx16=>(LJ N x16).bind λy17=>if y17=true then (sub d (wr .i64 (y9+1)) (d.length:Int)).bind λx19=>k (x19,x16,true) else e else k (d,[],false)) (λk12=>if(decide (y9>=0))=true then (idx d y9).bind λx15=>k12 ((AC x15)==58) else k12 false) D)=ZC d e k:=by
 rw[Aak hb hN,aa];dsimp only[AA];unfold ATn ZC ADL;rw[AD4];change _=_;have hw:(d.takeWhile λc=>!([58,47]:B8).contains c)=d.takeWhile NM:=rfl;have hd:(d.dropWhile λc=>!([58,47]:B8).contains c)=d.dropWhile NM:=rfl;rw[hw,hd];have hs:=TG d;cases AQ:d.dropWhile NM with
 |nil=>rfl
 | cons c t=>
  have hlen:d.length=(d.takeWhile NM).length+(t.length+1):=by have:=a8 List.length hs;grind
  have hget:d[(d.takeWhile NM).length]?=some c:=by grind
  rw[show(!((c::t)==([]:B8)))=true from rfl,ah rfl,ah fA,Jt,hget,aa,List.head?_cons];by_cases h:c=58
  ·subst h;rw[ah fB,ah rfl,show(0:Int)=((0:Nat):Int)from rfl,BB _ 0 _ (bK _) fy,aa,aY,bP,IB,AkG fy,aa];dsimp only;cases ADC (d.takeWhile NM);·rfl
   ·rw[ah rfl,ah rfl,show wr .i64 (((d.takeWhile NM).length:Int)+1)=(((d.takeWhile NM).length+1:Nat):Int) by grind[AO],Cf fy,aa,<-aF,LM,AQ]
  ·have hb':((AC c)==58)=false:=by rw[show(58:Int)=AC 58 from rfl,AkA];grind
   simp_all
theorem AV5{α:Type}{d:B8} (hb:d.length<=1000000) (e:Option α) (k:B8×B8×Bool->Option α){D:JD Bool}:((BP N d ([58,47]:B8)).bind λy9=>AB (λj11:Bool=>if j11=true then (sub d 0 y9).bind λx16=>(Lp N x16).bind λy17=>if y17=true then (sub d (wr .i64 (y9+1)) (d.length:Int)).bind λx19=>k (x19,x16,true) else e else k (d,[],false)) (λk12=>if(decide (y9<(d.length:Int)))=true then (idx d y9).bind λx15=>k12 ((AC x15)==58) else k12 false) D)=ZC d e k:=by
 rw[KD _ _ fB fy,aa];dsimp only[AA];unfold ZC ADL;have hw:(d.takeWhile λc=>!([58,47]:B8).contains c)=d.takeWhile NM:=rfl;rw[hw];have hs:=TG d;cases AQ:d.dropWhile NM with
 | nil=>simp_all
 | cons c t=>
  have hlen:d.length=(d.takeWhile NM).length+(t.length+1):=by have:=a8 List.length hs;grind
  have hget:d[(d.takeWhile NM).length]?=some c:=by grind
  rw[ah (by grind),Jt,hget,aa,List.head?_cons];by_cases h:c=58
  ·subst h;rw[ah fB,ah rfl,show(0:Int)=((0:Nat):Int)from rfl,BB _ 0 _ (bK _) fy,aa,aY,bP,IB,Akg fy,aa];dsimp only;cases ADC (d.takeWhile NM);·rfl
   ·rw[ah rfl,ah rfl,show wr .i64 (((d.takeWhile NM).length:Int)+1)=(((d.takeWhile NM).length+1:Nat):Int) by grind[AO],Cf fy,aa,<-aF,LM,AQ]
  ·have hb':((AC c)==58)=false:=by rw[show(58:Int)=AC 58 from rfl,AkA];grind
   simp_all
def AN3{α β:Type}{K:α->Option β}{body:(α->Option β)->Option β}{d:JD α}{X:(α->Option β)->Option β} (h: ∀k:α->Option β,body k=X k):AB K body d=X K:=h K
def ABF (s:B8) (hb:s.length<=1000000) (hN:20<=N):OA N s=some (Sm s):=by
 have hc1:=FP 35 s;have hc2:=FP 63 (AR 35 s).1;unfold OA Sm;by_cases h:s.length>16384;·rw[ah (by grind),ah h];rfl
 rw[ae (by grind),ae h,Ml 35 _ fy,aa,Ml 63 _ fy,aa];generalize hd:(AR 63 (AR 35 s).1).1=d at *;refine(AN3 (X:=λk=>ZC d (some (AY7,6)) k) λk=>AYC fy hN _ k).trans ?_;unfold ZC;cases hcol:ADL d with
 | none=>dsimp only;refine(Av (a:=NV d) λk=>AbR d fy k).trans ?_;rfl
 | some p=>
  obtain⟨a,r⟩:=p;dsimp only;cases ADC a;·rfl
  ·have hr:r.length<=d.length:=by
    unfold ADL at hcol;split at hcol;·cases hcol;have:=a8 List.length (TG d);grind
    grind
   rw[ah rfl,ah rfl];refine(Av (a:=NV r) λk=>AbR r fy k).trans ?_;rfl
def ASv (s:B8) (hb:s.length<=1000000):Oa N s=some (Sm s):=by
 have hc1:=FP 35 s;have hc2:=FP 63 (AR 35 s).1;unfold Oa Sm;by_cases h:s.length>16384;·rw[ah (by grind),ah h];rfl
 rw[ae (by grind),ae h];refine(Av (a:=AR 35 s) λk=>Aib 35 _ fy k).trans ?_;refine(Av (a:=AR 63 (AR 35 s).1) λk=>Aib 63 _ fy k).trans ?_;generalize hd:(AR 63 (AR 35 s).1).1=d at *;refine(AN3 (X:=λk=>ZC d (some (AY7,6)) k) λk=>AV5 fy _ k).trans ?_;unfold ZC;cases hcol:ADL d with
 | none=>dsimp only;refine(Av (a:=NV d) λk=>Alf d fy k).trans ?_;rfl
 | some p=>
  obtain⟨a,r⟩:=p;dsimp only;cases ADC a;·rfl
  ·have hr:r.length<=d.length:=by
    unfold ADL at hcol;split at hcol;·cases hcol;have:=a8 List.length (TG d);grind
    grind
   rw[ah rfl,ah rfl];refine(Av (a:=NV r) λk=>Alf r fy k).trans ?_;rfl
end
end Go.VM
namespace Go.VM
section
variable{N:Nat}
def AEr (k4:Unit->Option Bool): ∀ps:List B8,(∀p,p∈ps->p.length<=2^60)->GD N k4 ps=if(ps.all λp=>(GY 255 p).2==0)=true then k4 ()else some false |[],_=>by grind[GD]| p::ps,h=>by rw[GD,show(255:Int)=((255:Nat):Int)from rfl,ACi fB p (h p fA),aa,AEr k4 ps λq hq=>h q (by grind),aI];cases hx:((GY 255 p).2==0)<;>simp[bne,hx]
def AVS (l:B8) (hb:l.length<=1000000):NK N l=some (ABj l):=by
 have hl:=Jf 46 l;have hp:=Ih 46 l;unfold NK;rw[YV l 46 hb,aa];dsimp only[AA];rw[BS fy,AEr _ _ λp h=>by grind];unfold ABj;have e:(((AX 46 l).length:Int) !=4)=!decide ((AX 46 l).length=4):=by grind
 rw[e];cases decide ((AX 46 l).length=4)<;>cases ((AX 46 l).all λp=>(GY 255 p).2==0)<;>simp
def ABM (l:B8) (hN:300<=N):OM N l=some (JW l):=by
 unfold OM JW;by_cases h:l=[];·grind
 rw[ae (by grind),ae h];by_cases h2:l.length>253;·rw[ah (by simp only[aq];omega),ah h2]
 rw[ae (by simp only[aq];omega),ae h2];dsimp only[AA];rw[AVS l fy,aa,AdN l fy fy,aa,lower_eq l fy,aa];cases ABj l<;>cases Ty l<;>rfl
def Ab5 (l:B8) (hN:300<=N) (hb:l.length<=1000000):OI N l=some (hpS l):=by
 have hle:=FP 58 l;unfold OI hpS;rw[Ml 58 l fy,aa,ABM _ hN,aa];dsimp only[AA];rw[Adt _ fy,aa];by_cases h:((JW (AR 58 l).1).2 !=0)=true;·grind
 ·rw [ae h,ae h];cases (AR 58 l).2.2;·rfl
  ·simp only[av];by_cases hp:((SV (AR 58 l).2.1).2 !=0)=true;·simp_all
   ·rw[ae hp,ae hp];split<;>rfl
def Kv (p:Int):Prop:=0<=p/\p<=65535
theorem AdU (l:B8):Kv (SV l).1:=by grind[Tk,SV,Kv]
theorem AJq (l:B8):Kv (hpS l).1.port:=by grind[AdU,AR,hpS,Kv]
theorem Rh (l:B8):(JW l).1.length<=253:=by grind[JW]
theorem AAU (l:B8):(hpS l).1.host.length<=253:=by grind[Rh,AR,hpS]
def hpF (h:B8) (p:Int):B8:=if p=0 then h else h++[58]++fmtS p.toNat
def Xe (h:B8) (p:Int):(hpF h p).length<=h.length+21:=by grind[O3,hpF]
def AlJ (h:B8) (p:Int) (hp:Kv p) (hb:h.length<=1000000) (hN:20<=N):Ox N ⟨h,p⟩=some (hpF h p):=by
 have hl:=O3 p.toNat;obtain⟨h1,h2⟩:=hp;unfold Ox hpF;by_cases h0:p=0;·simp_all
 ·rw[ae (by grind),ae h0,ae (by grind)];have e:wr .u64 p=((p.toNat:Nat):Int):=by rw[IV fy];omega
  simp only[e];rw[Rw p.toNat fy hN,aa,BS fC,BS fC]
def Aja (h:B8) (p:Int) (hp:Kv p) (hb:h.length<=1000000) (hN:20<=N):Nk N ⟨h,p⟩=some (hpF h p):=by
 have hl:=O3 p.toNat;obtain⟨h1,h2⟩:=hp;unfold Nk Jn hpF;by_cases h0:p=0;·simp_all
 ·rw[ae (by grind),ae h0];have e:wr .u64 p=((p.toNat:Nat):Int):=by grind[IV]
  simp only[e];rw[ae (by grind),Rp p.toNat fy hN,aa,aa,BS (by grind),BS (by grind)]
end
end Go.VM
namespace Go.VM
section
variable{N:Nat}
def AOS (c:UInt8) (l:B8):strings_Contains N l [c]=some (l.contains c):=by unfold strings_Contains;rw[ALQ,aa,Jc]
def Amg{c:UInt8}{l:B8} (hb:l.length<=1000000):decide ((((l.takeWhile λx=>!([c]:B8).contains x).length:Nat):Int)<(l.length:Int))=l.contains c:=by grind[bne,R3,Mf]
theorem ALY (also:B8): ∀(k:Nat) (t out:B8),(TJ also k t out).1.length<=out.length+t.length
 |0,t,out=>by simp[TJ]
 |k+1,[],out=>by simp[TJ]
 | k+1,c::t,out=>by
  rw[TJ];split;·cases h:Mo t with |none=>simp| some x=>have h2:=UW h;have:=ALY also k (t.drop 2) (out++(if FC x=true then [x]else Me x));grind[FC,Me]
  ·split;·have:=ALY also k t (out++[c]);grind
   ·simp
theorem KY (s also:B8):(Ce N s also).1.length<=s.length:=by grind[Ce,ALY]
def UC (u:ApiURL):B8:=if u.hasQuery=true then u.path++[63]++u.query else u.path
def O8 (u:ApiURL):B8:=if u.hasFrag=true then([104,116,116,112,115,58,47,47]++hpF u.host u.port)++UC u++([35]++u.fragment)else([104,116,116,112,115,58,47,47]++hpF u.host u.port)++UC u
def Aea (u:ApiURL) (h:u.path.length<=1000000/\u.query.length<=1000000):MG N u=some (UC u):=by
 unfold MG UC;cases u.hasQuery;·rfl
 ·rw[ah rfl,ah rfl,BS (by grind),BS (by grind)]
def AdI (u:ApiURL) (h:u.path.length<=1000000/\u.query.length<=1000000):Ni N u=some (UC u):=by
 unfold Ni UC;cases u.hasQuery;·rfl
 ·rw[ah rfl,ah rfl,BS (by grind),BS (by grind)]
def ABV (u:ApiURL):(UC u).length<=u.path.length+u.query.length+1:=by grind[UC]
def ACs (u:ApiURL):Prop:=Kv u.port/\u.host.length<=1000000/\u.path.length<=1000000/\u.query.length<=1000000/\u.fragment.length<=1000000
def Wy (u:ApiURL) (h:ACs u) (hN:20<=N):GA N u=some (O8 u):=by
 obtain⟨h1,h2,h3,h4,h5⟩:=h;have hh:=Xe u.host u.port;have ht:=ABV u;unfold GA OT O8;rw[aa,AlJ _ _ h1 h2 hN,aa,BS fC,Aea u ⟨h3,h4⟩,aa,BS fC];dsimp only[AA];cases u.hasFrag;·rfl
 ·rw[ah rfl,ah rfl,BS (by grind),BS fC]
def XJ (u:ApiURL) (h:ACs u) (hN:20<=N):GG N u=some (O8 u):=by
 obtain⟨h1,h2,h3,h4,h5⟩:=h;have hh:=Xe u.host u.port;have ht:=ABV u;unfold GG PK O8;rw[aa,Aja _ _ h1 h2 hN,aa,BS fC,AdI u ⟨h3,h4⟩,aa,BS fC];dsimp only[AA];cases u.hasFrag;·rfl
 ·rw[ah rfl,ah rfl,BS (by grind),BS fC]
theorem ANW (r:B8):(NV r).1.length<=r.length/\(NV r).2.1.length<=r.length:=by grind[NV,List.dropWhile_sublist,KC,List.length_drop]
def Ajc (a b:B8):(U8 a b).authority.length<=b.length/\(U8 a b).path.length<=b.length/\(U8 a b).query.length<=b.length/\(U8 a b).fragment.length<=b.length:=by grind[FP,AR,ANW,U8]
def inP:B8:=[33,36,38,39,40,41,42,43,44,59,61,58,64,47]
def inQ:B8:=[33,36,38,39,40,41,42,43,44,59,61,58,64,47,63]
def Oy:ApiURL:=⟨[],0,[],[],[],false,false⟩
def Qm (N:Nat) (p:B8):B8:=if L9 N p []=[]then [47]else L9 N p []
def ADX (N:Nat) (U:ApiURI):ApiURL×Int:=if U.hasAuthority=false then(Oy,71) else if U.authority.contains 64=true then(Oy,70) else if((hpS U.authority).2 !=0)=true then(Oy,(hpS U.authority).2) else if((Ce N U.path inP).2 !=0)=true then(Oy,(Ce N U.path inP).2) else if((Ce N U.query inQ).2 !=0)=true then(Oy,(Ce N U.query inQ).2) else if((Ce N U.fragment inQ).2 !=0)=true then(Oy,(Ce N U.fragment inQ).2) else if(O8 ⟨(hpS U.authority).1.host,(hpS U.authority).1.port,Qm N (Ce N U.path inP).1,(Ce N U.query inQ).1,(Ce N U.fragment inQ).1,U.hasQuery,U.hasFrag⟩).length>4096 then(Oy,5) else(⟨(hpS U.authority).1.host,(hpS U.authority).1.port,Qm N (Ce N U.path inP).1,(Ce N U.query inQ).1,(Ce N U.fragment inQ).1,U.hasQuery,U.hasFrag⟩,0)
def VC (N:Nat) (a b:B8):ApiURL×Int:=if(a++58::b).length>4096 then(Oy,5)else ADX N (U8 a b)
def AAe (p:B8):(Qm N p).length<=p.length+1:=by grind[PH,List.length_nil,Qm]
def Agm{a:B8} (h:L6 a):(a.map Cn==List.map Cn [104,116,116,112,115])=true:=by rw[h];decide
def AZN (N:Nat) (s:B8):ApiURL×Int:=if s.length>4096 then(Oy,5) else if((Sm s).2 !=0)=true then(Oy,(Sm s).2) else if(!((Sm s).1.hasScheme&&((Sm s).1.scheme.map Cn==List.map Cn [104,116,116,112,115])))=true then(Oy,60) else ADX N (Sm s).1
def Aii{d a r:B8} (h:ADL d=some (a,r)):a.length<=d.length/\r.length<=d.length:=by
 unfold ADL at h;split at h;·cases h;have:=a8 List.length (TG d);grind
 grind
def AUj (s:B8):(Sm s).1.authority.length<=s.length/\(Sm s).1.path.length<=s.length/\(Sm s).1.query.length<=s.length/\(Sm s).1.fragment.length<=s.length/\(Sm s).1.scheme.length<=s.length:=by
 have hc1:=FP 35 s;have hc2:=FP 63 (AR 35 s).1;unfold Sm;split;·simp[AY7]
 generalize hd:(AR 63 (AR 35 s).1).1=d at *;have key: ∀a h r,r.length<=d.length->a.length<=s.length->(usT s a h r).authority.length<=s.length/\(usT s a h r).path.length<=s.length/\(usT s a h r).query.length<=s.length/\(usT s a h r).fragment.length<=s.length/\(usT s a h r).scheme.length<=s.length:=λa h r hr ha=>by grind[ANW,usT]
 split;·simp_all
 ·rename_i a r hc;have:=Aii hc;grind[AY7]
theorem AeA (s:B8) (hb:s.length<=1000000) (hN:20000<=N):KM N s=some (AZN N s):=by
 unfold KM AZN;by_cases hl:s.length>4096;·rw[ah (by simp only[aq];omega),ah hl];rfl
 rw[ae (by simp only[aq];omega),ae hl,ABF s hb fy,aa];obtain⟨l1,l2,l3,l4,l5⟩:=AUj s;generalize Sm s=X at *;obtain⟨U,e⟩:=X;dsimp only[AA]at *;by_cases he:(e !=0)=true;·rw[ah he,ah he];rfl
 rw[ae he,ae he];cases hS:U.hasScheme;·rfl
 rw[ah rfl,RD _ _ fy fB,aa];cases hE:(U.scheme.map Cn==List.map Cn [104,116,116,112,115]);·rfl
 simp only[bL,di,al,au];unfold ADX;cases hA:U.hasAuthority;·rfl
 rw[ah rfl,ae fB];rw[AOS,aa];cases hat:U.authority.contains 64;rotate_left;·rfl
 rw[ae fB,ae fB,Ab5 _ fy fy,aa];have q1:=AJq U.authority;have q2:=AAU U.authority;generalize hpS U.authority=H at *;by_cases e1:(H.2 !=0)=true;·rw[ah e1,ah e1];rfl
 rw[ae e1,ae e1];have n1:=KY (N:=N) U.path inP;have n2:=KY (N:=N) U.query inQ;have n3:=KY (N:=N) U.fragment inQ;rw[IW U.path _ hN,aa];change (if((Ce N U.path inP).2 !=0)=true then _ else _)=_;by_cases e2:((Ce N U.path inP).2 !=0)=true;·rw[ah e2,ah e2];rfl
 rw[ae e2,ae e2,IW U.query _ hN,aa];change (if((Ce N U.query inQ).2 !=0)=true then _ else _)=_;by_cases e3:((Ce N U.query inQ).2 !=0)=true;·rw[ah e3,ah e3];rfl
 rw[ae e3,ae e3,IW U.fragment _ hN,aa];change (if((Ce N U.fragment inQ).2 !=0)=true then _ else _)=_;by_cases e4:((Ce N U.fragment inQ).2 !=0)=true;·rw[ah e4,ah e4];rfl
 rw[ae e4,ae e4];change Option.bind (Io N (Ce N U.path inP).1) _=_;rw[Aj4 _ hN fy,aa];have pl:=AAe (N:=N) (Ce N U.path inP).1;have hp:Qm N (Ce N U.path inP).1=if(L9 N (Ce N U.path inP).1 []==[])=true then [47]else L9 N (Ce N U.path inP).1 []:=by unfold Qm;split<;>simp_all
 have fin: ∀P:B8,P=Qm N (Ce N U.path inP).1->((GA N (ApiURL.mk H.1.host H.1.port P (Ce N U.query inQ).1 (Ce N U.fragment inQ).1 U.hasQuery U.hasFrag)).bind λy25=>if(decide ((y25.length:Int)>4096))=true then (some ((ApiURL.mk [] 0 [] [] [] false false),5):Option (ApiURL×Int)) else some ((ApiURL.mk H.1.host H.1.port P (Ce N U.query inQ).1 (Ce N U.fragment inQ).1 U.hasQuery U.hasFrag),0))=some (if(O8 ⟨H.1.host,H.1.port,Qm N (Ce N U.path inP).1,(Ce N U.query inQ).1,(Ce N U.fragment inQ).1,U.hasQuery,U.hasFrag⟩).length>4096 then(Oy,5) else(⟨H.1.host,H.1.port,Qm N (Ce N U.path inP).1,(Ce N U.query inQ).1,(Ce N U.fragment inQ).1,U.hasQuery,U.hasFrag⟩,0)):=by
  intro P hP;subst hP;rw[Wy _ ⟨q1,by grind,by grind,by grind,by grind⟩ fy,aa];split;·rename_i AQ;rw[ah (by simp only[aq]at AQ;omega)];rfl
  ·rename_i AQ;rw[ae (by simp only[aq]at AQ;omega)]
 by_cases e5:(L9 N (Ce N U.path inP).1 []==[])=true;·rw[ah e5]at hp⊢;exact fin _ hp.symm
 ·rw[ae e5]at hp⊢;exact fin _ hp.symm
theorem Afj (s:B8) (hb:s.length<=1000000) (hN:20000<=N):LA N s=some (AZN N s):=by
 unfold LA AZN;by_cases hl:s.length>4096;·rw[ah (by simp only[aq];omega),ah hl];rfl
 rw[ae (by simp only[aq];omega),ae hl,ASv s hb,aa];obtain⟨l1,l2,l3,l4,l5⟩:=AUj s;generalize Sm s=X at *;obtain⟨U,e⟩:=X;dsimp only[AA]at *;by_cases he:(e !=0)=true;·rw[ah he,ah he];rfl
 rw[ae he,ae he];cases hS:U.hasScheme;·rfl
 rw[ah rfl,RN _ _ fy fB,aa];cases hE:(U.scheme.map Cn==List.map Cn [104,116,116,112,115]);·rfl
 simp only[bL,di,al,au];unfold ADX;cases hA:U.hasAuthority;·rfl
 rw[ah rfl,ae fB];rw[KD _ [64] fB fy,aa,Amg fy];cases hat:U.authority.contains 64;rotate_left;·rfl
 rw[ae fB,ae fB,AgQ _ fy,aa];have q1:=AJq U.authority;have q2:=AAU U.authority;generalize hpS U.authority=H at *;by_cases e1:(H.2 !=0)=true;·rw[ah e1,ah e1];rfl
 rw[ae e1,ae e1];have n1:=KY (N:=N) U.path inP;have n2:=KY (N:=N) U.query inQ;have n3:=KY (N:=N) U.fragment inQ;rw[Jg U.path _ hN fB,aa];change (if((Ce N U.path inP).2 !=0)=true then _ else _)=_;by_cases e2:((Ce N U.path inP).2 !=0)=true;·rw[ah e2,ah e2];rfl
 rw[ae e2,ae e2,Jg U.query _ hN fB,aa];change (if((Ce N U.query inQ).2 !=0)=true then _ else _)=_;by_cases e3:((Ce N U.query inQ).2 !=0)=true;·rw[ah e3,ah e3];rfl
 rw[ae e3,ae e3,Jg U.fragment _ hN fB,aa];change (if((Ce N U.fragment inQ).2 !=0)=true then _ else _)=_;by_cases e4:((Ce N U.fragment inQ).2 !=0)=true;·rw[ah e4,ah e4];rfl
 rw[ae e4,ae e4];change Option.bind (Ik N (Ce N U.path inP).1) _=_;rw[AiF _ hN fy,aa];have pl:=AAe (N:=N) (Ce N U.path inP).1;have hp:Qm N (Ce N U.path inP).1=if(L9 N (Ce N U.path inP).1 []==[])=true then [47]else L9 N (Ce N U.path inP).1 []:=by unfold Qm;split<;>simp_all
 have fin: ∀P:B8,P=Qm N (Ce N U.path inP).1->((GG N (ApiURL.mk H.1.host H.1.port P (Ce N U.query inQ).1 (Ce N U.fragment inQ).1 U.hasQuery U.hasFrag)).bind λy25=>if(decide ((y25.length:Int)>4096))=true then (some ((ApiURL.mk [] 0 [] [] [] false false),5):Option (ApiURL×Int)) else some ((ApiURL.mk H.1.host H.1.port P (Ce N U.query inQ).1 (Ce N U.fragment inQ).1 U.hasQuery U.hasFrag),0))=some (if(O8 ⟨H.1.host,H.1.port,Qm N (Ce N U.path inP).1,(Ce N U.query inQ).1,(Ce N U.fragment inQ).1,U.hasQuery,U.hasFrag⟩).length>4096 then(Oy,5) else(⟨H.1.host,H.1.port,Qm N (Ce N U.path inP).1,(Ce N U.query inQ).1,(Ce N U.fragment inQ).1,U.hasQuery,U.hasFrag⟩,0)):=by
  intro P hP;subst hP;rw[XJ _ ⟨q1,by grind,by grind,by grind,by grind⟩ fy,aa];split;·rename_i AQ;rw[ah (by simp only[aq]at AQ;omega)];rfl
  ·rename_i AQ;rw[ae (by simp only[aq]at AQ;omega)]
 by_cases e5:(L9 N (Ce N U.path inP).1 []==[])=true;·rw[ah e5]at hp⊢;exact fin _ hp.symm
 ·rw[ae e5]at hp⊢;exact fin _ hp.symm
theorem AUm{a b:B8} (h:L6 a) (hb:(a++58::b).length<=1000000) (hN:20000<=N):AZN N (a++58::b)=VC N a b:=by
 unfold AZN VC;by_cases hl:(a++58::b).length>4096;·simp_all
 rw[ae hl,ae hl];have e:Sm (a++58::b)=(U8 a b,0):=cK ((ABF (N:=N) _ hb fy).symm.trans (Aia h fy hN));rw[e,ae (show¬(((0:Int) !=0)=true) by decide),show(U8 a b).hasScheme=true from rfl,show(U8 a b).scheme=a from rfl,Agm h];rfl
def AU4{a b:B8} (h:L6 a) (hb:(a++58::b).length<=1000000) (hN:20000<=N):KM N (a++58::b)=some (VC N a b):=by grind[AeA,AUm]
def AVX{a b:B8} (h:L6 a) (hb:(a++58::b).length<=1000000) (hN:20000<=N):LA N (a++58::b)=some (VC N a b):=by grind[Afj,AUm]
end
end Go.VM
namespace Go.VM
section
variable{N:Nat}
def UY{n b:Nat} (h:n<=1000000) (hb:b<=1000):CW n b:=by unfold CW;have:n * b<=1000000 * 1000:=eB h hb;omega
def Ai4 (c:UInt8) (l:B8) (hb:l.length<=1000000):BP N l [c]=some (((l.takeWhile (· !=c)).length:Nat):Int):=by grind[bne,KD]
def XT{c:UInt8}{l:B8}:((((l.takeWhile (· !=c)).length:Nat):Int)==(l.length:Int))=!l.contains c:=by grind[R3,Mf]
def XG{c:UInt8}{l:B8} (h:l.contains c=true) (hb:l.length<=1000000):sub l 0 (((l.takeWhile (· !=c)).length:Nat):Int)=some (AR c l).1/\sub l (wr .i64 ((((l.takeWhile (· !=c)).length:Nat):Int)+1)) (l.length:Int)=some (AR c l).2.1:=by have hlt:=Mf h;obtain⟨s1,s2⟩:=AGM h hb;rw[ML,ah h]at s1 s2;grind[wr,AO]
def Uk{c:UInt8}{l:B8}:(AR c l).2.2=l.contains c:=by grind[SK,Gt]
def Ns:B8:=[33,36,38,39,40,41,42,43,44,59,61]
def AVs (N:Nat) (u h:B8):ApiAcct×Int:=if((Ce N u Ns).2 !=0||((Ce N u Ns).1==[]||(Ce N u Ns).1.head?==some 37))=true then(⟨[],[]⟩,80) else if((JW h).2 !=0)=true then(⟨[],[]⟩,(JW h).2)else(⟨(Ce N u Ns).1,(JW h).1⟩,0)
def TV (N:Nat) (s:B8):ApiAcct×Int:=if s.length>4096 then(⟨[],[]⟩,5) else if s.length<5 then(⟨[],[]⟩,60) else if((s.take 5).map Cn==List.map Cn [97,99,99,116,58])=false then(⟨[],[]⟩,60) else if(AR 64 (s.drop 5)).2.2=false then(⟨[],[]⟩,6) else AVs N (AR 64 (s.drop 5)).1 (AR 64 (s.drop 5)).2.1
def AVO{α:Type} (l:B8) (e:Bool) (A B:Option α):(if e=true then A else if(l==[])=true then A else (idx l 0).bind λx9=>if((AC x9)==37)=true then A else B)=if(e||(l==[]||l.head?==some 37))=true then A else B:=by
 cases e;·cases l with |nil=>rfl| cons c t=>rw[ae fB,ae fA,show idx (c::t) 0=some c from rfl,aa,Q8];simp
 ·rfl
def AbU (s:B8) (hb:s.length<=1000000) (hN:20000<=N):Ps N s=some (TV N s):=by
 unfold Ps XU TV;by_cases h1:s.length>4096;·rw[ah fC,ah h1,aa];rfl
 rw[ae fC,ae h1];dsimp only[AA];by_cases h2:s.length<5;·rw[ah fC,ah h2,ah rfl,aa];rfl
 have hl:=FP 64 (s.drop 5);rw[aB]at hl;rw[ae fC,ae h2,show(0:Int)=((0:Nat):Int)from rfl,show(5:Int)=((5:Nat):Int)from rfl,BB s 0 5 fy fy,aa,aY,bP,RD _ _ (by rw[bG];omega) fB,aa,Cf fy,aa,Ml 64 _ (by rw[aB];omega),aa];cases (List.map Cn (s.take 5)==List.map Cn [97,99,99,116,58]);·simp only[bh,av,aa];rfl
 simp only[bL,al,au];cases hc:(AR 64 (s.drop 5)).2.2;·simp only[al,au,av,aa];rfl
 simp only[av,aa];rw[ae fB,ae fB,IW _ _ hN,aa,ABM _ fy,aa];change (if((Ce N (AR 64 (s.drop 5)).1 Ns).2 !=0)=true then _ else if((Ce N (AR 64 (s.drop 5)).1 Ns).1==[])=true then _ else Option.bind (idx (Ce N (AR 64 (s.drop 5)).1 Ns).1 0) _)=_;try rw[ae (by decide: ¬(true=false))]
 unfold AVs;refine(AVO _ _ _ _).trans ?_;split;·rfl
 ·by_cases hh:((JW (AR 64 (s.drop 5)).2.1).2 !=0)=true;·exact(ah hh).trans (a8 some (ah hh).symm)
  ·exact(ae hh).trans (a8 some (ae hh).symm)
def Ab8 (s:B8) (hb:s.length<=1000000) (hN:20000<=N):Oi N s=some (TV N s):=by
 unfold Oi TV;by_cases h1:s.length>4096;·rw[ah fC,ah h1]
 rw[ae fC,ae h1];dsimp only[AA];by_cases h2:s.length<5;·rw[ah fC,ah h2,ah rfl]
 have hl:=FP 64 (s.drop 5);rw[aB]at hl;rw[ae fC,ae h2,show(0:Int)=((0:Nat):Int)from rfl,show(5:Int)=((5:Nat):Int)from rfl,BB s 0 5 fy fy,aa,aY,bP,RN _ _ (by rw[bG];omega) fB,aa,Cf fy,aa,Ai4 64 _ (by rw[aB];omega),aa,XT,Uk];cases (List.map Cn (s.take 5)==List.map Cn [97,99,99,116,58]);·simp only[bh,av]
 simp only[bL,al,au];rw[ae (by decide: ¬(true=false))];cases hc:(s.drop 5).contains 64;·simp only[bh,av]
 obtain⟨s1,s2⟩:=XG hc (by rw[aB];omega);simp only[bL,al,au];rw[show((0:Nat):Int)=0 from rfl,s1,aa,Jg _ _ hN fB,aa,s2,aa,ABB,aa];change (if((Ce N (AR 64 (s.drop 5)).1 Ns).2 !=0)=true then _ else if((Ce N (AR 64 (s.drop 5)).1 Ns).1==[])=true then _ else Option.bind (idx (Ce N (AR 64 (s.drop 5)).1 Ns).1 0) _)=_;unfold AVs;refine(AVO _ _ _ _).trans ?_;split;·rfl
 ·by_cases hh:((JW (AR 64 (s.drop 5)).2.1).2 !=0)=true;·exact(ah hh).trans (a8 some (ah hh).symm)
  ·exact(ae hh).trans (a8 some (ae hh).symm)
def AEN (a:ApiAcct):B8:=(([97,99,99,116,58]++a.user)++[64])++a.host
def AWV (a:ApiAcct) (h:a.user.length<=1000000/\a.host.length<=1000000):Oh N a=some (AEN a):=by unfold Oh AEN;rw[BS fC,BS fC,BS fC]
def AaK (a:ApiAcct) (h:a.user.length<=1000000/\a.host.length<=1000000):Ng N a=some (AEN a):=by unfold Ng AEN;rw[BS fC,BS fC,BS fC]
def YX (s:B8):(TV N s).1.user.length<=4096/\(TV N s).1.host.length<=253:=by
 have hh:=Rh (AR 64 (s.drop 5)).2.1;have hn:=KY (N:=N) (AR 64 (s.drop 5)).1 Ns;have hl:=FP 64 (s.drop 5);rw[aB]at hl;unfold TV AVs;split;·simp
 split;·simp
 split;·simp
 split;·simp
 split;·simp
 split;·simp
 ·dsimp only;omega
end
end Go.VM
