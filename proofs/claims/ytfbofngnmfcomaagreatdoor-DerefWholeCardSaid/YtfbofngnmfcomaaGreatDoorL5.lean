import Derived.Test.YtfbofngnmfcomaaGreatDoorL4
set_option linter.defProp false
set_option linter.unusedVariables false
set_option linter.unusedSimpArgs false
namespace Go.VM
section
variable{N:Nat}
def AAt{l:B8} (h:I8 l=0):2<=l.length:=AS3 (AlD h)
def AaK{a:B8}{p:Nat} (hp:p<=a.length) (h:I8 (Em (a.drop p))=0):RQ (Em (a.drop p))=a.drop (p+(Gc (a.drop p)).length+2)/\p+(Gc (a.drop p)).length+2<=a.length:=by have h1:=AAt h;have h2:=AAX (a.drop p);rw[aN]at h2;refine⟨?_,fx⟩;unfold RQ;rw[aq h,<-Vm,aY,aY,cE]
theorem Zo{a:B8} (hb:a.length<=1000000) (hN:1000010<=N) (buf:B8) (ad:Bool) (b0:BodyChunks) (s:Int): ∀(k p:Nat),p<=a.length->a.length-p<k->∃e:Int,(e=0\/e=191\/e=190)/\FC N (b0,ad,buf) k ⟨a.drop p,s⟩=some (if e=0 then(buf,0)else([],e))/\Fs N a k (p:Int)=some e
 |0,p,_,h=>absurd h (cm _)
 | k+1,p,hp,hk=>by
  rw[FC,Fs,ASa s (by rw[aN];omega) fx,aa,AAH hb hp,aa];simp only[AC];have ho:=AMz (Em (a.drop p));by_cases hE:I8 (Em (a.drop p))=0
  ·obtain⟨n1,n2⟩:=AaK hp hE;have z:((0:Int) !=0)=false:=rfl;simp only[n1,hE,aD,z,aj,aA];by_cases ht:(Gc (a.drop p)==[])=true;·simp only[ht,aD];exact⟨0,.inl rfl,rfl,rfl⟩
   ·simp only[ht,aA];exact Zo hb hN buf ad b0 s k (p+(Gc (a.drop p)).length+2) n2 fx
  ·rw[an hE,aq (by simpa using hE),aq (by simpa using hE)];refine⟨_,ho,?_,rfl⟩;rw[an hE]
def Afj (m:Nat) (l:B8):0<=(WX m l).1/\(WX m l).1<=m:=by
 unfold WX;split;·exact⟨br 0,fx⟩
 ·split
  ·split;·exact⟨by simp only;omega,by simp only;omega⟩
   ·exact⟨br 0,fx⟩
  ·exact⟨br 0,fx⟩
def Aah (l:B8):0<=ADw l/\ADw l<=4611686018427387904:=by unfold ADw;have:=Afj 4611686018427387904 (hxT l);split<;>omega
def AdQ (l:B8):0<=(Lu l).1/\(Lu l).1<=4611686018427387904/\((Lu l).2.2=0->(Lu l).2.1<=l.length/\2<=(Lu l).2.1)/\((Lu l).2.2=0\/(Lu l).2.2=191\/(Lu l).2.2=190):=by
 have hl:=AHI l;unfold Lu;cases hr:hxR l with
 |nil=>exact⟨br 0,(by show(0:Int)<=4611686018427387904;decide),nofun,.inr (.inl rfl)⟩
 | cons x t=>
  rw[hr]at hl;simp only;split;·exact⟨br 0,(by show(0:Int)<=4611686018427387904;decide),nofun,.inr (.inr rfl)⟩
  ·split;·rename_i hE;have h2:=AAt hE;have h3:=AAX (x::t);have h4:=Aah l;exact⟨h4.1,h4.2,λ_=>by simp only;omega,.inl rfl⟩
   ·rename_i hE;exact⟨br 0,(by show(0:Int)<=4611686018427387904;decide),λh=>absurd h hE,AMz _⟩
def AjZ{l:B8} (h:I8 l=0):Gc l=[]/\Em l=l:=by obtain⟨t,rfl⟩:=Po (AlD h);exact⟨rfl,rfl⟩
def AgB{l:B8} (h:Gc l=[]):Em l=l:=by have:=AhY l;rwa[h]at this
theorem AAY{a:B8} (hb:a.length<=1000000) (hN:1000010<=N){lim:Int} (hlim:0<=lim): ∀(k p:Nat) (s:Int) (ad:Bool) (buf:B8),p<=a.length->a.length-p<k->buf.length+(a.length-p)<=1000000->∃r,FL N lim (λj1=>FC N j1 N j1.1) k (a.drop p) s ad buf=some r/\ER N a lim k buf (p:Int)=some r/\r.1.length<=buf.length+(a.length-p)/\(r.2=0\/r.2=142\/r.2=191\/r.2=190)/\(r.2≠0->r.1=[])
 |0,p,s,ad,buf,_,h,_=>absurd h (cm _)
 | k+1,p,s,ad,buf,hp,hk,hbuf=>by
  have hal:(a.drop p).length=a.length-p:=aN;obtain⟨b,hb1,hb2⟩:=AY6 (N:=N) (l:=a.drop p) s fx hN;obtain⟨r1,r2,r3,r4⟩:=AdQ (a.drop p);rw[FL,ER,hb1,aa,AjJ hb hp hN,aa];simp only[AC];by_cases h0:(Lu (a.drop p)).2.2=0
  ·obtain⟨c1,c2⟩:=r3 h0;have hb3:=hb2 h0;subst hb3;have z:((0:Int) !=0)=false:=rfl;have zl:decide (lim<0)=false:=aO fx;simp only[h0,aD,z,zl,aj,aA];generalize hc:(Lu (a.drop p)).2.1=c at *;generalize hz:(Lu (a.drop p)).1=z at *;have hL:JB N ⟨ad,buf⟩=some ((buf.length:Int),⟨ad,buf⟩):=rfl;rw[hL,aa];by_cases hov:decide (z>wr .u64 (wr .i64 (lim-(buf.length:Int))))=true;·simp only[hov,aD];exact⟨_,rfl,rfl,aJ _,.inr (.inl rfl),λ_=>rfl⟩
   ·simp only[hov,aA];by_cases hz0:(z==0)=true
    ·simp only[hz0,aD,aY];obtain⟨e,e1,e2,e3⟩:=Zo hb hN buf ad ⟨a.drop (p+c),z⟩ z N (p+c) fx fx;rw[e2];unfold Od;rw[e3,aa];by_cases he:e=0;·subst he;exact⟨_,rfl,rfl,by simp only[aD];omega,.inl rfl,λh=>absurd rfl h⟩
     ·have he2:(e !=0)=true:=by simpa using he
      simp only[he,he2,aD,aA];exact⟨_,rfl,rfl,aJ _,by simp only;omega,λ_=>rfl⟩
    ·simp only[hz0,aA,aY];have hal2:(a.drop (p+c)).length=a.length-(p+c):=aN;have hz1:z≠0:=by simpa using hz0
     have w1:wr .u64 ((a.drop (p+c)).length:Int)=((a.length-(p+c):Nat):Int):=by rw[hal2,Fx fx]
     have w2:wr .i64 ((a.length:Int)-((p+c:Nat):Int))=((a.length-(p+c):Nat):Int):=by rw[Aq fx];omega
     have w3:wr .i64 z=z:=Aq fx;rw[w1,w2,w3];by_cases hlt:((a.length-(p+c):Nat):Int)<z;·simp only[aG hlt,aD];exact⟨_,rfl,rfl,aJ _,.inr (.inr (.inl rfl)),λ_=>rfl⟩
     ·obtain⟨n,rfl⟩: ∃n:Nat,z=(n:Int):=⟨z.toNat,fx⟩;simp only[aO hlt,aj,aA];have s1:=Av (a.drop (p+c)) 0 n fx fx;rw[aL,bo]at s1;have w4:wr .i64 (((p+c:Nat):Int)+(n:Int))=((p+c+n:Nat):Int):=by rw[Aq fx];omega
      have s2:=Av a (p+c) (p+c+n) fx fx;rw[show p+c+n-(p+c)=n by omega]at s2;have hx:((a.drop (p+c)).take n).length=n:=by rw[ba];omega
      simp only[show((0:Nat):Int)=0 from rfl]at s1;rw[s1,aa,w4,s2,aa,Vl _ _ _ fx,aa,Bw fx,aa,aY,AXr,aa,BU fx,AAH hb fx,aa];generalize hq:p+c+n=q at *;have ho:=AMz (a.drop q);by_cases hE:I8 (a.drop q)=0
      ·obtain⟨t1,t2⟩:=AjZ hE;have hl2:=AAt hE;rw[aN]at hl2;have hA:RQ (a.drop q)=a.drop (q+2):=by unfold RQ;rw[aq hE,aY]
       simp only[t1,t2,hE,hA,aD,z,aj,aA];have ih:=AAY hb hN hlim k (q+2) (n:Int) true (buf++(a.drop (p+c)).take n) fx fx (by rw[ah,hx];omega);obtain⟨r,i1,i2,i3,i4⟩:=ih;refine⟨r,i1,?_,?_,i4⟩;·exact i2
       ·rw[ah,hx]at i3;omega
      ·have hE2:(I8 (a.drop q) !=0)=true:=by simpa using hE
       simp only[hE2,aD];have hno: ¬(I8 (Em (a.drop q))=0/\Gc (a.drop q)=[]):=λh=>hE (by rw[AgB h.2]at h;exact h.1);have hxs:sub a (q:Int) (a.length:Int)=some (a.drop q):=Bw fx;have hEv:(if(a.drop q==[])=true then some (([]:B8),(191:Int))else if(a.drop q==[13])=true then some ([],191)else some ([],190))=some ([],I8 (a.drop q)):=by
        have hpf: ¬preB [13,10] (a.drop q)=true:=λh=>hE (by unfold I8;rw[aq h]);unfold I8;rw[an hpf];cases a.drop q==[];·cases a.drop q==([13]:B8)<;>rfl
        ·rfl
       refine⟨_,rfl,?_,aJ _,by simp only;omega,λ_=>rfl⟩;by_cases h1:I8 (Em (a.drop q))=0
       ·have h2:(Gc (a.drop q)==[])=false:=by rw[bw];exact λh=>hno ⟨h1,h⟩
        have z0:((0:Int)==0)=true:=rfl;simp only[h1,h2,aD,z0,aj,aA,hxs,aa];exact hEv
       ·have h3:(I8 (Em (a.drop q))==0)=false:=by simpa using h1
        simp only[h1,h3,aj,aA,hxs,aa];exact hEv
  ·rw[an h0,aq (by simpa using h0),aq (by simpa using h0)];exact⟨_,rfl,rfl,aJ _,by simp only;omega,λ_=>rfl⟩
def AKZ{a:B8} (hb:a.length<=1000000) (hN:1000010<=N){lim:Int} (hlim:0<=lim): ∃r,Nh N a lim=some r/\KD N a lim=some r/\r.1.length<=a.length/\(r.2=0\/r.2=142\/r.2=191\/r.2=190)/\(r.2≠0->r.1=[]):=by obtain⟨r,h1,h2,h3,h4⟩:=AAY hb hN hlim N 0 0 false [] (aJ _) fx fB;refine⟨r,?_,h2,by simpa using h3,h4⟩;unfold Nh;rw[AC];exact h1
end
end Go.VM
namespace Go.VM
section
variable{N:Nat}
end
end Go.VM
namespace Go.VM
section
variable{N:Nat}
end
end Go.VM
namespace Go.VM
section
variable{N:Nat}
end
end Go.VM
namespace Go.VM
section
variable{N:Nat}
end
end Go.VM
namespace Go.VM
section
variable{N:Nat}
end
end Go.VM
namespace Go.VM
section
variable{N:Nat}
def AlR (c:UInt8) (l:B8):(Bb c l)[0]?=some (BI c l).1:=by rw[Pw];split<;>rfl
end
end Go.VM
namespace Go.VM
section
variable{N:Nat}
def Af7 (l:B8):Bool:=!l.isEmpty&&l.all Gu
def AbW (l:B8):Int:=if((Ut 4611686018427387904 l).2 !=0)=true then 4611686018427387904 else(Ut 4611686018427387904 l).1
def ZJ (v:B8):Int×Bool:=if((Bb 44 v).all λx=>trimB x==trimB (BI 44 v).1&&Af7 (trimB (BI 44 v).1))=true then(AbW (trimB (BI 44 v).1),true)else(0,false)
def ABB (c:UInt8): ∀(n:Nat) (l:B8),l.length=n->∀x,x∈Bb c l->x.length<=l.length:=by
 intro n;induction n using Nat.strongRecOn with
 | _ n ih=>
  intro l hl x hx;rw[Pw]at hx;have h1:=Mj c l;split at hx
  ·rename_i h2;rcases aP.1 hx with rfl|hx;·exact h1.1
   ·have h3:=AOz h2;have:=ih _ fx (BI c l).2.1 rfl x hx;omega
  ·rw[aV.1 hx];exact h1.1
def ADH{F:B8} (hF:F.length<=1000000) (k6:Unit->Option (Int×Bool)) (hN:1000010<=N): ∀xs:List B8,(∀x,x∈xs->x.length<=1000000)->Hu N F k6 xs=if(xs.all λx=>trimB x==F&&Af7 F)=true then k6 ()else some (0,false)
 |[],_=>rfl
 | x::xs,h=>by
  have hx:=h x (.head _);rw[Hu,AAP fx fx,bl];simp only[AC,aa];cases h1:trimB x==F;·rfl
  ·simp only[aD,cD];rw[QQ _ fx,aa,ADH hF k6 hN xs λy hy=>h y (.tail _ hy)];unfold Af7;cases (!F.isEmpty&&F.all Gu);·rfl
   ·rfl
def ADx{F:B8} (k5:List B8->Option (Int×Bool)) (hN:1000010<=N): ∀(suf pre:List B8),(∀x,x∈suf->x.length<=1000000)->(pre++suf.map trimB).head?=some F->FN N k5 suf (pre.length:Int) (pre++suf)=if(suf.all λx=>trimB x==F&&Af7 F)=true then k5 (pre++suf.map trimB)else some (0,false)
 |[],pre,_,_=>by rw[FN];rfl
 |x::t,pre,h,hF=>by
  have hx:=h x (.head _);have hset:(pre++x::t).set ((pre.length:Nat):Int).toNat (trimB x)=(pre++[trimB x])++t:=fy;have hi0:idx ((pre++[trimB x])++t) 0=some F:=by rw[show(0:Int)=((0:Nat):Int)from rfl,Ei];cases pre with|nil=>simpa using hF|cons y pre=>simpa using hF
  have hii:idx ((pre++[trimB x])++t) (pre.length:Int)=some (trimB x):=by rw[aM];exact Uh pre t (trimB x)
  have ih:=ADx (F:=F) k5 hN t (pre++[trimB x]) (λy hy=>h y (.tail _ hy)) (by simpa using hF);rw[ah,be]at ih;have htl:=XT x;rw[FN,Uh,aa,AQQ fx fx,aa];simp only[AC,hset,hi0,hii,aa];rw[VY _ fx,aa,bl,show(pre.length:Int)+1=((pre.length+1:Nat):Int) by omega,ih];have hm:pre++[trimB x]++t.map trimB=pre++(x::t).map trimB:=fy;rw[hm];cases h1:trimB x==F;·cases (!(trimB x).isEmpty&&(trimB x).all Gu)<;>rfl
  ·rw[bc.1 h1];unfold Af7;cases (!F.isEmpty&&F.all Gu)<;>rfl
def Am7{v:B8} (hb:v.length<=1000000) (hN:1000010<=N):O1 N v=some (ZJ v):=by
 unfold O1;have hc:=Mj 44 v;have ht:=XT (BI 44 v).1;have hM: ∀l:B8,l.length<=1000000->IU N l 4611686018427387904=some (Ut 4611686018427387904 l):=λl hl=>ADv (m:=4611686018427387904) fx l fx;rw[SK _ _ fx,aa,AAP fx fx,aa,ADr _ _ hb];simp only[AC,aa];have hs: ∀x,x∈Bb 44 v->x.length<=1000000:=λx hx=>by have:=ABB 44 _ v rfl x hx;omega
 rw[BU (by have:=OA 44 v;omega),ADH fx _ hN _ hs,hM _ fx];unfold ZJ AbW;split;·rw[aa];generalize Ut 4611686018427387904 _=P;cases (P.2 !=0)<;>rfl
 ·rfl
def AYW{v:B8} (hb:v.length<=1000000) (hN:1000010<=N):LX N v=some (ZJ v):=by
 unfold LX;have hc:=Mj 44 v;have ht:=XT (BI 44 v).1;have hM: ∀l:B8,l.length<=1000000->IZ N l 4611686018427387904=some (Ut 4611686018427387904 l):=λl hl=>by unfold IZ;rw[show(4611686018427387904:Int)=((4611686018427387904:Nat):Int)from rfl,ABC fx fx _ fx,aa]
 have hsp:ATw (FQ N v 44)=some (Bb 44 v):=YF v 44 hb;have hs: ∀x,x∈Bb 44 v->x.length<=1000000:=λx hx=>by have:=ABB 44 _ v rfl x hx;omega
 have hh:((Bb 44 v).map trimB).head?=some (trimB (BI 44 v).1):=by have:=AlR 44 v;rw[<-fa]at this;rw[List.head?_map,this];rfl
 have hl:=ADx (N:=N) (F:=trimB (BI 44 v).1) (λj4=>(idx j4 0).bind λx20=>(IZ N x20 4611686018427387904).bind λy21=>if(y21.2 !=0)=true then some (4611686018427387904,true)else some (y21.1,true)) hN (Bb 44 v) [] hs hh;rw[hsp,aa];simp only[AC];rw[BU (by have:=OA 44 v;omega)];simp only[ap,bk]at hl;rw[show((0:Nat):Int)=0 from rfl]at hl;refine hl.trans ?_;have hi:idx ((Bb 44 v).map trimB) 0=some (trimB (BI 44 v).1):=by rw[show(0:Int)=((0:Nat):Int)from rfl,Ei,<-fa];exact hh
 rw[hi,aa,hM _ fx,aa];unfold ZJ AbW;split;·generalize Ut 4611686018427387904 _=P;cases (P.2 !=0)<;>rfl
 ·rfl
def AkC (m:Nat) (l:B8):0<=(Ut m l).1/\(Ut m l).1<=m:=by
 unfold Ut;split;·exact⟨br 0,fx⟩
 ·split
  ·split;·exact⟨by simp only;omega,by simp only;omega⟩
   ·exact⟨br 0,fx⟩
  ·exact⟨br 0,fx⟩
def Alr (l:B8):0<=AbW l/\AbW l<=4611686018427387904:=by unfold AbW;have:=AkC 4611686018427387904 l;split<;>omega
def Alq (v:B8):0<=(ZJ v).1/\(ZJ v).1<=4611686018427387904:=by
 unfold ZJ;split;·exact Alr _
 ·exact⟨br 0,(by show(0:Int)<=4611686018427387904;decide)⟩
def APA (name:B8): ∀fs:List ApiField,QW (F4 name fs)<=Dr fs
 |[]=>au _
 |f::fs=>by
  have ih:=APA name fs;unfold F4 QW Dr at *;rw[dr];split;·simp only[aF,cq];omega
  ·simp only[aF,cq];omega
def ASF{fs:List ApiField}{f:ApiField} (h:f∈fs):f.name.length+f.value.length<=Dr fs:=by
 induction fs with
 |nil=>cases h
 |cons g fs ih=>
  unfold Dr at *;rcases aP.1 h with rfl|h;·simp only[aF,cq];omega
  ·have:=ih h;simp only[aF,cq];omega
def AYC{h:ApiHead} (hh:Fok 16384 h.fields):hdB h:=⟨by have:=hh.1;omega,λf hf=>by have:=ASF hf;have:=hh.2;omega⟩
def AhB{h:ApiHead} (hh:Fok 16384 h.fields) (name:B8):(ABq h name).1.length<=20000:=by have h1:=APA name h.fields;have h2:=Ac0 [44,32] (F4 name h.fields);have h3:=APi name h.fields;obtain⟨h4,h5⟩:=hh;unfold ABq;simp only[ag,ap]at h2⊢;omega
set_option maxHeartbeats 4000000 in theorem AXC{h:ApiHead} (hh:Fok 16384 h.fields){a:B8} (hb:a.length<=1000000) (hN:1000010<=N){lim:Int} (hl9:lim<=9223372036854775807):Rt N h a lim=Gh N h a lim/\∃r,Gh N h a lim=some r/\r.1.length<=a.length/\(r.2=0\/r.2=4\/r.2=142\/r.2=190\/r.2=191):=by
 unfold Rt Gh;by_cases h0:lim<0;·rw[aq (aG h0),aq (aG h0)];exact⟨rfl,_,rfl,aJ _,.inr (.inl rfl)⟩
 ·have hd:=AYC hh;have hg1:=AhB hh [116,114,97,110,115,102,101,114,45,101,110,99,111,100,105,110,103];have hg2:=AhB hh [99,111,110,116,101,110,116,45,108,101,110,103,116,104];have hz:decide (lim<0)=false:=aO h0;simp only[hz,aj,aA];rw[AEK hd _ fA,AEK hd _ fA,Qg hd _ fA,Qg hd _ fA];generalize ABq h [116,114,97,110,115,102,101,114,45,101,110,99,111,100,105,110,103]=T at *;generalize ABq h [99,111,110,116,101,110,116,45,108,101,110,103,116,104]=L at *;obtain⟨r,c1,c2,c3,c4,c5⟩:=AKZ hb hN (lim:=lim) fx;have hlr:=Alq L.1;have wl:wr .u64 lim=lim:=Fx fx;have wa:wr .u64 (a.length:Int)=(a.length:Int):=Fx fx;simp only[AC,aa,lower_eq _ (show T.1.length<=2^60 by omega),Pt _ (show T.1.length<=2^60 by omega),Am7 (show L.1.length<=1000000 by omega) hN,AYW (show L.1.length<=1000000 by omega) hN,c1,c2,wl,wa];generalize ZJ L.1=Z at *;have fin: ∃q:B8×Int,((if decide (Z.1>lim)=true then some (([]:B8),(142:Int))else if decide ((a.length:Int)<Z.1)=true then some ([],191)else(sub a 0 Z.1).bind λx19=>some (x19,0))=some q)/\q.1.length<=a.length/\(q.2=0\/q.2=4\/q.2=142\/q.2=190\/q.2=191):=by
   by_cases e1:Z.1>lim;·rw[aq (aG e1)];exact⟨_,rfl,aJ _,.inr (.inr (.inl rfl))⟩
   ·rw[an (by simp only[aw];exact e1)];by_cases e2:(a.length:Int)<Z.1;·rw[aq (aG e2)];exact⟨_,rfl,aJ _,.inr (.inr (.inr (.inr rfl)))⟩
    ·obtain⟨n,hn⟩: ∃n:Nat,Z.1=(n:Int):=⟨Z.1.toNat,fx⟩;have hs:=Av a 0 n fx fx;rw[aL,bo,show((0:Nat):Int)=0 from rfl]at hs;rw[an (by simp only[aw];exact e2),hn,hs];exact⟨_,rfl,by simp only[ba];omega,.inl rfl⟩
  have fin2: ∃q:B8×Int,((if decide ((a.length:Int)>lim)=true then some (([]:B8),(142:Int))else some (a,0))=some q)/\q.1.length<=a.length/\(q.2=0\/q.2=4\/q.2=142\/q.2=190\/q.2=191):=by
   split;·exact⟨_,rfl,aJ _,.inr (.inr (.inl rfl))⟩
   ·exact⟨_,rfl,au _,.inl rfl⟩
  have bare: ∃q:B8×Int,some (([]:B8),(0:Int))=some q/\q.1.length<=a.length/\(q.2=0\/q.2=4\/q.2=142\/q.2=190\/q.2=191):=⟨_,rfl,aJ _,.inl rfl⟩;have bad: ∃q:B8×Int,some (([]:B8),(190:Int))=some q/\q.1.length<=a.length/\(q.2=0\/q.2=4\/q.2=142\/q.2=190\/q.2=191):=⟨_,rfl,aJ _,.inr (.inr (.inr (.inl rfl)))⟩;have ch:(if(r.2 !=0)=true then some (([]:B8),r.2)else some (r.1,0))=some (r.1,r.2):=by
   by_cases e:r.2=0;·rw[an (by rw[e];decide),e]
   ·rw[aq (by simpa using e),c5 e]
  obtain⟨q1,f1,f2,f3⟩:=fin;obtain⟨q2,g1,g2,g3⟩:=fin2;have rok:r.2=0\/r.2=4\/r.2=142\/r.2=190\/r.2=191:=fx;simp only[f1,g1,ch];generalize decide (h.status>=100)=b1;generalize decide (h.status<=199)=b2;generalize (h.status==204)=b3;generalize (h.status==304)=b4;generalize (List.map E9 T.1==[99,104,117,110,107,101,100])=b5;generalize T.2=t2;generalize L.2=l2;generalize Z.2=z2;have e1: ∃q:B8×Int,some q1=some q/\q.1.length<=a.length/\(q.2=0\/q.2=4\/q.2=142\/q.2=190\/q.2=191):=⟨_,rfl,f2,f3⟩;have e2: ∃q:B8×Int,some q2=some q/\q.1.length<=a.length/\(q.2=0\/q.2=4\/q.2=142\/q.2=190\/q.2=191):=⟨_,rfl,g2,g3⟩;have e3: ∃q:B8×Int,some (r.1,r.2)=some q/\q.1.length<=a.length/\(q.2=0\/q.2=4\/q.2=142\/q.2=190\/q.2=191):=⟨_,rfl,c3,rok⟩;cases t2
  ·cases l2;·cases b1<;>cases b2<;>cases b3<;>cases b4<;>simp only[aD,aA,aj,dL]<;>first|exact bare|exact e2
   ·cases z2<;>cases b1<;>cases b2<;>cases b3<;>cases b4<;>simp only[aD,aA,aj,dL]<;>first|exact bare|exact bad|exact e1
  ·cases l2;·cases b5<;>cases b1<;>cases b2<;>cases b3<;>cases b4<;>simp only[aD,aA,aj,bL,bE,dL]<;>first|exact bare|exact bad|exact e3
   ·cases b1<;>cases b2<;>cases b3<;>cases b4<;>simp only[aD,aA,aj,dL]<;>first|exact bare|exact bad
end
end Go.VM
namespace Go.VM
section
variable{N:Nat}
end
end Go.VM
namespace Go.VM
section
variable{N:Nat}
def ABH:B8:=[104,116,116,112,115]
def ARH:RJ ABH:=by unfold RJ;decide
def Aql (u:ApiURL):B8:=[47,47]++(hpF u.host u.port++(ML u++if u.hasFrag=true then [35]++u.fragment else []))
def AEx (u:ApiURL):KP u=ABH++58::Aql u:=by unfold KP Aql ABH;split<;>simp
def eqU (u v:ApiURL):Bool:=u.host==v.host&&(u.port==v.port&&(u.path==v.path&&(u.query==v.query&&(u.fragment==v.fragment&&(u.hasQuery==v.hasQuery&&u.hasFrag==v.hasFrag)))))
def PH (N:Nat) (u:ApiURL):Bool:=if((Acp N ABH (Aql u)).2==0)=true then eqU u (Acp N ABH (Aql u)).1 else false
def RI (u:ApiURL) (h:Xp u) (hb:(KP u).length<=1000000) (hN:20000<=N):Ih N u=some (PH N u):=by rw[AEx]at hb;unfold Ih PH;rw[Z4 u h fx,aa,AEx,ApS ARH hb hN,aa];split<;>rfl
def RN (u:ApiURL) (h:Xp u) (hb:(KP u).length<=1000000) (hN:20000<=N):Jc N u=some (PH N u):=by rw[AEx]at hb;unfold Jc PH;rw[TE u h fx,aa,AEx,AoP ARH hb hN,aa];split<;>rfl
end
end Go.VM
namespace Go.VM
section
variable{N:Nat}
def AQW (b r:B8):B8:=match PU b b.length with|some i=>b.take (i+1)++r|none=>r
def Ws (a b:ApiURI):B8:=if(a.hasAuthority&&(a.path==[]))=true then 47::b.path else AQW a.path b.path
theorem Ai0 (b r:B8):(AQW b r).length<=b.length+r.length:=by grind[AQW]
def Zy (a b:ApiURI):(Ws a b).length<=a.path.length+b.path.length+1:=by grind[Ws,Ai0]
def AZU (a b:ApiURI) (ha:a.path.length<=100000) (hb:b.path.length<=100000) (hN:1000000<=N):Rf N a b=some (if preB [47] b.path=true then b.path else Ws a b):=by
 unfold Rf Ws;rw[UG,aa];by_cases h:preB [47] b.path=true;·grind
 rw[an h,an h];refine(JA (a:=a.hasAuthority&&(a.path==[])) λk=>by cases a.hasAuthority<;>rfl).trans ?_;by_cases h2:(a.hasAuthority&&(a.path==[]))=true;·rw[aq h2,aq h2,BU (by grind)];rfl
 rw[an h2,an h2,ADW _ fx fx,aa];unfold AQW;cases h3:PU a.path a.path.length with|none=>dsimp only;rw[show sub a.path 0 (wr .i64 ((-1:Int)+1))=some []from by rw[show wr .i64 ((-1:Int)+1)=((0:Nat):Int)from rfl,show(0:Int)=((0:Nat):Int)from rfl,Av _ 0 0 (au _) (aJ _)];simp,aa,BU (by grind)];rfl|some i=>have:=Wv h3;dsimp only;rw[show wr .i64 ((i:Int)+1)=((i+1:Nat):Int) by grind[Aq],show(0:Int)=((0:Nat):Int)from rfl,Av _ 0 _ (aJ _) fx,aa,aL,bo,BU (by grind)]
def YS{a b:ApiURI} (ha:a.path.length<=100000) (hb:b.path.length<=100000): ∀(n k:Nat),n<=a.path.length->n<k->FJ N a b (λ_=>some b.path) k ((n:Int)-1)=some (match PU a.path n with|some i=>a.path.take (i+1)++b.path|none=>b.path)
 |n,0,_,h=>by omega
 |0,k+1,_,_=>by rw[FJ,an fA];rfl
 |n+1,k+1,hn,hk=>by
  rw[FJ,aq fy,show((n+1:Nat):Int)-1=(n:Int) by omega,Ei,aQ fx,aa,b47,PU,aQ fx];by_cases h:a.path[n]=47;·rw[aG h,aq rfl,aq (by rw[h]),show wr .i64 ((n:Int)+1)=((n+1:Nat):Int) by grind[Aq],show(0:Int)=((0:Nat):Int)from rfl,Av _ 0 _ (aJ _) fx,aa,aL,bo,BU (by grind)]
  ·rw[aO h,an fA,an (by grind),Aq fx];exact YS ha hb n k fx fx
def ATt (a b:ApiURI) (ha:a.path.length<=100000) (hb:b.path.length<=100000) (hN:1000000<=N):NS N a b=some (Ws a b):=by
 unfold NS Ws AQW;refine(JA (a:=a.hasAuthority&&(a.path==[])) λk=>by cases a.hasAuthority<;>rfl).trans ?_;by_cases h2:(a.hasAuthority&&(a.path==[]))=true;·rw[aq h2,aq h2,BU (by grind)];rfl
 rw[an h2,an h2,AC,Aq fx,YS ha hb a.path.length N (au _) fx]
def ABk (N:Nat) (a b:ApiURI):ApiURI:=if b.hasScheme=true then⟨b.scheme,b.authority,KQ N b.path [],b.query,b.fragment,b.hasScheme,b.hasAuthority,b.hasQuery,b.hasFrag⟩else if b.hasAuthority=true then⟨a.scheme,b.authority,KQ N b.path [],b.query,b.fragment,a.hasScheme,b.hasAuthority,b.hasQuery,b.hasFrag⟩else if(b.path==[])=true then if b.hasQuery=true then⟨a.scheme,a.authority,a.path,b.query,b.fragment,a.hasScheme,a.hasAuthority,b.hasQuery,b.hasFrag⟩else⟨a.scheme,a.authority,a.path,a.query,b.fragment,a.hasScheme,a.hasAuthority,a.hasQuery,b.hasFrag⟩else⟨a.scheme,a.authority,KQ N (if preB [47] b.path=true then b.path else Ws a b) [],b.query,b.fragment,a.hasScheme,a.hasAuthority,b.hasQuery,b.hasFrag⟩
def Aqh (a b:ApiURI) (h:a.path.length+b.path.length<=36000) (hN:1000000<=N):Oi N a b=some (ABk N a b):=by
 unfold Oi ABk;have ml:=Zy a b;dsimp only[AC];cases h1:b.hasScheme;rotate_left;·rw[aq rfl,aq rfl,ABM _ fx fx,aa]
 simp only[aj,aA];cases h2:b.hasAuthority;rotate_left;·simp only[aD];rw[ABM _ fx fx,aa]
 simp only[aj,aA];by_cases h3:(b.path==[])=true;·simp only[h3,aD];cases b.hasQuery<;>rfl
 simp only[an h3];rw[AZU a b fx fx hN,aa,ABM _ fx (by split<;>omega),aa]
def Ava{c:UInt8}{t:B8}:preB [47] (c::t)=(c==47):=by grind[preB]
def Apc (a b:ApiURI) (h:a.path.length+b.path.length<=36000) (hN:1000000<=N):MC N a b=some (ABk N a b):=by
 unfold MC ABk;have ml:=Zy a b;dsimp only[AC];cases h1:b.hasScheme;rotate_left;·rw[aq rfl,aq rfl,Wl _ fx fx,aa]
 simp only[aj,aA];cases h2:b.hasAuthority;rotate_left;·simp only[aD];rw[Wl _ fx fx,aa]
 simp only[aj,aA];by_cases h3:(b.path==[])=true;·simp only[h3,aD];cases b.hasQuery<;>rfl
 simp only[an h3];rw[ATt a b fx fx hN,aa,Wl _ fx fx,aa];cases hp:b.path with
 |nil=>simp_all
 |cons c t=>
  rw[show idx (c::t) 0=some c from rfl,aa,b47,Ava];by_cases h4:c=47;·rw[aG h4,aq rfl,aq (by grind),Wl _ fx (by grind),aa]
  simp_all
def AVA (u:ApiURI):B8:=(((((if u.hasScheme=true then u.scheme++[58]else [])++(if u.hasAuthority=true then [47,47]++u.authority else []))++u.path)++(if u.hasQuery=true then [63]++u.query else []))++(if u.hasFrag=true then [35]++u.fragment else []))
def uB (u:ApiURI) (n:Nat):Prop:=u.scheme.length<=n/\u.authority.length<=n/\u.path.length<=n/\u.query.length<=n/\u.fragment.length<=n
def XM (f:Bool) (x y:B8) (d:Bool) (b:B8) (h:b.length+x.length+y.length<=1000000000): ∃d',Ht N f [x,y] ⟨d,b⟩=some ⟨d',b++(if f=true then x++y else [])⟩:=by
 unfold Ht;rw[BU fy];cases f;·refine⟨d,?_⟩;simp only[G7,AC,aj,aA,bz]
 ·refine⟨true,?_⟩;simp only[G7,AC,aD];rw[Vl _ _ _ fx,aa,Vl _ _ _ (by rw[ah];omega),aa,aM]
def Aco (x:B8) (d:Bool) (b:B8) (h:b.length+x.length<=1000000000):Ht N true [x] ⟨d,b⟩=some ⟨true,b++x⟩:=by unfold Ht;rw[BU fy];simp only[G7,AC,aD];rw[Vl _ _ _ fx,aa]
def AJ0 (u:ApiURI) (h:uB u 1000000):TN N u=some (AVA u):=by
 obtain⟨h1,h2,h3,h4,h5⟩:=h;unfold TN letL AVA;dsimp only;obtain⟨d1,e1⟩:=XM (N:=N) u.hasScheme u.scheme [58] false [] (by grind);rw[e1,aa,bk];generalize hA:(if u.hasScheme=true then u.scheme++[58]else [])=A;have lA:A.length<=1000001:=by grind
 obtain⟨d2,e2⟩:=XM (N:=N) u.hasAuthority [47,47] u.authority d1 A (by grind);rw[e2,aa];generalize hB:(if u.hasAuthority=true then [47,47]++u.authority else [])=B;have lB:B.length<=1000002:=by grind
 rw[Aco _ _ _ (by grind),aa];obtain⟨d3,e3⟩:=XM (N:=N) u.hasQuery [63] u.query true ((A++B)++u.path) (by grind);rw[e3,aa];generalize hC:(if u.hasQuery=true then [63]++u.query else [])=C;have lC:C.length<=1000001:=by grind
 obtain⟨d4,e4⟩:=XM (N:=N) u.hasFrag [35] u.fragment d3 (((A++B)++u.path)++C) (by grind);rw[e4,aa];rfl
def AkJ (u:ApiURI) (h:uB u 1000000):P5 N u=some (AVA u):=by
 obtain⟨h1,h2,h3,h4,h5⟩:=h;unfold P5 AVA;generalize hA:(if u.hasScheme=true then u.scheme++[58]else [])=A;have lA:A.length<=1000001:=by grind
 refine(JA (a:=A) λk=>?_).trans ?_;·grind[BU]
 generalize hB:(if u.hasAuthority=true then [47,47]++u.authority else [])=B;have lB:B.length<=1000002:=by grind
 refine(JA (a:=A++B) λk=>?_).trans ?_
 ·rw[<-hB];split;·rw[BU fB,BU fB]
  ·rw[bz]
 rw[BU (by grind)];generalize hC:(if u.hasQuery=true then [63]++u.query else [])=C;have lC:C.length<=1000001:=by grind
 refine(JA (a:=((A++B)++u.path)++C) λk=>?_).trans ?_
 ·rw[<-hC];split;·rw[BU fB,BU (by simp only[ah,ag,ap];omega)]
  ·rw[bz]
 refine(JA (a:=(((A++B)++u.path)++C)++(if u.hasFrag=true then [35]++u.fragment else [])) λk=>?_).trans rfl;split;·rw[BU fB,BU (by simp only[ah,ag,ap];omega)]
 ·rw[bz]
def AYb{u:ApiURI}{n:Nat} (h:uB u n):(AVA u).length<=5 * n+6:=by obtain⟨h1,h2,h3,h4,h5⟩:=h;unfold AVA;simp only[ah];grind
def AYF{a b:ApiURI}{n:Nat} (ha:uB a n) (hb:uB b n):uB (ABk N a b) (2 * n+1):=by
 obtain⟨a1,a2,a3,a4,a5⟩:=ha;obtain⟨b1,b2,b3,b4,b5⟩:=hb;have ml:=Zy a b;have d1:=NN N b.path [];have d2:=NN N (if preB [47] b.path=true then b.path else Ws a b) [];have d3:(if preB [47] b.path=true then b.path else Ws a b).length<=2 * n+1:=by split<;>omega
 grind[ABk,uB]
def AFD (N:Nat) (a:ApiURL) (r:B8):ApiURL×Int:=if PH N a=true then if((Mv r).2 !=0)=true then(Oy,(Mv r).2)else if((ABk N (Mv (KP a)).1 (Mv r).1).scheme.map E9==List.map E9 [104,116,116,112,115])=true then ACG N (AVA (ABk N (Mv (KP a)).1 (Mv r).1))else(Oy,253)else(Oy,8)
def AK9{s:B8}{n:Nat} (h:s.length<=n):uB (Mv s).1 n:=by obtain⟨l1,l2,l3,l4,l5⟩:=Qp s;exact⟨fx,fx,fx,fx,fx⟩
def An3 (a:ApiURL) (r:B8) (h:Xp a) (hw:(KP a).length<=5000) (hr:r.length<=20000) (hN:1000000<=N):IG N a r=some (AFD N a r):=by
 unfold IG AFD;rw[RI a h fx fx,aa];cases PH N a;·rfl
 simp only[aD];rw[Z4 a h fx,aa,SH _ fx fx,aa,SH _ fx fx,aa];by_cases h2:((Mv r).2 !=0)=true;·rw[aq h2,aq h2];rfl
 rw[an h2,an h2];have u1:=AK9 (s:=KP a) (n:=20000) fx;have u2:=AK9 (s:=r) (n:=20000) hr;have p1:=(Qp (KP a)).2.1;have p2:=(Qp r).2.1;rw[Aqh _ _ fx hN,aa];have u3:=AYF (N:=N) u1 u2;generalize ABk N (Mv (KP a)).1 (Mv r).1=U at *;rw[Xa _ _ (by have:=u3.1;omega) fA,aa];cases (U.scheme.map E9==List.map E9 [104,116,116,112,115]);·rfl
 simp only[aD];have j:=AYb u3;rw[AJ0 U ⟨by have:=u3.1;omega,by have:=u3.2.1;omega,by have:=u3.2.2.1;omega,by have:=u3.2.2.2.1;omega,by have:=u3.2.2.2.2;omega⟩,aa,ARj _ fx fx,aa]
def Anv (a:ApiURL) (r:B8) (h:Xp a) (hw:(KP a).length<=5000) (hr:r.length<=20000) (hN:1000000<=N):LV N a r=some (AFD N a r):=by
 unfold LV AFD;rw[RN a h fx fx,aa];cases PH N a;·rfl
 simp only[aD];rw[TE a h fx,aa,Vq _ fx,aa,Vq _ fx,aa];by_cases h2:((Mv r).2 !=0)=true;·rw[aq h2,aq h2];rfl
 rw[an h2,an h2];have u1:=AK9 (s:=KP a) (n:=20000) fx;have u2:=AK9 (s:=r) (n:=20000) hr;have p1:=(Qp (KP a)).2.1;have p2:=(Qp r).2.1;rw[Apc _ _ fx hN,aa];have u3:=AYF (N:=N) u1 u2;generalize ABk N (Mv (KP a)).1 (Mv r).1=U at *;rw[Xk _ _ (by have:=u3.1;omega) fA,aa];cases (U.scheme.map E9==List.map E9 [104,116,116,112,115]);·rfl
 simp only[aD];have j:=AYb u3;rw[AkJ U ⟨by have:=u3.1;omega,by have:=u3.2.1;omega,by have:=u3.2.2.1;omega,by have:=u3.2.2.2.1;omega,by have:=u3.2.2.2.2;omega⟩,aa,AQl _ fx fx,aa]
end
end Go.VM
namespace Go.VM
section
variable{N:Nat}
theorem Aua (U:ApiURI) (h:U.path.length<=100000/\U.query.length<=100000/\U.fragment.length<=100000):Xp (AVU N U).1/\(KP (AVU N U).1).length<=4096:=by
 have z:Xp Oy/\(KP Oy).length<=4096:=⟨⟨⟨br _,fA⟩,fA,fA,fA,fA⟩,fA⟩;have q1:=AW7 U.authority;have q2:=AKi U.authority;have n1:=MW (N:=N) U.path inP;have n2:=MW (N:=N) U.query inQ;have n3:=MW (N:=N) U.fragment inQ;have pl:=Z7 (N:=N) (EA N U.path inP).1;unfold AVU;split;·exact z
 split;·exact z
 split;·exact z
 split;·exact z
 split;·exact z
 split;·exact z
 split;·exact z
 ·rename_i hl;exact⟨⟨q1,by grind,by grind,by grind,by grind⟩,by grind⟩
theorem AuT (s:B8):Xp (ACG N s).1/\(KP (ACG N s).1).length<=4096:=by have z:Xp Oy/\(KP Oy).length<=4096:=⟨⟨⟨br _,fA⟩,fA,fA,fA,fA⟩,fA⟩;grind[ACG,Qp,Aua]
def AtU (a:ApiURL) (r:B8):Xp (AFD N a r).1/\(KP (AFD N a r).1).length<=4096:=by have z:Xp Oy/\(KP Oy).length<=4096:=⟨⟨⟨br _,fA⟩,fA,fA,fA,fA⟩,fA⟩;grind[AFD,AuT]
end
end Go.VM
namespace Go.VM
section
variable{N:Nat}
def LP (u:ApiURL):Prop:=Xp u/\(KP u).length<=4096
def ABA:LP Oy:=⟨⟨⟨br _,fA⟩,fA,fA,fA,fA⟩,fA⟩
def Qu (u:ApiURL):ApiURL:=⟨u.host,u.port,u.path,u.query,[],u.hasQuery,false⟩
theorem ADT{u:ApiURL} (h:LP u):LP (Qu u):=by
 obtain⟨⟨h1,h2,h3,h4,h5⟩,h6⟩:=h;refine⟨⟨h1,h2,h3,h4,aJ _⟩,?_⟩;have e1:KP (Qu u)=([104,116,116,112,115,58,47,47]++hpF u.host u.port)++ML u:=rfl;have e2:(([104,116,116,112,115,58,47,47]++hpF u.host u.port)++ML u).length<=(KP u).length:=by
  unfold KP;split;·rw[ah (as:=([104,116,116,112,115,58,47,47]++hpF u.host u.port)++ML u)];omega
  ·exact au _
 rw[e1];omega
def QY (a b:ApiURL):Bool:=a.host==b.host&&(a.port==b.port&&(a.path==b.path&&(a.query==b.query&&(a.fragment==b.fragment&&(a.hasQuery==b.hasQuery&&a.hasFrag==b.hasFrag)))))
def SX{α:Type} [BEq α] [LawfulBEq α] (a b:α):(a==b)=(b==a):=by
 by_cases h:a=b;·subst h;rfl
 ·rw[bw.2 h,bw.2 (dD h)]
def Ada (a b:ApiURL):QY a b=QY b a:=by unfold QY;rw[SX a.host,SX a.port,SX a.path,SX a.query,SX a.fragment,SX a.hasQuery,SX a.hasFrag]
def AjI (s:Int):Ex N s=Fu N s/\∃b,Fu N s=some b:=by
 unfold Ex Fu;simp only[AC];by_cases h1:s=301;·subst h1;exact⟨rfl,_,rfl⟩
 by_cases h2:s=302;·subst h2;exact⟨rfl,_,rfl⟩
 by_cases h3:s=303;·subst h3;exact⟨rfl,_,rfl⟩
 by_cases h4:s=307;·subst h4;exact⟨rfl,_,rfl⟩
 by_cases h5:s=308;·subst h5;exact⟨rfl,_,rfl⟩
 have e1:(s==301)=false:=bw.2 h1;have e2:(s==302)=false:=bw.2 h2;have e3:(s==303)=false:=bw.2 h3;have e4:(s==307)=false:=bw.2 h4;have e5:(s==308)=false:=bw.2 h5;simp only[e1,e2,e3,e4,e5,aj,aA];by_cases g:s>=301;·rw[aq (aG g),an (by simp only[aw];omega)];exact⟨rfl,_,rfl⟩
 ·rw[an (by simp only[aw];exact g)];exact⟨rfl,_,rfl⟩
def ADj (u:ApiURL) (k2:Unit->Option Int) (hk:k2 ()=some (-1)): ∀(l:List ApiURL) (i:Int),0<=i->∃r,BN N u k2 l i=some r/\decide (r>=0)=l.any (QY u)
 |[],i,_=>⟨-1,hk,rfl⟩
 |x::l,i,hi=>by
  rw[BN,cP];show∃r,(if QY u x=true then some i else _)=some r/\_;cases h:QY u x;·obtain⟨r,h1,h2⟩:=ADj u k2 hk l (i+1) fx;exact⟨r,h1,by simpa using h2⟩
  ·exact⟨i,rfl,by simpa using hi⟩
def AhA (u:ApiURL) (l:List ApiURL) (hl:l.length<=1000000):Ci N l u=some (l.any (QY u)):=by unfold Ci EL;rw[AC,BU fx];obtain⟨r,h1,h2⟩:=ADj (N:=N) u (λ_=>some (-1)) rfl l 0 (br _);rw[h1,aa,h2]
def ABT (u:ApiURL) (k14:Unit->Option (ApiURL×Int)): ∀l:List ApiURL,Iy N u k14 l=if l.any (QY u)=true then some (Oy,251)else k14 ()|[]=>rfl|x::l=>by rw[Iy,cP,ABT u k14 l];show(if QY x u=true then _ else _)=_;rw[Ada x u];cases QY u x<;>rfl
def AkL{name v:B8}{fs:List ApiField} (h:v∈F4 name fs):v.length<=Dr fs:=by unfold F4 at h;obtain⟨f,hf,rfl⟩:=bD.1 h;have:=ASF (List.mem_filter.1 hf).1;omega
theorem AWz{u:ApiURL} (hu:LP u){h:ApiHead} (hh:Fok 16384 h.fields){l:List ApiURL} (hl:l.length<=1000000) (c:Int) (hN:1000010<=N):MG N u h l c=Mt N u h l c/\∃r,Mt N u h l c=some r/\LP r.1:=by
 unfold MG Mt;by_cases h5:c>=5;·rw[aq (aG h5),aq (aG h5)];exact⟨rfl,_,rfl,ABA⟩
 ·have hd:=AYC hh;have e5:decide (c>=5)=false:=aO h5;simp only[e5,aj,aA];rw[AQ7 hd _ fA,ATD hd _ fA,aa,aa];have hv: ∀v,v∈F4 [108,111,99,97,116,105,111,110] h.fields->v.length<=16384:=λv hv=>by have:=AkL hv;have:=hh.2;omega
  generalize F4 [108,111,99,97,116,105,111,110] h.fields=V at *;match V,hv with
  |[],_=>exact⟨rfl,_,rfl,ABA⟩
  |x::y::t,_=>
   have e:((((x::y::t:List B8).length:Nat):Int) !=1)=true:=by simp;omega
   rw[aq e,aq e];exact⟨rfl,_,rfl,ABA⟩
  | [v],hv=>
   have hvl:=hv v (.head _);have e:(((([v]:List B8).length:Nat):Int) !=1)=false:=rfl;have hi:idx [v] 0=some v:=rfl;have hg:LP (AFD N u v).1:=AtU u v;simp only[e,aj,aA,AC,hi,aa];rw[An3 u v hu.1 (by have:=hu.2;omega) fx fx,Anv u v hu.1 (by have:=hu.2;omega) fx fx,aa,aa];generalize AFD N u v=R at *;unfold OM;have hb:=ADT hg;simp only[aa];rw[BU fx,AhA _ _ hl,ABT,aa];cases h1:R.2==253
   ·cases h2:R.2 !=0
    ·simp only[aj,aA];show((if l.any (QY (Qu R.1))=true then _ else _)=(if l.any (QY (Qu R.1))=true then _ else _))/\_;cases h3:l.any (QY (Qu R.1));·exact⟨rfl,(Qu R.1,0),by show(if l.any (QY (Qu R.1))=true then _ else _)=_;rw[h3];rfl,hb⟩
     ·exact⟨rfl,(Oy,251),by show(if l.any (QY (Qu R.1))=true then _ else _)=_;rw[h3];rfl,ABA⟩
    ·exact⟨rfl,_,rfl,ABA⟩
   ·exact⟨rfl,_,rfl,ABA⟩
end
end Go.VM
namespace Go.VM
section
variable{N:Nat}
def AMS (a:ApiAnswer) (u:ApiURL) (t:Int):Bool:=if a.host==u.host then if a.port==u.port then if a.target==ML u then if decide (a.from_<=t)then if a.until_==0 then true else decide (a.until_>t)else false else false else false else false
def AVx (a:ApiAnswer):B8×Int:=if(a.fail==1)=true then([],240)else if(a.fail==2)=true then([],241)else if(a.fail==3)=true then([],242)else if(a.fail==4)=true then([],243)else(a.raw,0)
def Apa (a:ApiAnswer) (u:ApiURL) (t:Int):H5 N ⟨⟨u.host,u.port⟩,ML u,t⟩ a=some (AMS a u t):=by unfold H5 PY AMS;simp only[aa];cases a.host==u.host<;>cases a.port==u.port<;>cases a.target==ML u<;>cases decide (a.from_<=t)<;>cases a.until_==0<;>rfl
def ApZ (a:ApiAnswer){u:ApiURL} (hu:LP u) (t:Int):QN N a u t=some (AMS a u t):=by unfold QN AMS;rw[Wy u ⟨hu.1.2.2.1,hu.1.2.2.2.1⟩];simp only[aa];cases a.host==u.host<;>cases a.port==u.port<;>cases a.target==ML u<;>cases decide (a.from_<=t)<;>cases a.until_==0<;>rfl
def ADo (u:ApiURL) (t:Int) (k2:Unit->Option Int) (hk:k2 ()=some (-1)): ∀(l pre:List ApiAnswer),∃r,AZ N ⟨⟨u.host,u.port⟩,ML u,t⟩ k2 l (pre.length:Int)=some r/\(match l.find? λa=>AMS a u t with|none=>r= -1|some a=>0<=r/\idx (pre++l) r=some a)
 |[],pre=>⟨-1,hk,rfl⟩
 | x::l,pre=>by
  rw[AZ,Apa,aa,List.find?_cons];cases h:AMS x u t
  ·obtain⟨r,h1,h2⟩:=ADo u t k2 hk l (pre++[x]);rw[ah,be]at h1;refine⟨r,?_,?_⟩;·rw[an fA,show(pre.length:Int)+1=((pre.length+1:Nat):Int) by omega];exact h1
   ·rw[aM]at h2;exact h2
  ·exact⟨_,rfl,fx,Uh pre l x⟩
def ADq{u:ApiURL} (hu:LP u) (t:Int) (k4:Unit->Option (B8×Int)): ∀l:List ApiAnswer,Jp N u t k4 l=match l.find? λa=>AMS a u t with|none=>k4 ()|some a=>some (AVx a)
 |[]=>rfl
 |x::l=>by
  rw[Jp,ApZ x hu,aa,List.find?_cons,ADq hu t k4 l];cases h:AMS x u t;·rfl
  ·simp only[aD];unfold AVx;cases x.fail==1<;>cases x.fail==2<;>cases x.fail==3<;>cases x.fail==4<;>rfl
theorem AbD{u:ApiURL} (hu:LP u){l:List ApiAnswer} (hl:l.length<=1000000) (t:Int){B:Nat} (hB: ∀a,a∈l->a.raw.length<=B) (hN:1000010<=N):Rh N l u t=Px N l u t/\∃r,Px N l u t=some r/\r.1.length<=B/\(r.2=0->∃a,a∈l/\r.1=a.raw):=by
 unfold Rh Px;rw[RI u hu.1 (by have:=hu.2;omega) fx,RN u hu.1 (by have:=hu.2;omega) fx,aa,aa];cases PH N u;·exact⟨rfl,_,rfl,aJ _,λh=>by cases h⟩
 ·have ho:KM N u=some ⟨u.host,u.port⟩:=rfl;simp only[aD,AC,ho,AOg u ⟨hu.1.2.2.1,hu.1.2.2.2.1⟩,aa];unfold Au;obtain⟨r,h1,h2⟩:=ADo (N:=N) u t (λ_=>some (-1)) rfl l [];rw[AC,BU fx,BU fx,ADq hu];rw[ap,show((0:Nat):Int)=0 from rfl]at h1;rw[h1,aa];cases hf:l.find? λa=>AMS a u t with
  |none=>rw[hf]at h2;simp only at h2;subst h2;exact⟨rfl,_,rfl,aJ _,λh=>by cases h⟩
  | some a=>
   rw[hf]at h2;obtain⟨h3,h4⟩:=h2;have ha:=hB a (eK hf);rw[an (by simp only[aw];omega)];rw[bk]at h4;rw[h4,aa];refine⟨?_,_,rfl,?_,?_⟩;·show _=some (AVx a);unfold AVx;cases a.fail==1<;>cases a.fail==2<;>cases a.fail==3<;>cases a.fail==4<;>rfl
   ·show(AVx a).1.length<=B;unfold AVx;split;·exact aJ _
    split;·exact aJ _
    split;·exact aJ _
    split;·exact aJ _
    ·exact ha
   ·intro h;refine⟨a,eK hf,?_⟩;revert h;unfold AVx;cases a.fail==1<;>cases a.fail==2<;>cases a.fail==3<;>cases a.fail==4<;>simp
end
end Go.VM
