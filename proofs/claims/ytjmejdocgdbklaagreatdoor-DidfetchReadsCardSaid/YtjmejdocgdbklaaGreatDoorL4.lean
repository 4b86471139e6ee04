import Derived.Test.YtjmejdocgdbklaaGreatDoorL3
set_option linter.defProp false
set_option linter.unusedVariables false
set_option linter.unusedSimpArgs false
namespace Go.VM
def AX (c:UInt8):B8->List B8 |[]=>[[]]|x::t=>if x=c then []::AX c t else(match AX c t with|p::ps=>(x::p)::ps|[]=>[[x]])
theorem Eu (c:UInt8): ∀l:B8,AX c l≠ [] |[]=>by simp[AX]| x::t=>by grind[AX]
def AS2 (cur:B8):List B8->List B8 |p::ps=>(cur++p)::ps|[]=>[cur]
def AWu{c x:UInt8}{t cur:B8} (h: ¬x=c):AS2 cur (AX c (x::t))=AS2 (cur++[x]) (AX c t):=by rw[AX,ae h];grind[AX,absurd,AS2]
def Jf (c:UInt8): ∀l:B8,(AX c l).length<=l.length+1 |[]=>by simp[AX]| x::t=>by have:=Jf c t;grind[AX]
def Ih (c:UInt8): ∀(l p:B8),p∈AX c l->p.length<=l.length
 |[],p,h=>by grind[AX]
 | x::t,p,h=>by
  rw[AX]at h;split at h
  ·rcases aL.1 h with rfl|h;·simp
   ·have:=Ih c t p h;grind
  ·split at h
   ·rename_i q qs hq;rcases aL.1 h with rfl|h;·have:=Ih c t q (by grind);grind
    ·have:=Ih c t p (by grind);grind
   grind
section
variable{N:Nat}
theorem AkA (x c:UInt8):(AC x==AC c)=decide (x=c):=by
 by_cases e:x=c;·grind
 ·have: ¬x.toNat=c.toNat:=λh=>e (ch.1 h);rw[aO e];simp only[AC,cd,dU];omega
def Te (l:B8) (c:UInt8) (hb:l.length<=1000000): ∀(t pre cur:B8) (out:List B8),l=pre++(cur++t)->out.length<=pre.length+cur.length->Gb N l (AC c) (λj1=>(sub l j1.2 (l.length:Int)).bind λx11=>grd (CW (j1.1.length+1) 16) (some (j1.1++[x11]))) t ((pre.length+cur.length:Nat):Int) out (pre.length:Int)=some (out++AS2 cur (AX c t))
 | [],pre,cur,out,h,ho=>by have hl:=a8 List.length h;simp only[an,ap]at hl;rw[Gb];dsimp only;rw[BB l pre.length l.length fy fy,aa,AJ (by grind[CW]),h,dW];simp[AX,AS2]
 | x::t,pre,cur,out,h,ho=>by
  have hl:=a8 List.length h;simp only[an,ag]at hl;rw[Gb,AA,AkA];by_cases e:x=c
  ·rw[aA e,ah rfl,BB l pre.length (pre.length+cur.length) fy fy,aa,AJ (by grind[CW])];dsimp only;have:=Te l c hb t (pre++cur++[x]) [] (out++[cur]) (by grind) (by grind);have e1:(l.drop pre.length).take (pre.length+cur.length-pre.length)=cur:=by grind
   rw[e1,AX,ah e];rw[show(((pre++cur++[x]).length+([]:B8).length:Nat):Int)=((pre.length+cur.length:Nat):Int)+1 by grind,show(((pre++cur++[x]).length:Nat):Int)=((pre.length+cur.length:Nat):Int)+1 by grind]at this;rw[this];cases hs:AX c t with |nil=>grind[absurd,Eu]|cons p ps=>simp[AS2]
  ·rw[aO e,ae fB,AWu e];dsimp only;have:=Te l c hb t pre (cur++[x]) out (by grind) (by grind);grind
def Pg (l:B8) (c:UInt8) (hb:l.length<=1000000):Hq N l (AC c)=some (AX c l):=by unfold Hq;rw[AA,BS fy];have:=Te (N:=N) l c hb l [] [] [] rfl fA;refine this.trans ?_;cases hs:AX c l with |nil=>grind[absurd,Eu]|cons p ps=>simp[AS2]
end
end Go.VM
namespace Go.VM
theorem M9 (c:UInt8): ∀l:B8,AX c l=if(AR c l).2.2=true then(AR c l).1::AX c (AR c l).2.1 else [(AR c l).1]
 |[]=>by simp[AX,AR]
 | x::t=>by
  have ih:=M9 c t;rw[AX];unfold AR at ih⊢;by_cases e:x=c;·simp_all
  ·have e1:(c==x)=false:=by grind
   have e3:(x !=c)=true:=by grind
   rw[ae e,bb,e1,be,aJ,e3];cases hc:t.contains c<;>simp_all
section
variable{N:Nat}
def Ao8 (l:B8):Bool:=!l.isEmpty&&l.all DI
def Ty (l:B8):Bool:=(AX 46 l).all Pv&&!Ao8 ((AX 46 l).getLast (Eu 46 l))
def AXB (l:B8):Ty l=(Pv (AR 46 l).1&&if(AR 46 l).2.2=true then Ty (AR 46 l).2.1 else !Ao8 (AR 46 l).1):=by
 have h:=M9 46 l;unfold Ty;cases hc:(AR 46 l).2.2;·simp_all
 ·rw[hc]at h;simp only[av]at h⊢;grind
def Aeg{c:UInt8}{l:B8} (h:(AR c l).2.2=true):(AR c l).2.1.length<l.length:=by
 unfold AR at h⊢;cases hc:l.contains c;·grind
 ·have h1:=Mf hc;have h2:(l.takeWhile (· !=c)).length+(l.dropWhile (· !=c)).length=l.length:=by grind[List.length_append,List.takeWhile_append_dropWhile]
  simp only[av,aB];omega
def Ai9 (c:UInt8) (l:B8):(AR c l).1.length<=l.length:=by
 unfold AR;split;·grind[KC]
 simp
def ACh: ∀(k:Nat) (l:B8),l.length<k->l.length<=2^60->JZ N k l=some (Ty l)
 |0,l,h,_=>by omega
 | k+1,l,h,hb=>by
  have h1:=Ai9 46 l;rw[JZ,Ml 46 l hb,aa,AWs _ fy,aa,AXB l];cases Pv (AR 46 l).1;·rfl
  ·rw[ah rfl,bF];cases hc:(AR 46 l).2.2;·rw[ae fB,TU _ fy,aa];rfl
   ·have:=Aeg hc;rw[ah rfl,ah rfl];exact ACh k _ fy fy
def AdN (l:B8) (hN:l.length<N) (hb:l.length<=2^60):Uh N l=some (Ty l):=ACh N l hN hb
def ABm (k4:Unit->Option Bool): ∀ps:List B8,(∀p,p∈ps->p.length<=2^60)->Hg N k4 ps=if ps.all Pv=true then k4 ()else some false |[],_=>by grind[Hg]| p::ps,h=>by rw[Hg,AZw p (h p fA),aa,ABm k4 ps λq hq=>h q (by grind),aI];cases Pv p<;>simp
def Aek (l:B8) (hb:l.length<=1000000):Pt N l=some (Ty l):=by
 have hl:=Jf 46 l;have hp:=Ih 46 l;have hne:=Eu 46 l;unfold Pt;rw[show(46:Int)=AC 46 from rfl,Pg l 46 hb,aa];dsimp only[AA];rw[BS fy,ABm _ _ λp h=>by grind];have hlast:idx (AX 46 l) (wr .i64 (((AX 46 l).length:Int)-1))=some ((AX 46 l).getLast hne):=by have:0<(AX 46 l).length:=bB.2 hne;rw[show wr .i64 (((AX 46 l).length:Int)-1)=(((AX 46 l).length-1:Nat):Int) by rw[AO fy];omega,Jt,<-dA,ce hne]
 have:=hp _ (eO hne);rw[hlast,aa,AR7 _ fy,aa];unfold Ty;cases (AX 46 l).all Pv;·rfl
 ·rfl
def ABj (l:B8):Bool:=decide ((AX 46 l).length=4)&&(AX 46 l).all λp=>(GY 255 p).2==0
def AEz (k4:Unit->Option Bool): ∀ps:List B8,(∀p,p∈ps->p.length<=2^60)->Fb N k4 ps=if(ps.all λp=>(GY 255 p).2==0)=true then k4 ()else some false |[],_=>by grind[Fb]| p::ps,h=>by rw[Fb,show(255:Int)=((255:Nat):Int)from rfl,ABU fB fB p (h p fA),aa,AEz k4 ps λq hq=>h q (by grind),aI];cases hx:((GY 255 p).2==0)<;>simp[bne,hx]
def AVj (l:B8) (hb:l.length<=1000000):Ld N l=some (ABj l):=by
 have hl:=Jf 46 l;have hp:=Ih 46 l;unfold Ld;rw[show(46:Int)=AC 46 from rfl,Pg l 46 hb,aa];dsimp only[AA];rw[BS fy,AEz _ _ λp h=>by grind];unfold ABj;have e:(((AX 46 l).length:Int)==4)=decide ((AX 46 l).length=4):=by grind
 rw[e];cases ((AX 46 l).all λp=>(GY 255 p).2==0)<;>simp
end
end Go.VM
namespace Go.VM
section
variable{N:Nat}
def TL:B8:=[123,125,91,93,58,44]
def isWord (w:B8):Bool:=w==[116,114,117,101]||(w==[102,97,108,115,101]||w==[110,117,108,108])
def RI (e:Int):ApiToken×Int×Int:=(ApiToken.mk 0 [] 0,0,e)
def AAy (N:Nat) (p:Nat) (t:B8):ApiToken×Int×Int:=match t with |[]=>(ApiToken.mk 1 [] p,p,0)| c::r=>if TL.contains c=true then(ApiToken.mk 2 [c] p,((p+1:Nat):Int),0) else if c.toNat=34 then if(H6 N r (p+1) []).2.2=0 then(ApiToken.mk 3 (H6 N r (p+1) []).1 p,((H6 N r (p+1) []).2.1:Int),0)else RI (H6 N r (p+1) []).2.2 else if(([45]:B8).contains c||DI c)=true then if Fh (c::r)=0 then RI 130 else(ApiToken.mk 4 ((c::r).take (Fh (c::r))) p,((p+Fh (c::r):Nat):Int),0) else if isWord ((c::r).takeWhile BU)=true then(ApiToken.mk 5 ((c::r).takeWhile BU) p,((p+((c::r).takeWhile BU).length:Nat):Int),0) else RI 130
theorem Yy (N p:Nat) (c:UInt8) (r:B8):AAy N p (c::r)=(if TL.contains c=true then(ApiToken.mk 2 [c] p,((p+1:Nat):Int),0) else if c.toNat=34 then if(H6 N r (p+1) []).2.2=0 then(ApiToken.mk 3 (H6 N r (p+1) []).1 p,((H6 N r (p+1) []).2.1:Int),0)else RI (H6 N r (p+1) []).2.2 else if(([45]:B8).contains c||DI c)=true then if Fh (c::r)=0 then RI 130 else(ApiToken.mk 4 ((c::r).take (Fh (c::r))) p,((p+Fh (c::r):Nat):Int),0) else if isWord ((c::r).takeWhile BU)=true then(ApiToken.mk 5 ((c::r).takeWhile BU) p,((p+((c::r).takeWhile BU).length:Nat):Int),0) else RI 130):=rfl
def Py (N:Nat) (l:B8) (i:Nat):ApiToken×Int×Int:=AAy N (i+((l.drop i).takeWhile wsB).length) (l.drop (i+((l.drop i).takeWhile wsB).length))
def ATI (c:UInt8) (h:TL.contains c=true):Jm (AC c)=[c]:=by have:=BH (f:=λn=>if TL.contains (UInt8.ofNat n)=true then Jm (n:Int)else []) (g:=λn=>if TL.contains (UInt8.ofNat n)=true then [UInt8.ofNat n]else []) (by kernel_rfl) c;simp only[bo,h,av]at this;exact this
section
variable{l t:B8}{i p:Nat}
def AWj (w:B8) (k:Bool->Option (ApiToken×Int×Int)):(if(w==([116,114,117,101]:B8))=true then k true else if(w==([102,97,108,115,101]:B8))=true then k true else k (w==([110,117,108,108]:B8)))=k (isWord w):=by unfold isWord;cases w==([116,114,117,101]:B8)<;>cases w==([102,97,108,115,101]:B8)<;>rfl
def Y7 (hb:l.length<=2^50) (k6:Int->Option (ApiToken×Int×Int)): ∀(t:B8) (i k:Nat),l.drop i=t->i<=l.length->t.length<k->FK N l k6 k (i:Int)=k6 ((i+(t.takeWhile wsB).length:Nat):Int)
 | [],i,k+1,ht,hi,_=>by have hl:=BM ht hi;simp only[ap]at hl;have c: ¬(i:Int)<(l.length:Int):=fy;rw[FK,AA,ae (by grind)];simp
 | c::t,i,k+1,ht,hi,hk=>by
  have hl:=BM ht hi;simp only[ag]at hl hk;have c0:(i:Int)<(l.length:Int):=fy;rw[FK,AA,ah (aA c0),head_drop ht,aa,AoM,aa,aJ];cases wsB c;·simp
  ·dsimp only;rw[ah rfl,ah rfl,AO fy,show(i:Int)+1=((i+1:Nat):Int) by simp,Y7 hb k6 t (i+1) k (by rw[<-aF,ht];rfl) fy fy];grind
def AB8 (hb:l.length<=2^50) (p:Nat) (k34:Int->Option (ApiToken×Int×Int)): ∀(t:B8) (n k:Nat),l.drop (p+n)=t->p+n<=l.length->t.length<k->FM N l (p:Int) k34 k (n:Int)=k34 ((n+(t.takeWhile BU).length:Nat):Int)
 | [],n,k+1,ht,hi,_=>by have hl:=BM ht hi;simp only[ap]at hl;have c: ¬((p+n:Nat):Int)<(l.length:Int):=fy;rw[FM,AA,AO (n:=(p:Int)+(n:Int)) fy,show(p:Int)+(n:Int)=((p+n:Nat):Int) by simp,ae (by grind)];simp
 | c::t,n,k+1,ht,hi,hk=>by
  have hl:=BM ht hi;simp only[ag]at hl hk;have c0:((p+n:Nat):Int)<(l.length:Int):=fy;rw[FM,AA,AO (n:=(p:Int)+(n:Int)) fy,show(p:Int)+(n:Int)=((p+n:Nat):Int) by simp,ah (aA c0),head_drop ht,aa,PX,aa,aJ];cases BU c;·simp
  ·dsimp only;rw[ah rfl,ah rfl,AO fy,show(n:Int)+1=((n+1:Nat):Int) by simp,AB8 hb p k34 t (n+1) k (by rw[<-dh,<-aF,ht];rfl) fy fy];grind
def Af9 (hb:l.length<=2^40) (hN:l.length+10<=N) (hi:i<=l.length):Mg N l (i:Int)=some (Py N l i):=by
 obtain⟨t0,ht0⟩: ∃t0,l.drop i=t0:=⟨_,rfl⟩;have hl0:=BM ht0 hi;have hw:=KC wsB t0;unfold Mg Py;have c1: ¬((i:Int)<0):=fy;have c2: ¬((i:Int)>(l.length:Int)):=fy;refine(Av (a:=false) λk=>?_).trans ?_;·rw[ae fA,aO c2]
 try dsimp only
 rw[ae fB];refine(Av (a:=((i+(t0.takeWhile wsB).length:Nat):Int)) λk=>Y7 fy k t0 i N ht0 hi fy).trans ?_;rw[ht0];generalize hp:i+(t0.takeWhile wsB).length=p at *;have hpl:p<=l.length:=fy;obtain⟨t,ht⟩: ∃t,l.drop p=t:=⟨_,rfl⟩;have hl:=BM ht hpl;rw[ht];try dsimp only
 cases t with
 | nil=>simp_all[AAy]
 | cons c r=>
  simp only[ag]at hl;rw[Yy,ae (by grind),head_drop ht,aa,N7 _ _ fB,aa];have w1:wr .i64 ((p:Int)+1)=((p+1:Nat):Int):=by grind[AO]
  have hsub1:sub l (p:Int) ((p+1:Nat):Int)=some [c]:=by rw[BB l p (p+1) fy fy,bf,ht];rfl
  rw[show([123,125,91,93,58,44]:B8)=TL from rfl];by_cases c3:TL.contains c=true;·simp_all
  ·rw [ae c3,ae c3,Ajx];by_cases c4:c.toNat=34
   ·rw[ah (aA c4),ah c4,Aif fy fy fy,aa];have hr:l.drop (p+1)=r:=by rw[<-aF,ht];rfl
    rw[hr];unfold outT;by_cases c5:(H6 N r (p+1) []).2.2=0;·simp_all
    ·rw[ae c5,ah (by grind),ae c5];rfl
   ·rw [ae (by grind),ae c4];refine(Av (a:=(([45]:B8).contains c||DI c)) λk=>?_).trans ?_;·rw[AYt,OP,aa];cases ([45]:B8).contains c<;>rfl
    try dsimp only
    have hsubl:sub l (p:Int) (l.length:Int)=some (c::r):=by grind[BB,List.take_of_length_le,List.length_cons]
    by_cases c5:(([45]:B8).contains c||DI c)=true
    ·rw[ah c5,ah c5,hsubl,aa,Y8 _ (by grind) (by grind),aa];have hn:=AGX (c::r);simp only[ag]at hn;by_cases c6:Fh (c::r)=0;·rw[ah (by grind),ah c6];rfl
     ·rw[ae (by grind),ae c6,AO fy,show(p:Int)+((Fh (c::r):Nat):Int)=((p+Fh (c::r):Nat):Int) by simp];rw[BB l p _ fy fy,aa,bf,ht]
    ·rw[ae c5,ae c5];have hwl:=KC BU (c::r);simp only[ag]at hwl;refine(Av (a:=((((c::r).takeWhile BU).length:Nat):Int)) λk=>?_).trans ?_;·have:=AB8 (N:=N) (l:=l) fy p k (c::r) 0 N fy fy (by grind);simp_all
     try dsimp only
     rw[AO fy,show(p:Int)+((((c::r).takeWhile BU).length:Nat):Int)=((p+((c::r).takeWhile BU).length:Nat):Int) by simp];rw[Ua BU ht hpl,aa];refine(Av (a:=isWord ((c::r).takeWhile BU)) λk=>AWj _ k).trans ?_;try dsimp only
     by_cases c6:isWord ((c::r).takeWhile BU)=true;·simp_all
     ·rw[ae c6,ae c6];rfl
def ASG{β:Type} (w:B8) (k:Bool->Option β):(if(w==([116,114,117,101]:B8))=true then k true else if(w==([102,97,108,115,101]:B8))=true then k true else k (w==([110,117,108,108]:B8)))=k (isWord w):=by unfold isWord;cases w==([116,114,117,101]:B8)<;>cases w==([102,97,108,115,101]:B8)<;>rfl
def ASb{c:UInt8}{r:B8} (h:isWord ((c::r).takeWhile BU)=true):BU c=true:=by
 cases ha:BU c;·rw[aJ,ha]at h;rw[ae fB]at h;exact absurd h fB
 ·rfl
def AYU (ht:l.drop p=t) (hp:p<=l.length) (hb:l.length<=2^40) (hN:l.length+10<=N):∃q k x,I1 N ⟨l,(p:Int)⟩=some (k,x,(AAy N p t).2.2,q)/\((AAy N p t).2.2=0->(AAy N p t)=(ApiToken.mk k x p,q.at_,0)):=by
 have hl:=BM ht hp;unfold I1;match t,ht,hl with
 | [],ht,hl=>simp only[ap]at hl;rw[ah fC];exact⟨_,_,_,rfl,λ_=>rfl⟩
 | c :: r,ht,hl=>
  simp only[ag]at hl;have w1:wr .i64 ((p:Int)+1)=((p+1:Nat):Int):=by rw[AO fy];simp
  rw[Yy,ae fC];simp only[AA];rw[head_drop ht,aa,Ij,aa,index_ge,w1];by_cases c3:TL.contains c=true;·rw[show(([123,125,91,93,58,44]:B8).contains c)=true from c3,ah rfl,ATI c c3];simp only[c3,av];exact⟨_,_,_,rfl,λ_=>rfl⟩
  ·rw [cp]at c3;rw[show(([123,125,91,93,58,44]:B8).contains c)=false from c3,ae fB,Ajx];simp only[c3,al,au];by_cases c4:c.toNat=34
   ·rw[ah (aA c4)];simp only[c4,av];obtain⟨q,hq,hq0⟩:=AlU (N:=N) (l:=l) hb fy (i:=p) fy;have hr:l.drop (p+1)=r:=by rw[<-aF,ht];rfl
    rw[hr]at hq hq0;rw[hq,aa];unfold outT;by_cases c5:(H6 N r (p+1) []).2.2=0;·rw[ah c5,ah c5];exact⟨q,_,_,rfl,λ_=>by rw[hq0 c5]⟩
    ·rw[ae c5,ae c5];exact⟨q,_,_,rfl,λh=>absurd h c5⟩
   ·rw [ae (by simpa using c4)];simp only[c4,au];rw[AYt,QY,aa,N9,aa];have num: ∃q k x,((Dc N ⟨l,(p:Int)⟩).bind λy16=>if y16.2.1=true then some ((4:Int),y16.1,(0:Int),y16.2.2)else some (0,[],130,y16.2.2))=some (k,x,(if Fh (c::r)=0 then RI 130 else(ApiToken.mk 4 ((c::r).take (Fh (c::r))) p,((p+Fh (c::r):Nat):Int),0)).2.2,q)/\((if Fh (c::r)=0 then RI 130 else(ApiToken.mk 4 ((c::r).take (Fh (c::r))) p,((p+Fh (c::r):Nat):Int),0)).2.2=0->(if Fh (c::r)=0 then RI 130 else(ApiToken.mk 4 ((c::r).take (Fh (c::r))) p,((p+Fh (c::r):Nat):Int),0))=(ApiToken.mk k x p,q.at_,0)):=by
     have hn:=ABo (N:=N) ht hp fy;by_cases c6:Fh (c::r)=0;·rw[ah c6]at hn;obtain⟨q,hq⟩:=hn;rw[hq,aa,ah c6];exact⟨_,_,_,rfl,λh=>by cases h⟩
     ·rw[ae c6]at hn;rw[hn,aa,ae c6];exact⟨_,_,_,rfl,λ_=>rfl⟩
    have word:(([45]:B8).contains c||DI c)=false->∃q k x,(if BU c=true then (Br N ⟨l,(p:Int)⟩).bind λy20=>(if(y20.1==([116,114,117,101]:B8))=true then(if true=true then some ((5:Int),y20.1,(0:Int),y20.2)else some (0,[],130,y20.2))else if(y20.1==([102,97,108,115,101]:B8))=true then(if true=true then some ((5:Int),y20.1,(0:Int),y20.2)else some (0,[],130,y20.2))else(if(y20.1==([110,117,108,108]:B8))=true then some ((5:Int),y20.1,(0:Int),y20.2)else some (0,[],130,y20.2)))else some (0,[],130,⟨l,(p:Int)⟩))=some (k,x,(if isWord ((c::r).takeWhile BU)=true then(ApiToken.mk 5 ((c::r).takeWhile BU) p,((p+((c::r).takeWhile BU).length:Nat):Int),0)else RI 130).2.2,q)/\((if isWord ((c::r).takeWhile BU)=true then(ApiToken.mk 5 ((c::r).takeWhile BU) p,((p+((c::r).takeWhile BU).length:Nat):Int),0)else RI 130).2.2=0->(if isWord ((c::r).takeWhile BU)=true then(ApiToken.mk 5 ((c::r).takeWhile BU) p,((p+((c::r).takeWhile BU).length:Nat):Int),0)else RI 130)=(ApiToken.mk k x p,q.at_,0)):=by
     intro _;by_cases c6:BU c=true
     ·rw[ah c6,Anj ht hp fy,aa];rw[ASG ((c::r).takeWhile BU) (λb=>if b=true then some ((5:Int),(c::r).takeWhile BU,(0:Int),(⟨l,((p+((c::r).takeWhile BU).length:Nat):Int)⟩:TokenReader))else some (0,[],130,⟨l,((p+((c::r).takeWhile BU).length:Nat):Int)⟩))];try dsimp only
      by_cases c7:isWord ((c::r).takeWhile BU)=true;·rw[ah c7,ah c7];exact⟨_,_,_,rfl,λ_=>rfl⟩
      ·rw[ae c7,ae c7];exact⟨_,_,_,rfl,λh=>by cases h⟩
     ·rw[ae c6,ae (λh=>c6 (ASb h))];exact⟨_,_,_,rfl,λh=>by cases h⟩
    by_cases k1:([45]:B8).contains c=true;·simp only[k1,dc,av];exact num
    ·rw[cp]at k1;simp only[k1,be,al,au];by_cases k2:DI c=true;·simp only[k2,av];exact num
     ·rw[cp]at k2;simp only[k2,al,au];exact word (by rw[k1,k2];rfl)
def Acp (hb:l.length<=2^40) (hN:l.length+10<=N) (hi:i<=l.length):LH N l (i:Int)=some (Py N l i):=by
 obtain⟨t0,ht0⟩: ∃t0,l.drop i=t0:=⟨_,rfl⟩;have hl0:=BM ht0 hi;have hw:=KC wsB t0;unfold LH Py;have c1: ¬((i:Int)<0):=fy;have c2: ¬((i:Int)>(l.length:Int)):=fy;refine(Av (a:=false) λk=>?_).trans ?_;·rw[ae fA,aO c2]
 try dsimp only
 rw[ae fB,Akv ht0 hi fy,aa,ht0];obtain⟨q,k,x,e1,e2⟩:=AYU (N:=N) (l:=l) (p:=i+(t0.takeWhile wsB).length) rfl fy hb hN;try dsimp only
 rw[e1,aa];try dsimp only
 by_cases h:(AAy N (i+(t0.takeWhile wsB).length) (l.drop (i+(t0.takeWhile wsB).length))).2.2=0;·rw[ae (by simpa using h),e2 h]
 ·rw [ah (by simpa using h)];have noT: ∀(p:Nat) (t:B8),(AAy N p t).2.2≠0->AAy N p t=RI (AAy N p t).2.2:=by
   intro p t h;unfold AAy at h⊢;match t,h with
   |[],h=>exact absurd rfl h
   | c::r,h=>
    dsimp only at h⊢;by_cases k1:TL.contains c=true;·rw[ah k1]at h;exact absurd rfl h
    rw[ae k1]at h⊢;by_cases k2:c.toNat=34
    ·rw[ah k2]at h⊢;by_cases k3:(H6 N r (p+1) []).2.2=0;·rw[ah k3]at h;exact absurd rfl h
     ·rw[ae k3];rfl
    rw[ae k2]at h⊢;by_cases k3:(([45]:B8).contains c||DI c)=true
    ·rw[ah k3]at h⊢;by_cases k4:Fh (c::r)=0;·rw[ah k4];rfl
     ·rw[ae k4]at h;exact absurd rfl h
    rw[ae k3]at h⊢;by_cases k4:isWord ((c::r).takeWhile BU)=true;·rw[ah k4]at h;exact absurd rfl h
    ·rw[ae k4];rfl
  rw[noT _ _ h];rfl
end
end
end Go.VM
namespace Go.VM
section
variable{N:Nat}
section
variable{l:B8}
end
def LG: ∀l:B8,List.map Gu (List.map AC l)=l |[]=>rfl|c::l=>by rw[aE,aE,JF,LG l]
end
end Go.VM
namespace Go.VM
section
variable{N:Nat}
def AFB (l:B8) (hb:l.length<=2^60) (k2:List Int->Option B8): ∀(t pre:B8),l=pre++t->GQ N l k2 t (pre.length:Int) (List.map AC (pre.map Cn)++List.map AC t)=k2 (List.map AC (l.map Cn))
 |[],pre,h=>by grind[GQ]
 | c::t,pre,h=>by
  have hlen:pre.length<l.length:=by grind
  have hc:=c.toNat_lt;have next:=AFB l hb k2 t (pre++[c]) (by grind);rw[<-Rj]at next;have hi:idx (List.map AC (pre.map Cn)++List.map AC (c::t)) (pre.length:Int)=some (AC c):=by grind[AIB,List.map,AC,Cn]
  have hset:(List.map AC (pre.map Cn)++List.map AC (c::t)).set pre.length (AC (Cn c))=List.map AC ((pre++[c]).map Cn)++List.map AC t:=fA;rw[GQ];dsimp only[AA];rw[AJ fy,hi,aa];by_cases h1:65<=c.toNat/\c.toNat<=90
  ·have e:Cn c=UInt8.ofNat (c.toNat+32):=by simp_all[Cn,ADW]
   have e2:AC (Cn c)=wr .u8 (AC c+32):=by grind[ADs,AC,toNat_ofNat]
   rw[ah (by have:=I6 c;grind),ah (by have:=I6 c;grind),AJ fy,aa,AJ (by simp<;>omega),<-e2];simp_all
  ·have e:Cn c=c:=by unfold Cn ADW;rw[ae h1];simp
   have e3:List.map AC ((pre++[c]).map Cn)++List.map AC t=List.map AC (pre.map Cn)++List.map AC (c::t):=by grind
   rw[e3]at next;by_cases h2:65<=c.toNat;·rw[ah (by have:=I6 c;grind),ae (by have:=I6 c;grind)];omega
   ·rw[ae (by have:=I6 c;grind),ae fB];omega
def N8 (l:B8) (hb:l.length<=2^60):Hz N l=some (l.map Cn):=by unfold Hz;rw[AA,AJ (by grind[AL])];have:=AFB (N:=N) l hb (λj1=>grd (l.length<=j1.length/\AL l.length) (some (List.map Gu (List.take l.length j1)))) l [] rfl;simp only[bM,bc,ap]at this;rw[show(0:Int)=((0:Nat):Int)from rfl,this,AJ (by grind[AL]),aM fA,LG]
def RD (a b:B8) (ha:a.length<=2^60) (hb:b.length<=2^60):JR N a b=some (a.map Cn==b.map Cn):=by unfold JR;rw[lower_eq a ha,aa,lower_eq b hb,aa]
def RN (a b:B8) (ha:a.length<=2^60) (hb:b.length<=2^60):JK N a b=some (a.map Cn==b.map Cn):=by unfold JK;rw[N8 a ha,aa,N8 b hb,aa]
def JW (l:B8):B8×Int:=if l=[]then([],3)else if l.length>253 then([],5)else if(ABj l||Ty l)=true then(l.map Cn,0)else([],50)
def ABB (l:B8):Mj N l=some (JW l):=by
 unfold Mj JW;by_cases h:l=[];·grind
 rw[ae (by grind),ae h];by_cases h2:l.length>253;·rw[ah (by simp only[aq];omega),ah h2]
 rw[ae (by simp only[aq];omega),ae h2];dsimp only[AA];rw[AVj l fy,aa,Aek l fy,aa,N8 l fy,aa];cases ABj l<;>cases Ty l<;>rfl
end
end Go.VM
namespace Go.VM
section
variable{N:Nat}
def ALQ (c:UInt8) (l:B8):strings_Index N l [c]=some (Go.Lib.indexByte l c):=by simp_all[strings_Index,Cr]
def Yu{c:UInt8}{l:B8}:l.count c=0<->l.contains c=false:=by grind
theorem Yx{c:UInt8}: ∀ {l:B8},l.contains c=true->l.count c=((l.dropWhile (· !=c)).drop 1).count c+1
 |[],h=>by grind
 | x::t,h=>by
  by_cases hx:x=c;·simp_all
  ·have hx':(x !=c)=true:=by grind
   rw[bb,show(c==x)=false by grind,be]at h;rw[bz,ah hx',List.count_cons,show(x==c)=false by grind,Yx h];simp
theorem Gt{c:UInt8}{l:B8} (h:l.contains c=true):AR c l=(l.takeWhile (· !=c),(l.dropWhile (· !=c)).drop 1,true):=by simp_all[AR]
theorem SK{c:UInt8}{l:B8} (h:l.contains c=false):AR c l=(l,[],false):=by simp_all[AR]
def AGM{c:UInt8}{l:B8} (h:l.contains c=true) (hb:l.length<=1000000):sub l 0 (wr .i64 (Go.Lib.indexByte l c+0))=some (AR c l).1/\sub l (wr .i64 (Go.Lib.indexByte l c+(([c]:B8).length:Int))) (l.length:Int)=some (AR c l).2.1:=by
 have hlt:=Mf h;rw[ML];unfold AR;simp only[h,av];generalize hn:(l.takeWhile (· !=c)).length=n at *;have w:wr .i64 ((n:Int)+(([c]:B8).length:Int))=((n+1:Nat):Int):=by grind[AO]
 have w0:wr .i64 ((n:Int)+0)=(n:Int):=by grind[AO]
 rw[w,w0,show(0:Int)=((0:Nat):Int)from rfl,BB l 0 n fy fy,BB l (n+1) l.length fy fy];rw[aY,bP,<-hn,IB,aM fA,<-aF,LM];simp
def ANK{c:UInt8}{a0:B8}{j3:Int}{M:Nat} (k10:B8×Int×List B8->Option (List B8)) (hE:(if(wr .i64 ((a0.length:Int)+1))<j3 then(wr .i64 ((a0.length:Int)+1))else j3)=((M:Nat):Int)) (hM:M<=2000000):∀(k:Nat) (s:B8) (done:List B8),s.count c=k->s.length<=1000000->done.length+k+1<=M->∃pre last,pre++[last]=done++AX c s/\pre.length=done.length+k/\Cv N a0 [c] 0 j3 k10 k (done.length:Int) s (done++List.replicate (k+1) [])=k10 (last,((done.length+k:Nat):Int),pre++[[]])
 | 0,s,done,hc,hs,hd=>by
  have h0:=Yu.1 hc;refine⟨done,s,?_,rfl,?_⟩;·grind[M9,SK]
  grind[Cv]
 | k+1,s,done,hc,hs,hd=>by
  have h1:s.contains c=true:=by grind
  obtain⟨s1,s2⟩:=AGM h1 hs;have hcb:=Yx h1;have hc1:(AR c s).2.1=(s.dropWhile (· !=c)).drop 1:=by rw[Gt h1]
  rw[<-hc1]at hcb;have hl:=FP c s;obtain⟨pre,last,p1,p2,p3⟩:=ANK (c:=c) k10 hE hM k (AR c s).2.1 (done++[(AR c s).1]) fy fy (by grind);refine⟨pre,last,?_,by grind,?_⟩;·rw[p1,M9 c s,ah (by rw[Gt h1])];simp
  ·rw[Cv,ALQ,aa,ae (by rw[ML,ah h1];simp),s1,aa,hE,AJ (by constructor<;>omega),AJ fA,s2,aa];have e1:(done++List.replicate (k+1+1) ([]:B8)).set (done.length:Int).toNat (AR c s).1=(done++[(AR c s).1])++List.replicate (k+1) []:=by rw[a7,dZ _ _ (aw _),dx,eg,cj];simp
   grind
def YV (l:B8) (c:UInt8) (hb:l.length<=1000000):strings_Split N l [c]=some (AX c l):=by
 have hcl:l.count c<=l.length:=List.count_le_length;have hcnt:strings_Count N l [c]=some ((l.count c:Nat):Int):=by unfold strings_Count;rw[ae fA,ah (by rfl),show idx [c] 0=some c from rfl,aa,JF];rfl
 unfold strings_Split strings_genSplit;dsimp only[AA];rw[ae fB,ae fA,ah fB,hcnt,aa];have w1:wr .i64 (((l.count c:Nat):Int)+1)=((l.count c+1:Nat):Int):=by grind[AO]
 have w2:wr .i64 ((l.length:Int)+1)=((l.length+1:Nat):Int):=by grind[AO]
 rw[w1];have hE:(if(wr .i64 ((l.length:Int)+1))<((l.count c+1:Nat):Int)then(wr .i64 ((l.length:Int)+1))else((l.count c+1:Nat):Int))=((l.count c+1:Nat):Int):=fy;obtain⟨pre,last,p1,p2,p3⟩:=ANK (N:=N) (c:=c) (a0:=l) (j3:=((l.count c+1:Nat):Int)) (M:=l.count c+1) (λj9:B8×Int×(List B8)=>grd (0<=j9.2.1/\j9.2.1<((if(wr .i64 ((l.length:Int)+1))<((l.count c+1:Nat):Int)then(wr .i64 ((l.length:Int)+1))else((l.count c+1:Nat):Int)).toNat:Int)) (grd (j9.2.1.toNat+1<=j9.2.2.length) (grd (0<=(wr .i64 (j9.2.1+1))/\(wr .i64 (j9.2.1+1))<=((if(wr .i64 ((l.length:Int)+1))<((l.count c+1:Nat):Int)then(wr .i64 ((l.length:Int)+1))else((l.count c+1:Nat):Int)).toNat:Int)) (grd ((wr .i64 (j9.2.1+1)).toNat<=j9.2.2.length) (some (List.take ((wr .i64 (j9.2.1+1)).toNat) (j9.2.2.set j9.2.1.toNat j9.1))))))) hE fy (l.count c) l [] rfl hb fA;have w3:(wr .i64 (((l.count c+1:Nat):Int)-1)-0).toNat=l.count c:=by grind[AO]
 rw[hE]at p3⊢;rw[AJ (by grind[VL]),AJ fy,w3];simp only[a7]at p3⊢;simp only[bc,ap,b9]at p1 p2 p3;rw[show((0:Nat):Int)=0 from rfl]at p3;rw[p3];have w4:wr .i64 (((l.count c:Nat):Int)+1)=((pre.length+1:Nat):Int):=fy;rw[w4];simp only[a7];rw[AJ fy,AJ (by grind),AJ fy,AJ fA,aa];rw[<-p2,dZ _ _ (aw _),dx,cj,aM fA,p1]
end
end Go.VM
namespace Go.VM
section
variable{N:Nat}
def FC (c:UInt8):Bool:=BU c||(DI c||([45,46,95,126]:B8).contains c)
def XR (c:UInt8):D7 N (AC c)=some (FC c):=by have:=BH (f:=λn=>D7 N (n:Int)) (g:=λn=>some (FC (UInt8.ofNat n))) (by kernel_rfl) c;simp only[bo]at this;exact this
def Wv (c:UInt8):D8 N (AC c)=some (FC c):=by have:=BH (f:=λn=>D8 N (n:Int)) (g:=λn=>some (FC (UInt8.ofNat n))) (by kernel_rfl) c;simp only[bo]at this;exact this
def AE9 (c:UInt8) (h:Jr c=true):Kg N (AC c)=some ((Ep c.toNat:Nat):Int):=by have:=BH (f:=λn=>if Td n=true then Kg N (n:Int)else none) (g:=λn=>if Td n=true then some ((Ep n:Nat):Int)else none) (by kernel_rfl) c;simp only[show Td c.toNat=true from h,av]at this;exact this
def AE2 (c:UInt8) (h:Jr c=true):NC N (AC c)=some ((Ep c.toNat:Nat):Int):=by have:=BH (f:=λn=>if Td n=true then NC N (n:Int)else none) (g:=λn=>if Td n=true then some ((Ep n:Nat):Int)else none) (by kernel_rfl) c;simp only[show Td c.toNat=true from h,av]at this;exact this
def AQ (a b:UInt8):UInt8:=UInt8.ofNat (16 * Ep a.toNat+Ep b.toNat)
def Aqs{x y:Nat} (AQ:x<16) (hy:y<16):I8 .u8 (VA .u8 (x:Int) 4) (y:Int)=AC (UInt8.ofNat (16 * x+y)):=by have:=BH (f:=λn=>I8 .u8 (VA .u8 ((n / 16:Nat):Int) 4) ((n % 16:Nat):Int)) (g:=λn=>AC (UInt8.ofNat n)) (by kernel_rfl) (UInt8.ofNat (16 * x+y));grind[UInt8.ofNat,UInt8.toNat_ofNat']
def AqZ{x y:Nat} (AQ:x<16) (hy:y<16):wr .u8 ((wr .u8 (16 * (x:Int)))+(y:Int))=AC (UInt8.ofNat (16 * x+y)):=by grind[UInt8.ofNat,UInt8.toNat_ofNat',ADs,I6]
def Mo:B8->Option UInt8 |a::b::_=>if(Jr a&&Jr b)=true then some (AQ a b)else none|_=>none
def Z8:Option UInt8->Int×Bool |some x=>(AC x,true)|none=>(0,false)
section
variable{l t:B8}{i:Nat}{c:UInt8}
def AVf (h:l.drop i=c::t) (hb:l.length<=2^40):JE N l (i:Int)=some (Z8 (Mo t)):=by
 have hi:i<=l.length:=by have:=a8 List.length h;grind
 have hl:=BM h hi;simp only[ag]at hl;unfold JE;dsimp only[AA];rw[AO fy];match t,h,hl with
 |[],h,hl=>simp only[ap]at hl;rw[ah (by grind),ah rfl];rfl
 |[a],h,hl=>simp only[ag,ap]at hl;rw[ah (by grind),ah rfl];rfl
 | a::b::r,h,hl=>
  simp only[ag]at hl;rw[ae (by grind),show wr .i64 ((i:Int)+1)=((i+1:Nat):Int) by grind[AO],show wr .i64 ((i:Int)+2)=((i+2:Nat):Int) by grind[AO],IJ (j:=1) h rfl,IJ (j:=2) h rfl,aa,aa,AGK,aa,aa,AGK,aa];unfold Mo;cases ha:Jr a;·grind[Z8]
  ·cases hb2:Jr b;·grind[Z8]
   ·simp only[bL,di,av,al,au];rw[AE9 a ha,aa,aa,AE9 b hb2,aa,Aqs (R5 a ha) (R5 b hb2)];simp[Z8,ha,hb2,AQ]
def AUr (h:l.drop i=37::t) (hb:l.length<=2^40):Lc N l (i:Int)=some (Z8 (Mo t)):=by
 have hi:i<=l.length:=by have:=a8 List.length h;grind
 have hl:=BM h hi;simp only[ag]at hl;unfold Lc;dsimp only[AA];rw[show wr .i64 ((i:Int)+1)=((i+1:Nat):Int) by grind[AO],show wr .i64 ((i:Int)+2)=((i+2:Nat):Int) by grind[AO]];match t,h,hl with
 |[],h,hl=>simp only[ap]at hl;rw[ah (by grind),ah rfl];rfl
 |[a],h,hl=>simp only[ag,ap]at hl;rw[ah (by grind),ah rfl];rfl
 | a::b::r,h,hl=>
  simp only[ag]at hl;rw[ae (by grind),show idx l (i:Int)=some 37 from IJ (j:=0) h rfl,aa,ae fB,IJ (j:=1) h rfl,IJ (j:=2) h rfl,aa,aa,AGw,aa,aa,AGw,aa];unfold Mo;cases ha:Jr a;·grind[Z8]
  ·cases hb2:Jr b;·grind[Z8]
   ·simp only[bL,di,av,al,au];rw[AE2 a ha,aa,aa,AE2 b hb2,aa,AqZ (R5 a ha) (R5 b hb2)];simp[Z8,ha,hb2,AQ]
def Tq:Nat->B8->B8->B8×Int |0,_,_=>([],2)|_+1,[],out=>(out,0)|k+1,c::t,out=>if c=37 then(match Mo t with|some x=>Tq k (t.drop 2) (out++[x])|none=>([],2))else Tq k t (out++[c])
def OO{n:Nat} (h:n<=1000000000):CW n 1:=by grind[CW]
def UW{x:UInt8} (h:Mo t=some x):2<=t.length:=by match t,h with |[],h=>cases h|[_],h=>cases h|_::_::_,_=>simp
def Q8 (c:UInt8):(AC c==37)=decide (c=37):=by have:=BH (f:=λn=>((n:Int)==37)) (g:=λn=>decide (UInt8.ofNat n=37)) (by kernel_rfl) c;simp only[bo]at this;exact this
def X7 (hb:l.length<=100000): ∀(k:Nat) (t:B8) (i:Nat) (out:B8),l.drop i=t->i<=l.length->t.length<k->out.length<=i->ES N l (λj=>some (List.map Gu j,0)) k (List.map AC out) (i:Int)=some (Tq k t out)
 |0,t,i,out,_,_,h,_=>by omega
 | k+1,[],i,out,h,hi,hk,ho=>by have hl:=BM h hi;rw[ES,ae (by grind),LG];rfl
 | k+1,c::t,i,out,h,hi,hk,ho=>by
  have hl:=BM h hi;simp only[ag]at hl hk;rw[ES,ah (by grind),show idx l (i:Int)=some c from IJ (j:=0) h rfl,aa,AA,Q8];have hd:l.drop (i+1)=t:=by rw[<-aF,h];rfl
  by_cases hc:c=37;·rw[aA hc,ah rfl,AVf h fy,aa,Tq,ah hc];cases he:Mo t with |none=>rfl| some x=>have:=UW he;simp only[Z8,av];rw[AJ (OO (by grind)),show wr .i64 (wr .i64 ((i:Int)+2)+1)=((i+3:Nat):Int) by grind[AO],show List.map AC out++[AC x]=List.map AC (out++[x]) by simp];exact X7 hb k _ (i+3) (out++[x]) (by grind[List.drop_drop]) fy (by grind) (by grind)
  ·rw[aO hc,ae fB,Tq,ae hc];dsimp only;rw[AJ (OO (by grind)),show wr .i64 ((i:Int)+1)=((i+1:Nat):Int) by grind[AO],show List.map AC out++[AC c]=List.map AC (out++[c]) by simp];exact X7 hb k t (i+1) (out++[c]) hd fy fy (by grind)
def Yh (hb:l.length<=100000): ∀(k:Nat) (t:B8) (i:Nat) (out:B8),l.drop i=t->i<=l.length->t.length<k->out.length<=i->FV N l (λj=>some (List.map Gu j,0)) k (List.map AC out) (i:Int)=some (Tq k t out)
 |0,t,i,out,_,_,h,_=>by omega
 | k+1,[],i,out,h,hi,hk,ho=>by have hl:=BM h hi;rw[FV,ae (by grind),LG];rfl
 | k+1,c::t,i,out,h,hi,hk,ho=>by
  have hl:=BM h hi;simp only[ag]at hl hk;rw[FV,ah (by grind),show idx l (i:Int)=some c from IJ (j:=0) h rfl,aa,AA,Q8];have hd:l.drop (i+1)=t:=by rw[<-aF,h];rfl
  by_cases hc:c=37;·subst hc;rw[aA rfl,ah rfl,AUr h fy,aa,Tq,ah rfl];cases he:Mo t with |none=>rfl| some x=>have:=UW he;simp only[Z8,av];rw[AJ (OO (by grind)),show wr .i64 (wr .i64 ((i:Int)+2)+1)=((i+3:Nat):Int) by grind[AO],show List.map AC out++[AC x]=List.map AC (out++[x]) by simp];exact Yh hb k _ (i+3) (out++[x]) (by grind[List.drop_drop]) fy (by grind) (by grind)
  ·rw[aO hc,ae fB,Tq,ae hc];dsimp only;rw[AJ (OO (by grind)),show wr .i64 ((i:Int)+1)=((i+1:Nat):Int) by grind[AO],show List.map AC out++[AC c]=List.map AC (out++[c]) by simp];exact Yh hb k t (i+1) (out++[c]) hd fy fy (by grind)
end
def Ac (N:Nat) (s:B8):B8×Int:=if s.length>16384 then([],5)else Tq N s []
def P6 (s:B8) (hN:20000<=N):Ga N s=some (Ac N s):=by
 unfold Ga Ac;by_cases h:s.length>16384;·rw[ah (by grind),ah h]
 ·rw[ae (by grind),ae h,AA];exact X7 (l:=s) fy N s 0 [] rfl fy fy fA
def OH (s:B8) (hN:20000<=N):G7 N s=some (Ac N s):=by
 unfold G7 Ac;by_cases h:s.length>16384;·rw[ah (by grind),ah h]
 ·rw[ae (by grind),ae h,AA];exact Yh (l:=s) fy N s 0 [] rfl fy fy fA
end
end Go.VM
namespace Go.VM
section
variable{N:Nat}
def Sr (n:Nat):UInt8:=([48,49,50,51,52,53,54,55,56,57,65,66,67,68,69,70]:B8).getD n 0
def Me (c:UInt8):B8:=[37,Sr (c.toNat / 16),Sr (c.toNat % 16)]
def Ta (c:UInt8):JL N (AC c)=some (Me c):=by have:=BH (f:=λn=>JL N (n:Int)) (g:=λn=>some ([37,Sr (n / 16),Sr (n % 16)]:B8)) (by kernel_rfl) c;exact this
def TJ (also:B8):Nat->B8->B8->B8×Int |0,_,_=>([],2)|_+1,[],out=>(out,0)| k+1,c::t,out=>if c=37 then(match Mo t with|some x=>TJ also k (t.drop 2) (out++(if FC x=true then [x]else Me x))|none=>([],2)) else if(FC c||also.contains c)=true then TJ also k t (out++[c])else([],1)
section
variable{l also:B8}
def UR (hb:l.length<=100000) (ha:also.length<=1000): ∀(k:Nat) (t:B8) (i:Nat) (out:B8),l.drop i=t->i<=l.length->t.length<k->out.length<=3 * i->DR N l also (λj=>some (List.map Gu j,0)) k (List.map AC out) (i:Int)=some (TJ also k t out)
 |0,t,i,out,_,_,h,_=>by omega
 | k+1,[],i,out,h,hi,hk,ho=>by have hl:=BM h hi;rw[DR,ae (by grind),LG];rfl
 | k+1,c::t,i,out,h,hi,hk,ho=>by
  have hl:=BM h hi;simp only[ag]at hl hk;rw[DR,ah (by grind),AA,show idx l (i:Int)=some c from IJ (j:=0) h rfl,aa,bne,Q8,TJ];have hd:l.drop (i+1)=t:=by rw[<-aF,h];rfl
  by_cases hc:c=37
  ·subst hc;rw[aA rfl,ae fB,ah rfl,AUr h fy,aa];cases he:Mo t with
   |none=>rfl
   | some x=>
    have:=UW he;simp only[Z8,av];rw[AA,Wv,aa];have e3:wr .i64 (wr .i64 ((i:Int)+2)+1)=((i+3:Nat):Int):=by grind[AO]
    cases hu:FC x;·rw[ae fB,Ta,aa,AJ (OO (by grind[Me]))];dsimp only;rw[e3,show List.map AC out++List.map AC (Me x)=List.map AC (out++Me x) by simp];exact UR hb ha k _ (i+3) (out++Me x) (by grind[List.drop_drop]) fy (by grind) (by grind[Me])
    ·rw[ah rfl,AJ (OO (by grind))];dsimp only;rw[e3,show List.map AC out++[AC x]=List.map AC (out++[x]) by simp];exact UR hb ha k _ (i+3) (out++[x]) (by grind[List.drop_drop]) fy (by grind) (by grind)
  ·rw[aO hc,ah fB,ae hc,AA,Wv,aa];have step:grd (CW ((List.map AC out).length+1) 1) ((λj6:List Int×Int=>DR N l also (λj=>some (List.map Gu j,0)) k j6.1 (wr .i64 (j6.2+1))) (List.map AC out++[AC c],(i:Int)))=some (TJ also k t (out++[c])):=by rw[AJ (OO (by grind))];dsimp only;rw[show wr .i64 ((i:Int)+1)=((i+1:Nat):Int) by grind[AO],show List.map AC out++[AC c]=List.map AC (out++[c]) by simp];exact UR hb ha k t (i+1) (out++[c]) hd fy fy (by grind)
   cases hu:FC c;·rw[ae fB,N7 c also ha,aa,be];grind
   simp_all
end
def Ce (N:Nat) (s also:B8):B8×Int:=if s.length>16384 then([],5)else TJ also N s []
def Jg (s also:B8) (hN:20000<=N) (ha:also.length<=1000):EC N s also=some (Ce N s also):=by
 unfold EC Ce;by_cases h:s.length>16384;·rw[ah (by grind),ah h]
 ·rw[ae (by grind),ae h,AA];exact UR (l:=s) fy ha N s 0 [] rfl fy fy fA
def Lr (keep:B8) (c:UInt8):B8:=if(FC c||(!decide (c=37)&&keep.contains c))=true then [c]else Me c
def ABa (keep:B8) (c:UInt8):(Lr keep c).length<=3:=by unfold Lr;split<;>simp[Me]
def VO{keep:B8} (ha:keep.length<=1000) (l:B8) (hb:l.length<=1000000): ∀(t pre out:B8),l=pre++t->out.length<=3 * pre.length->Dh N l keep (λj=>some j) t (pre.length:Int) out=some (out++t.flatMap (Lr keep))
 |[],pre,out,h,ho=>by rw[Dh];simp
 | c::t,pre,out,h,ho=>by
  have hl:=a8 List.length h;simp only[an,ag]at hl;have hlen:=ABa keep c;have nxt: ∀x:B8,x=Lr keep c->Dh N l keep (λj=>some j) t ((pre.length:Int)+1) (out++x)=some (out++(c::t).flatMap (Lr keep)):=λx AQ=>by have:=VO ha l hb t (pre++[c]) (out++x) (by rw[h];simp) (by rw[AQ];simp only[an,ag,ap];omega);rw[aN,<-aP,<-AQ,<-this];congr 1;simp
  have hsub:sub l (pre.length:Int) ((pre.length:Int)+1)=some [c]:=by rw[show(pre.length:Int)+1=((pre.length+1:Nat):Int) by omega,BB l _ _ fy fy,h,dW];simp
  rw[Dh,AA,AA,Wv,aa];have yes:(FC c||(!decide (c=37)&&keep.contains c))=true->Option.bind (sub l (pre.length:Int) ((pre.length:Int)+1)) (λx18=>grd (AL (out.length+x18.length)) (Dh N l keep (λj=>some j) t ((pre.length:Int)+1) (out++x18)))=some (out++(c::t).flatMap (Lr keep)):=λhy=>by rw[hsub,aa,BS fC];exact nxt [c] (by unfold Lr;rw[ah hy])
  have no:(FC c||(!decide (c=37)&&keep.contains c))=false->Option.bind (JL N (AC c)) (λy19=>grd (AL (out.length+y19.length)) (Dh N l keep (λj=>some j) t ((pre.length:Int)+1) (out++y19)))=some (out++(c::t).flatMap (Lr keep)):=λhy=>by rw[Ta,aa,BS (by simp[Me];omega)];exact nxt (Me c) (by unfold Lr;rw[hy,ae fB])
  cases hu:FC c
  ·rw[ae fB,bne,Q8];rw[hu,be]at yes no;by_cases hc:c=37;·rw[aA hc]at yes no⊢;simpa using no fA
   ·rw[aO hc]at yes no⊢;rw[ah fB,N7 c keep ha,aa];cases hk:keep.contains c;·rw[hk]at no;simpa using no rfl
    ·rw[hk]at yes;simpa using yes rfl
  ·rw[ah rfl];rw[hu]at yes;simpa using yes rfl
def S9 (s keep:B8) (ha:keep.length<=1000) (hb:s.length<=1000000):Lj N s keep=some (s.flatMap (Lr keep)):=by unfold Lj;rw[AA,BS fy];simpa using VO (N:=N) ha s hb s [] [] rfl fA
end
end Go.VM
namespace Go.VM
section
variable{N:Nat}
def Jc (c:UInt8): ∀l:B8,decide (Go.Lib.indexByte l c>=0)=l.contains c
 |[]=>rfl
 | b::l=>by
  have ih:=Jc c l;have hge:=Go.Lib.indexByte_ge l c;unfold Go.Lib.indexByte;rw[bb];by_cases h:b=c;·grind
  ·rw[ae (by grind),show(c==b)=false by grind,be,<-ih];by_cases h1:Go.Lib.indexByte l c= -1;·grind
   ·rw[ae (by grind)];congr 1;simp only[dO];constructor<;>intro<;>omega
def UA (out:B8) (c:UInt8) (ho:out.length<=900000000):Gg N (List.map AC out) (AC c)=some (List.map AC (out++Me c)):=by have h1:=BH (f:=λn=>idx ([48,49,50,51,52,53,54,55,56,57,65,66,67,68,69,70]:B8) (TC .u8 (n:Int) 4)) (g:=λn=>some (Sr (n / 16))) (by kernel_rfl) c;have h2:=BH (f:=λn=>idx ([48,49,50,51,52,53,54,55,56,57,65,66,67,68,69,70]:B8) (Gi .u8 (n:Int) 15)) (g:=λn=>some (Sr (n % 16))) (by kernel_rfl) c;unfold Gg;rw[show AC c=(c.toNat:Int)from rfl,h1,aa,h2,aa,AJ (OO (by grind))];simp[Me,AC]
theorem AEZ{keep:B8} (k2:List Int->Option B8): ∀(t out:B8),out.length+3 * t.length<=900000000->Dp N keep k2 t (List.map AC out)=k2 (List.map AC (out++t.flatMap (Lr keep)))
 |[],out,ho=>by rw[Dp];simp
 | c::t,out,ho=>by
  simp only[ag]at ho;have hlen:=ABa keep c;have nxt: ∀x:B8,x=Lr keep c->Dp N keep k2 t (List.map AC (out++x))=k2 (List.map AC (out++(c::t).flatMap (Lr keep))):=λx AQ=>by rw[AEZ k2 t (out++x) (by rw[AQ,an];omega),aN,<-aP,<-AQ]
  have e1:List.map AC out++[AC c]=List.map AC (out++[c]):=fA;rw[Dp];dsimp only[AA];rw[XR,aa,UA out c fy,aa,e1,AJ (OO fC),bne,Q8,Ij,aa,Jc];have hE:Lr keep c=if(FC c||(!decide (c=37)&&keep.contains c))=true then [c]else Me c:=rfl;cases hu:FC c
  ·by_cases hc:c=37;·simp only[aA hc,bL,av,al,au];exact nxt (Me c) (by rw[hE,hu,aA hc];rfl)
   ·cases hk:keep.contains c;·simp only[aO hc,bh,av,al,au];exact nxt (Me c) (by rw[hE,hu,aO hc,hk];rfl)
    ·simp only[aO hc,bh,av,al,au];exact nxt [c] (by rw[hE,hu,aO hc,hk];rfl)
  ·simp only[av];exact nxt [c] (by rw[hE,hu];rfl)
def Vs (s keep:B8) (hb:s.length<=1000000):Iy N s keep=some (s.flatMap (Lr keep)):=by unfold Iy;rw[AA,BS fy];have:=AEZ (N:=N) (keep:=keep) (λj1=>some (List.map Gu j1)) s [] fC;rw[LG]at this;exact this
section
variable{l also:B8}
def Ui (hb:l.length<=100000): ∀(k:Nat) (t:B8) (i:Nat) (out:B8),l.drop i=t->i<=l.length->t.length<k->out.length<=i->CZ N l also (λj=>some (List.map Gu j,0)) k (i:Int) (List.map AC out)=some (TJ also k t out)
 |0,t,i,out,_,_,h,_=>by omega
 | k+1,[],i,out,h,hi,hk,ho=>by have hl:=BM h hi;rw[CZ,ae (by grind),LG];rfl
 | k+1,c::t,i,out,h,hi,hk,ho=>by
  have hl:=BM h hi;simp only[ag]at hl hk;rw[CZ,ah (by grind)];dsimp only[AA];rw[show idx l (i:Int)=some c from IJ (j:=0) h rfl,aa,Q8,TJ];have hd:l.drop (i+1)=t:=by rw[<-aF,h];rfl
  by_cases hc:c=37
  ·rw [aA hc,ah rfl,ah hc,AVf h fy,aa];cases he:Mo t with
   |none=>rfl
   | some x=>
    have:=UW he;simp only[Z8,av];rw[XR,aa];have e3:wr .i64 (wr .i64 ((i:Int)+2)+1)=((i+3:Nat):Int):=by grind[AO]
    cases hu:FC x;·rw[ae fB,UA out x fy,aa,e3];exact Ui hb k _ (i+3) (out++Me x) (by grind[List.drop_drop]) fy (by grind) (by grind[Me])
    ·rw[ah rfl,AJ (OO (by grind)),e3,show List.map AC out++[AC x]=List.map AC (out++[x]) by simp];exact Ui hb k _ (i+3) (out++[x]) (by grind[List.drop_drop]) fy (by grind) (by grind)
  ·rw[aO hc,ae fB,ae hc,XR,aa,Ij,aa,Jc];have step:grd (CW ((List.map AC out).length+1) 1) (CZ N l also (λj=>some (List.map Gu j,0)) k (wr .i64 ((i:Int)+1)) (List.map AC out++[AC c]))=some (TJ also k t (out++[c])):=by rw[AJ (OO (by grind)),show wr .i64 ((i:Int)+1)=((i+1:Nat):Int) by grind[AO],show List.map AC out++[AC c]=List.map AC (out++[c]) by simp];exact Ui hb k t (i+1) (out++[c]) hd fy fy (by grind)
   cases hu:FC c;·rw[ae fB,be];grind
   simp_all
end
def IW (s also:B8) (hN:20000<=N):Ck N s also=some (Ce N s also):=by
 unfold Ck Ce;by_cases h:s.length>16384;·rw[ah (by grind),ah h]
 ·rw[ae (by grind),ae h,AA];exact Ui (l:=s) fy N s 0 [] rfl fy fy fA
end
end Go.VM
