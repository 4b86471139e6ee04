import Derived.Test.YtfcejbjjeaaleaaGreatDoorL3
set_option linter.defProp false
set_option linter.unusedVariables false
set_option linter.unusedSimpArgs false
namespace Go.VM
def AU (c:UInt8):B8->List B8 |[]=>[[]]|x::t=>if x=c then []::AU c t else(match AU c t with|p::ps=>(x::p)::ps|[]=>[[x]])
theorem Ew (c:UInt8): ∀l:B8,AU c l≠ [] |[]=>by simp[AU]| x::t=>by grind[AU]
def AUX (cur:B8):List B8->List B8 |p::ps=>(cur++p)::ps|[]=>[cur]
def Abr{c x:UInt8}{t cur:B8} (h: ¬x=c):AUX cur (AU c (x::t))=AUX (cur++[x]) (AU c t):=by rw[AU,ae h];grind[AU,absurd,AUX]
def Jw (c:UInt8): ∀l:B8,(AU c l).length<=l.length+1 |[]=>by simp[AU]| x::t=>by have:=Jw c t;grind[AU]
def I4 (c:UInt8): ∀(l p:B8),p∈AU c l->p.length<=l.length
 |[],p,h=>by grind[AU]
 | x::t,p,h=>by
  rw[AU]at h;split at h
  ·rcases aI.1 h with rfl|h;·simp
   ·have:=I4 c t p h;grind
  ·split at h
   ·rename_i q qs hq;rcases aI.1 h with rfl|h;·have:=I4 c t q (by grind);grind
    ·have:=I4 c t p (by grind);grind
   grind
section
variable{N:Nat}
theorem Amt (x c:UInt8):(AC x==AC c)=decide (x=c):=by
 by_cases e:x=c;·grind
 ·have: ¬x.toNat=c.toNat:=λh=>e (cn.1 h);rw[aO e];simp only[AC,cj,dY];omega
def Ui (l:B8) (c:UInt8) (hb:l.length<=1000000): ∀(t pre cur:B8) (out:List B8),l=pre++(cur++t)->out.length<=pre.length+cur.length->GQ N l (AC c) (λj1=>(sub l j1.2 (l.length:Int)).bind λx11=>grd (BR (j1.1.length+1) 16) (some (j1.1++[x11]))) t ((pre.length+cur.length:Nat):Int) out (pre.length:Int)=some (out++AUX cur (AU c t))
 | [],pre,cur,out,h,ho=>by have hl:=bg List.length h;simp only[an,ap]at hl;rw[GQ];dsimp only;rw[BA l pre.length l.length fG fG,aa,AJ (by grind[BR]),h,d4];simp[AU,AUX]
 | x::t,pre,cur,out,h,ho=>by
  have hl:=bg List.length h;simp only[an,ag]at hl;rw[GQ,AA,Amt];by_cases e:x=c
  ·rw[aA e,ah rfl,BA l pre.length (pre.length+cur.length) fG fG,aa,AJ (by grind[BR])];dsimp only;have:=Ui l c hb t (pre++cur++[x]) [] (out++[cur]) (by grind) (by grind);have e1:(l.drop pre.length).take (pre.length+cur.length-pre.length)=cur:=by grind
   rw[e1,AU,ah e];rw[show(((pre++cur++[x]).length+([]:B8).length:Nat):Int)=((pre.length+cur.length:Nat):Int)+1 by grind,show(((pre++cur++[x]).length:Nat):Int)=((pre.length+cur.length:Nat):Int)+1 by grind]at this;rw[this];cases hs:AU c t with |nil=>grind[absurd,Ew]|cons p ps=>simp[AUX]
  ·rw[aO e,ae fI,Abr e];dsimp only;have:=Ui l c hb t pre (cur++[x]) out (by grind) (by grind);grind
def QL (l:B8) (c:UInt8) (hb:l.length<=1000000):IL N l (AC c)=some (AU c l):=by unfold IL;rw[AA,BV fG];have:=Ui (N:=N) l c hb l [] [] [] rfl fH;refine this.trans ?_;cases hs:AU c l with |nil=>grind[absurd,Ew]|cons p ps=>simp[AUX]
end
end Go.VM
namespace Go.VM
theorem NW (c:UInt8): ∀l:B8,AU c l=if(Ac c l).2.2=true then(Ac c l).1::AU c (Ac c l).2.1 else [(Ac c l).1]
 |[]=>by simp[AU,Ac]
 | x::t=>by
  have ih:=NW c t;rw[AU];unfold Ac at ih⊢;by_cases e:x=c;·simp_all
  ·have e1:(c==x)=false:=by grind
   have e3:(x !=c)=true:=by grind
   rw[ae e,bh,e1,be,aN,e3];cases hc:t.contains c<;>simp_all
section
variable{N:Nat}
def As2 (l:B8):Bool:=!l.isEmpty&&l.all DC
def U1 (l:B8):Bool:=(AU 46 l).all Qt&&!As2 ((AU 46 l).getLast (Ew 46 l))
def Acx (l:B8):U1 l=(Qt (Ac 46 l).1&&if(Ac 46 l).2.2=true then U1 (Ac 46 l).2.1 else !As2 (Ac 46 l).1):=by
 have h:=NW 46 l;unfold U1;cases hc:(Ac 46 l).2.2;·simp_all
 ·rw[hc]at h;simp only[av]at h⊢;grind
def AiE{c:UInt8}{l:B8} (h:(Ac c l).2.2=true):(Ac c l).2.1.length<l.length:=by
 unfold Ac at h⊢;cases hc:l.contains c;·grind
 ·have h1:=OJ hc;have h2:(l.takeWhile (· !=c)).length+(l.dropWhile (· !=c)).length=l.length:=by grind[List.length_append,List.takeWhile_append_dropWhile]
  simp only[av,aB];omega
def Amn (c:UInt8) (l:B8):(Ac c l).1.length<=l.length:=by
 unfold Ac;split;·grind[KM]
 simp
def ADY: ∀(k:Nat) (l:B8),l.length<k->l.length<=2^60->Jt N k l=some (U1 l)
 |0,l,h,_=>by omega
 | k+1,l,h,hb=>by
  have h1:=Amn 46 l;rw[Jt,Oo 46 l hb,aa,Aa5 _ fG,aa,Acx l];cases Qt (Ac 46 l).1;·rfl
  ·rw[ah rfl,bJ];cases hc:(Ac 46 l).2.2;·rw[ae fI,Tx _ fG,aa];rfl
   ·have:=AiE hc;rw[ah rfl,ah rfl];exact ADY k _ fG fG
def AgD (l:B8) (hN:l.length<N) (hb:l.length<=2^60):VL N l=some (U1 l):=ADY N l hN hb
def ABr (k4:Unit->Option Bool): ∀ps:List B8,(∀p,p∈ps->p.length<=2^60)->Hr N k4 ps=if ps.all Qt=true then k4 ()else some false |[],_=>by grind[Hr]| p::ps,h=>by rw[Hr,Ab9 p (h p fH),aa,ABr k4 ps λq hq=>h q (by grind),aK];cases Qt p<;>simp
def AjI (l:B8) (hb:l.length<=1000000):Qk N l=some (U1 l):=by
 have hl:=Jw 46 l;have hp:=I4 46 l;have hne:=Ew 46 l;unfold Qk;rw[show(46:Int)=AC 46 from rfl,QL l 46 hb,aa];dsimp only[AA];rw[BV fG,ABr _ _ λp h=>by grind];have hlast:idx (AU 46 l) (wr .i64 (((AU 46 l).length:Int)-1))=some ((AU 46 l).getLast hne):=by have:0<(AU 46 l).length:=bD.2 hne;rw[show wr .i64 (((AU 46 l).length:Int)-1)=(((AU 46 l).length-1:Nat):Int) by rw[AO fG];omega,Ji,<-dI,ck hne]
 have:=hp _ (eW hne);rw[hlast,aa,ATa _ fG,aa];unfold U1;cases (AU 46 l).all Qt;·rfl
 ·rfl
def ACl (l:B8):Bool:=decide ((AU 46 l).length=4)&&(AU 46 l).all λp=>(Gh 255 p).2==0
def AF3 (k4:Unit->Option Bool): ∀ps:List B8,(∀p,p∈ps->p.length<=2^60)->Fg N k4 ps=if(ps.all λp=>(Gh 255 p).2==0)=true then k4 ()else some false |[],_=>by grind[Fg]| p::ps,h=>by rw[Fg,show(255:Int)=((255:Nat):Int)from rfl,ACZ fI fI p (h p fH),aa,AF3 k4 ps λq hq=>h q (by grind),aK];cases hx:((Gh 255 p).2==0)<;>simp[bne,hx]
def AXV (l:B8) (hb:l.length<=1000000):MZ N l=some (ACl l):=by
 have hl:=Jw 46 l;have hp:=I4 46 l;unfold MZ;rw[show(46:Int)=AC 46 from rfl,QL l 46 hb,aa];dsimp only[AA];rw[BV fG,AF3 _ _ λp h=>by grind];unfold ACl;have e:(((AU 46 l).length:Int)==4)=decide ((AU 46 l).length=4):=by grind
 rw[e];cases ((AU 46 l).all λp=>(Gh 255 p).2==0)<;>simp
end
end Go.VM
namespace Go.VM
section
variable{N:Nat}
def UB:B8:=[123,125,91,93,58,44]
def isWord (w:B8):Bool:=w==[116,114,117,101]||(w==[102,97,108,115,101]||w==[110,117,108,108])
def Sd (e:Int):ApiToken×Int×Int:=(ApiToken.mk 0 [] 0,0,e)
def ACG (N:Nat) (p:Nat) (t:B8):ApiToken×Int×Int:=match t with |[]=>(ApiToken.mk 1 [] p,p,0)| c::r=>if UB.contains c=true then(ApiToken.mk 2 [c] p,((p+1:Nat):Int),0) else if c.toNat=34 then if(IV N r (p+1) []).2.2=0 then(ApiToken.mk 3 (IV N r (p+1) []).1 p,((IV N r (p+1) []).2.1:Int),0)else Sd (IV N r (p+1) []).2.2 else if(([45]:B8).contains c||DC c)=true then if Fz (c::r)=0 then Sd 130 else(ApiToken.mk 4 ((c::r).take (Fz (c::r))) p,((p+Fz (c::r):Nat):Int),0) else if isWord ((c::r).takeWhile BS)=true then(ApiToken.mk 5 ((c::r).takeWhile BS) p,((p+((c::r).takeWhile BS).length:Nat):Int),0) else Sd 130
theorem Y2 (N p:Nat) (c:UInt8) (r:B8):ACG N p (c::r)=(if UB.contains c=true then(ApiToken.mk 2 [c] p,((p+1:Nat):Int),0) else if c.toNat=34 then if(IV N r (p+1) []).2.2=0 then(ApiToken.mk 3 (IV N r (p+1) []).1 p,((IV N r (p+1) []).2.1:Int),0)else Sd (IV N r (p+1) []).2.2 else if(([45]:B8).contains c||DC c)=true then if Fz (c::r)=0 then Sd 130 else(ApiToken.mk 4 ((c::r).take (Fz (c::r))) p,((p+Fz (c::r):Nat):Int),0) else if isWord ((c::r).takeWhile BS)=true then(ApiToken.mk 5 ((c::r).takeWhile BS) p,((p+((c::r).takeWhile BS).length:Nat):Int),0) else Sd 130):=rfl
def Qp (N:Nat) (l:B8) (i:Nat):ApiToken×Int×Int:=ACG N (i+((l.drop i).takeWhile wsB).length) (l.drop (i+((l.drop i).takeWhile wsB).length))
def AUR (c:UInt8) (h:UB.contains c=true):J7 (AC c)=[c]:=by have:=BJ (f:=λn=>if UB.contains (UInt8.ofNat n)=true then J7 (n:Int)else []) (g:=λn=>if UB.contains (UInt8.ofNat n)=true then [UInt8.ofNat n]else []) (by kernel_rfl) c;simp only[bv,h,av]at this;exact this
section
variable{l t:B8}{i p:Nat}
def Aac (w:B8) (k:Bool->Option (ApiToken×Int×Int)):(if(w==([116,114,117,101]:B8))=true then k true else if(w==([102,97,108,115,101]:B8))=true then k true else k (w==([110,117,108,108]:B8)))=k (isWord w):=by unfold isWord;cases w==([116,114,117,101]:B8)<;>cases w==([102,97,108,115,101]:B8)<;>rfl
def AAR (hb:l.length<=2^50) (k6:Int->Option (ApiToken×Int×Int)): ∀(t:B8) (i k:Nat),l.drop i=t->i<=l.length->t.length<k->FN N l k6 k (i:Int)=k6 ((i+(t.takeWhile wsB).length:Nat):Int)
 | [],i,k+1,ht,hi,_=>by have hl:=BO ht hi;simp only[ap]at hl;have c: ¬(i:Int)<(l.length:Int):=fG;rw[FN,AA,ae (by grind)];simp
 | c::t,i,k+1,ht,hi,hk=>by
  have hl:=BO ht hi;simp only[ag]at hl hk;have c0:(i:Int)<(l.length:Int):=fG;rw[FN,AA,ah (aA c0),head_drop ht,aa,Ap3,aa,aN];cases wsB c;·simp
  ·dsimp only;rw[ah rfl,ah rfl,AO fG,show(i:Int)+1=((i+1:Nat):Int) by simp,AAR hb k6 t (i+1) k (by rw[<-aG,ht];rfl) fG fG];grind
def ADp (hb:l.length<=2^50) (p:Nat) (k34:Int->Option (ApiToken×Int×Int)): ∀(t:B8) (n k:Nat),l.drop (p+n)=t->p+n<=l.length->t.length<k->FO N l (p:Int) k34 k (n:Int)=k34 ((n+(t.takeWhile BS).length:Nat):Int)
 | [],n,k+1,ht,hi,_=>by have hl:=BO ht hi;simp only[ap]at hl;have c: ¬((p+n:Nat):Int)<(l.length:Int):=fG;rw[FO,AA,AO (n:=(p:Int)+(n:Int)) fG,show(p:Int)+(n:Int)=((p+n:Nat):Int) by simp,ae (by grind)];simp
 | c::t,n,k+1,ht,hi,hk=>by
  have hl:=BO ht hi;simp only[ag]at hl hk;have c0:((p+n:Nat):Int)<(l.length:Int):=fG;rw[FO,AA,AO (n:=(p:Int)+(n:Int)) fG,show(p:Int)+(n:Int)=((p+n:Nat):Int) by simp,ah (aA c0),head_drop ht,aa,QI,aa,aN];cases BS c;·simp
  ·dsimp only;rw[ah rfl,ah rfl,AO fG,show(n:Int)+1=((n+1:Nat):Int) by simp,ADp hb p k34 t (n+1) k (by rw[<-dv,<-aG,ht];rfl) fG fG];grind
def Aha (hb:l.length<=2^40) (hN:l.length+10<=N) (hi:i<=l.length):NJ N l (i:Int)=some (Qp N l i):=by
 obtain⟨t0,ht0⟩: ∃t0,l.drop i=t0:=⟨_,rfl⟩;have hl0:=BO ht0 hi;have hw:=KM wsB t0;unfold NJ Qp;have c1: ¬((i:Int)<0):=fG;have c2: ¬((i:Int)>(l.length:Int)):=fG;refine(Bj (a:=false) λk=>?_).trans ?_;·rw[ae fH,aO c2]
 try dsimp only
 rw[ae fI];refine(Bj (a:=((i+(t0.takeWhile wsB).length:Nat):Int)) λk=>AAR fG k t0 i N ht0 hi fG).trans ?_;rw[ht0];generalize hp:i+(t0.takeWhile wsB).length=p at *;have hpl:p<=l.length:=fG;obtain⟨t,ht⟩: ∃t,l.drop p=t:=⟨_,rfl⟩;have hl:=BO ht hpl;rw[ht];try dsimp only
 cases t with
 | nil=>simp_all[ACG]
 | cons c r=>
  simp only[ag]at hl;rw[Y2,ae (by grind),head_drop ht,aa,Po _ _ fI,aa];have w1:wr .i64 ((p:Int)+1)=((p+1:Nat):Int):=by grind[AO]
  have hsub1:sub l (p:Int) ((p+1:Nat):Int)=some [c]:=by rw[BA l p (p+1) fG fG,bk,ht];rfl
  rw[show([123,125,91,93,58,44]:B8)=UB from rfl];by_cases c3:UB.contains c=true;·simp_all
  ·rw [ae c3,ae c3,AlZ];by_cases c4:c.toNat=34
   ·rw[ah (aA c4),ah c4,Ak9 fG fG fG,aa];have hr:l.drop (p+1)=r:=by rw[<-aG,ht];rfl
    rw[hr];unfold outT;by_cases c5:(IV N r (p+1) []).2.2=0;·simp_all
    ·rw[ae c5,ah (by grind),ae c5];rfl
   ·rw [ae (by grind),ae c4];refine(Bj (a:=(([45]:B8).contains c||DC c)) λk=>?_).trans ?_;·rw[AdB,O1,aa];cases ([45]:B8).contains c<;>rfl
    try dsimp only
    have hsubl:sub l (p:Int) (l.length:Int)=some (c::r):=by grind[BA,List.take_of_length_le,List.length_cons]
    by_cases c5:(([45]:B8).contains c||DC c)=true
    ·rw[ah c5,ah c5,hsubl,aa,AAY _ (by grind) (by grind),aa];have hn:=ALO (c::r);simp only[ag]at hn;by_cases c6:Fz (c::r)=0;·rw[ah (by grind),ah c6];rfl
     ·rw[ae (by grind),ae c6,AO fG,show(p:Int)+((Fz (c::r):Nat):Int)=((p+Fz (c::r):Nat):Int) by simp];rw[BA l p _ fG fG,aa,bk,ht]
    ·rw[ae c5,ae c5];have hwl:=KM BS (c::r);simp only[ag]at hwl;refine(Bj (a:=((((c::r).takeWhile BS).length:Nat):Int)) λk=>?_).trans ?_;·have:=ADp (N:=N) (l:=l) fG p k (c::r) 0 N fG fG (by grind);simp_all
     try dsimp only
     rw[AO fG,show(p:Int)+((((c::r).takeWhile BS).length:Nat):Int)=((p+((c::r).takeWhile BS).length:Nat):Int) by simp];rw[VP BS ht hpl,aa];refine(Bj (a:=isWord ((c::r).takeWhile BS)) λk=>Aac _ k).trans ?_;try dsimp only
     by_cases c6:isWord ((c::r).takeWhile BS)=true;·simp_all
     ·rw[ae c6,ae c6];rfl
def AVp{β:Type} (w:B8) (k:Bool->Option β):(if(w==([116,114,117,101]:B8))=true then k true else if(w==([102,97,108,115,101]:B8))=true then k true else k (w==([110,117,108,108]:B8)))=k (isWord w):=by unfold isWord;cases w==([116,114,117,101]:B8)<;>cases w==([102,97,108,115,101]:B8)<;>rfl
def AVS{c:UInt8}{r:B8} (h:isWord ((c::r).takeWhile BS)=true):BS c=true:=by
 cases ha:BS c;·rw[aN,ha]at h;rw[ae fI]at h;exact absurd h fI
 ·rfl
def Abm (ht:l.drop p=t) (hp:p<=l.length) (hb:l.length<=2^40) (hN:l.length+10<=N):∃q k x,JL N ⟨l,(p:Int)⟩=some (k,x,(ACG N p t).2.2,q)/\((ACG N p t).2.2=0->(ACG N p t)=(ApiToken.mk k x p,q.at_,0)):=by
 have hl:=BO ht hp;unfold JL;match t,ht,hl with
 | [],ht,hl=>simp only[ap]at hl;rw[ah fJ];exact⟨_,_,_,rfl,λ_=>rfl⟩
 | c :: r,ht,hl=>
  simp only[ag]at hl;have w1:wr .i64 ((p:Int)+1)=((p+1:Nat):Int):=by rw[AO fG];simp
  rw[Y2,ae fJ];simp only[AA];rw[head_drop ht,aa,KY,aa,index_ge,w1];by_cases c3:UB.contains c=true;·rw[show(([123,125,91,93,58,44]:B8).contains c)=true from c3,ah rfl,AUR c c3];simp only[c3,av];exact⟨_,_,_,rfl,λ_=>rfl⟩
  ·rw [cw]at c3;rw[show(([123,125,91,93,58,44]:B8).contains c)=false from c3,ae fI,AlZ];simp only[c3,aj,aq];by_cases c4:c.toNat=34
   ·rw[ah (aA c4)];simp only[c4,av];obtain⟨q,hq,hq0⟩:=AnS (N:=N) (l:=l) hb fG (i:=p) fG;have hr:l.drop (p+1)=r:=by rw[<-aG,ht];rfl
    rw[hr]at hq hq0;rw[hq,aa];unfold outT;by_cases c5:(IV N r (p+1) []).2.2=0;·rw[ah c5,ah c5];exact⟨q,_,_,rfl,λ_=>by rw[hq0 c5]⟩
    ·rw[ae c5,ae c5];exact⟨q,_,_,rfl,λh=>absurd h c5⟩
   ·rw [ae (by simpa using c4)];simp only[c4,aq];rw[AdB,RV,aa,Oi,aa];have num: ∃q k x,((Df N ⟨l,(p:Int)⟩).bind λy16=>if y16.2.1=true then some ((4:Int),y16.1,(0:Int),y16.2.2)else some (0,[],130,y16.2.2))=some (k,x,(if Fz (c::r)=0 then Sd 130 else(ApiToken.mk 4 ((c::r).take (Fz (c::r))) p,((p+Fz (c::r):Nat):Int),0)).2.2,q)/\((if Fz (c::r)=0 then Sd 130 else(ApiToken.mk 4 ((c::r).take (Fz (c::r))) p,((p+Fz (c::r):Nat):Int),0)).2.2=0->(if Fz (c::r)=0 then Sd 130 else(ApiToken.mk 4 ((c::r).take (Fz (c::r))) p,((p+Fz (c::r):Nat):Int),0))=(ApiToken.mk k x p,q.at_,0)):=by
     have hn:=ADG (N:=N) ht hp fG;by_cases c6:Fz (c::r)=0;·rw[ah c6]at hn;obtain⟨q,hq⟩:=hn;rw[hq,aa,ah c6];exact⟨_,_,_,rfl,λh=>by cases h⟩
     ·rw[ae c6]at hn;rw[hn,aa,ae c6];exact⟨_,_,_,rfl,λ_=>rfl⟩
    have word:(([45]:B8).contains c||DC c)=false->∃q k x,(if BS c=true then (CG N ⟨l,(p:Int)⟩).bind λy20=>(if(y20.1==([116,114,117,101]:B8))=true then(if true=true then some ((5:Int),y20.1,(0:Int),y20.2)else some (0,[],130,y20.2))else if(y20.1==([102,97,108,115,101]:B8))=true then(if true=true then some ((5:Int),y20.1,(0:Int),y20.2)else some (0,[],130,y20.2))else(if(y20.1==([110,117,108,108]:B8))=true then some ((5:Int),y20.1,(0:Int),y20.2)else some (0,[],130,y20.2)))else some (0,[],130,⟨l,(p:Int)⟩))=some (k,x,(if isWord ((c::r).takeWhile BS)=true then(ApiToken.mk 5 ((c::r).takeWhile BS) p,((p+((c::r).takeWhile BS).length:Nat):Int),0)else Sd 130).2.2,q)/\((if isWord ((c::r).takeWhile BS)=true then(ApiToken.mk 5 ((c::r).takeWhile BS) p,((p+((c::r).takeWhile BS).length:Nat):Int),0)else Sd 130).2.2=0->(if isWord ((c::r).takeWhile BS)=true then(ApiToken.mk 5 ((c::r).takeWhile BS) p,((p+((c::r).takeWhile BS).length:Nat):Int),0)else Sd 130)=(ApiToken.mk k x p,q.at_,0)):=by
     intro _;by_cases c6:BS c=true
     ·rw[ah c6,AqM ht hp fG,aa];rw[AVp ((c::r).takeWhile BS) (λb=>if b=true then some ((5:Int),(c::r).takeWhile BS,(0:Int),(⟨l,((p+((c::r).takeWhile BS).length:Nat):Int)⟩:TokenReader))else some (0,[],130,⟨l,((p+((c::r).takeWhile BS).length:Nat):Int)⟩))];try dsimp only
      by_cases c7:isWord ((c::r).takeWhile BS)=true;·rw[ah c7,ah c7];exact⟨_,_,_,rfl,λ_=>rfl⟩
      ·rw[ae c7,ae c7];exact⟨_,_,_,rfl,λh=>by cases h⟩
     ·rw[ae c6,ae (λh=>c6 (AVS h))];exact⟨_,_,_,rfl,λh=>by cases h⟩
    by_cases k1:([45]:B8).contains c=true;·simp only[k1,cV,av];exact num
    ·rw[cw]at k1;simp only[k1,be,aj,aq];by_cases k2:DC c=true;·simp only[k2,av];exact num
     ·rw[cw]at k2;simp only[k2,aj,aq];exact word (by rw[k1,k2];rfl)
def AiQ (hb:l.length<=2^40) (hN:l.length+10<=N) (hi:i<=l.length):NK N l (i:Int)=some (Qp N l i):=by
 obtain⟨t0,ht0⟩: ∃t0,l.drop i=t0:=⟨_,rfl⟩;have hl0:=BO ht0 hi;have hw:=KM wsB t0;unfold NK Qp;have c1: ¬((i:Int)<0):=fG;have c2: ¬((i:Int)>(l.length:Int)):=fG;refine(Bj (a:=false) λk=>?_).trans ?_;·rw[ae fH,aO c2]
 try dsimp only
 rw[ae fI,Anm ht0 hi fG,aa,ht0];obtain⟨q,k,x,e1,e2⟩:=Abm (N:=N) (l:=l) (p:=i+(t0.takeWhile wsB).length) rfl fG hb hN;try dsimp only
 rw[e1,aa];try dsimp only
 by_cases h:(ACG N (i+(t0.takeWhile wsB).length) (l.drop (i+(t0.takeWhile wsB).length))).2.2=0;·rw[ae (by simpa using h),e2 h]
 ·rw [ah (by simpa using h)];have noT: ∀(p:Nat) (t:B8),(ACG N p t).2.2≠0->ACG N p t=Sd (ACG N p t).2.2:=by
   intro p t h;unfold ACG at h⊢;match t,h with
   |[],h=>exact absurd rfl h
   | c::r,h=>
    dsimp only at h⊢;by_cases k1:UB.contains c=true;·rw[ah k1]at h;exact absurd rfl h
    rw[ae k1]at h⊢;by_cases k2:c.toNat=34
    ·rw[ah k2]at h⊢;by_cases k3:(IV N r (p+1) []).2.2=0;·rw[ah k3]at h;exact absurd rfl h
     ·rw[ae k3];rfl
    rw[ae k2]at h⊢;by_cases k3:(([45]:B8).contains c||DC c)=true
    ·rw[ah k3]at h⊢;by_cases k4:Fz (c::r)=0;·rw[ah k4];rfl
     ·rw[ae k4]at h;exact absurd rfl h
    rw[ae k3]at h⊢;by_cases k4:isWord ((c::r).takeWhile BS)=true;·rw[ah k4]at h;exact absurd rfl h
    ·rw[ae k4];rfl
  rw[noT _ _ h];rfl
end
end
end Go.VM
namespace Go.VM
section
variable{N:Nat}
section
variable{l:B8}
end
def L9: ∀l:B8,List.map Ha (List.map AC l)=l |[]=>rfl|c::l=>by rw[aE,aE,JW,L9 l]
end
end Go.VM
namespace Go.VM
section
variable{N:Nat}
def AFM (l:B8) (hb:l.length<=2^60) (k2:List Int->Option B8): ∀(t pre:B8),l=pre++t->Gs N l k2 t (pre.length:Int) (List.map AC (pre.map CX)++List.map AC t)=k2 (List.map AC (l.map CX))
 |[],pre,h=>by grind[Gs]
 | c::t,pre,h=>by
  have hlen:pre.length<l.length:=by grind
  have hc:=c.toNat_lt;have next:=AFM l hb k2 t (pre++[c]) (by grind);rw[<-SF]at next;have hi:idx (List.map AC (pre.map CX)++List.map AC (c::t)) (pre.length:Int)=some (AC c):=by grind[AKT,List.map,AC,CX]
  have hset:(List.map AC (pre.map CX)++List.map AC (c::t)).set pre.length (AC (CX c))=List.map AC ((pre++[c]).map CX)++List.map AC t:=fH;rw[Gs];dsimp only[AA];rw[AJ fG,hi,aa];by_cases h1:65<=c.toNat/\c.toNat<=90
  ·have e:CX c=UInt8.ofNat (c.toNat+32):=by simp_all[CX,AEa]
   have e2:AC (CX c)=wr .u8 (AC c+32):=by grind[AGM,AC,toNat_ofNat]
   rw[ah (by have:=JC c;grind),ah (by have:=JC c;grind),AJ fG,aa,AJ (by simp<;>omega),<-e2];simp_all
  ·have e:CX c=c:=by unfold CX AEa;rw[ae h1];simp
   have e3:List.map AC ((pre++[c]).map CX)++List.map AC t=List.map AC (pre.map CX)++List.map AC (c::t):=by grind
   rw[e3]at next;by_cases h2:65<=c.toNat;·rw[ah (by have:=JC c;grind),ae (by have:=JC c;grind)];omega
   ·rw[ae (by have:=JC c;grind),ae fI];omega
def Nt (l:B8) (hb:l.length<=2^60):G5 N l=some (l.map CX):=by unfold G5;rw[AA,AJ (by grind[AL])];have:=AFM (N:=N) l hb (λj1=>grd (l.length<=j1.length/\AL l.length) (some (List.map Ha (List.take l.length j1)))) l [] rfl;simp only[bU,aT,ap]at this;rw[show(0:Int)=((0:Nat):Int)from rfl,this,AJ (by grind[AL]),aP fH,L9]
def SA (a b:B8) (ha:a.length<=2^60) (hb:b.length<=2^60):Jm N a b=some (a.map CX==b.map CX):=by unfold Jm;rw[lower_eq a ha,aa,lower_eq b hb,aa]
def SH (a b:B8) (ha:a.length<=2^60) (hb:b.length<=2^60):Jo N a b=some (a.map CX==b.map CX):=by unfold Jo;rw[Nt a ha,aa,Nt b hb,aa]
def Jf (l:B8):B8×Int:=if l=[]then([],3)else if l.length>253 then([],5)else if(ACl l||U1 l)=true then(l.map CX,0)else([],50)
def ADi (l:B8):NL N l=some (Jf l):=by
 unfold NL Jf;by_cases h:l=[];·grind
 rw[ae (by grind),ae h];by_cases h2:l.length>253;·rw[ah (by simp only[au];omega),ah h2]
 rw[ae (by simp only[au];omega),ae h2];dsimp only[AA];rw[AXV l fG,aa,AjI l fG,aa,Nt l fG,aa];cases ACl l<;>cases U1 l<;>rfl
end
end Go.VM
namespace Go.VM
section
variable{N:Nat}
def AKH (c:UInt8) (l:B8):strings_Index N l [c]=some (Go.Lib.indexByte l c):=by simp_all[strings_Index,Cr]
def ZE{c:UInt8}{l:B8}:l.count c=0<->l.contains c=false:=by grind
theorem Zz{c:UInt8}: ∀ {l:B8},l.contains c=true->l.count c=((l.dropWhile (· !=c)).drop 1).count c+1
 |[],h=>by grind
 | x::t,h=>by
  by_cases hx:x=c;·simp_all
  ·have hx':(x !=c)=true:=by grind
   rw[bh,show(c==x)=false by grind,be]at h;rw[bI,ah hx',List.count_cons,show(x==c)=false by grind,Zz h];simp
theorem HZ{c:UInt8}{l:B8} (h:l.contains c=true):Ac c l=(l.takeWhile (· !=c),(l.dropWhile (· !=c)).drop 1,true):=by simp_all[Ac]
theorem Sz{c:UInt8}{l:B8} (h:l.contains c=false):Ac c l=(l,[],false):=by simp_all[Ac]
def ALi{c:UInt8}{l:B8} (h:l.contains c=true) (hb:l.length<=1000000):sub l 0 (wr .i64 (Go.Lib.indexByte l c+0))=some (Ac c l).1/\sub l (wr .i64 (Go.Lib.indexByte l c+(([c]:B8).length:Int))) (l.length:Int)=some (Ac c l).2.1:=by
 have hlt:=OJ h;rw[OM];unfold Ac;simp only[h,av];generalize hn:(l.takeWhile (· !=c)).length=n at *;have w:wr .i64 ((n:Int)+(([c]:B8).length:Int))=((n+1:Nat):Int):=by grind[AO]
 have w0:wr .i64 ((n:Int)+0)=(n:Int):=by grind[AO]
 rw[w,w0,show(0:Int)=((0:Nat):Int)from rfl,BA l 0 n fG fG,BA l (n+1) l.length fG fG];rw[ba,bV,<-hn,J3,aP fH,<-aG,Og];simp
def ARw{c:UInt8}{a0:B8}{j3:Int}{M:Nat} (k10:B8×Int×List B8->Option (List B8)) (hE:(if(wr .i64 ((a0.length:Int)+1))<j3 then(wr .i64 ((a0.length:Int)+1))else j3)=((M:Nat):Int)) (hM:M<=2000000):∀(k:Nat) (s:B8) (done:List B8),s.count c=k->s.length<=1000000->done.length+k+1<=M->∃pre last,pre++[last]=done++AU c s/\pre.length=done.length+k/\Cv N a0 [c] 0 j3 k10 k (done.length:Int) s (done++List.replicate (k+1) [])=k10 (last,((done.length+k:Nat):Int),pre++[[]])
 | 0,s,done,hc,hs,hd=>by
  have h0:=ZE.1 hc;refine⟨done,s,?_,rfl,?_⟩;·grind[NW,Sz]
  grind[Cv]
 | k+1,s,done,hc,hs,hd=>by
  have h1:s.contains c=true:=by grind
  obtain⟨s1,s2⟩:=ALi h1 hs;have hcb:=Zz h1;have hc1:(Ac c s).2.1=(s.dropWhile (· !=c)).drop 1:=by rw[HZ h1]
  rw[<-hc1]at hcb;have hl:=Ib c s;obtain⟨pre,last,p1,p2,p3⟩:=ARw (c:=c) k10 hE hM k (Ac c s).2.1 (done++[(Ac c s).1]) fG fG (by grind);refine⟨pre,last,?_,by grind,?_⟩;·rw[p1,NW c s,ah (by rw[HZ h1])];simp
  ·rw[Cv,AKH,aa,ae (by rw[OM,ah h1];simp),s1,aa,hE,AJ (by constructor<;>omega),AJ fH,s2,aa];have e1:(done++List.replicate (k+1+1) ([]:B8)).set (done.length:Int).toNat (Ac c s).1=(done++[(Ac c s).1])++List.replicate (k+1) []:=by rw[bc,d7 _ _ (aw _),dF,eC,cq];simp
   grind
def ZL (l:B8) (c:UInt8) (hb:l.length<=1000000):strings_Split N l [c]=some (AU c l):=by
 have hcl:l.count c<=l.length:=List.count_le_length;have hcnt:strings_Count N l [c]=some ((l.count c:Nat):Int):=by unfold strings_Count;rw[ae fH,ah (by rfl),show idx [c] 0=some c from rfl,aa,JW];rfl
 unfold strings_Split strings_genSplit;dsimp only[AA];rw[ae fI,ae fH,ah fI,hcnt,aa];have w1:wr .i64 (((l.count c:Nat):Int)+1)=((l.count c+1:Nat):Int):=by grind[AO]
 have w2:wr .i64 ((l.length:Int)+1)=((l.length+1:Nat):Int):=by grind[AO]
 rw[w1];have hE:(if(wr .i64 ((l.length:Int)+1))<((l.count c+1:Nat):Int)then(wr .i64 ((l.length:Int)+1))else((l.count c+1:Nat):Int))=((l.count c+1:Nat):Int):=fG;obtain⟨pre,last,p1,p2,p3⟩:=ARw (N:=N) (c:=c) (a0:=l) (j3:=((l.count c+1:Nat):Int)) (M:=l.count c+1) (λj9:B8×Int×(List B8)=>grd (0<=j9.2.1/\j9.2.1<((if(wr .i64 ((l.length:Int)+1))<((l.count c+1:Nat):Int)then(wr .i64 ((l.length:Int)+1))else((l.count c+1:Nat):Int)).toNat:Int)) (grd (j9.2.1.toNat+1<=j9.2.2.length) (grd (0<=(wr .i64 (j9.2.1+1))/\(wr .i64 (j9.2.1+1))<=((if(wr .i64 ((l.length:Int)+1))<((l.count c+1:Nat):Int)then(wr .i64 ((l.length:Int)+1))else((l.count c+1:Nat):Int)).toNat:Int)) (grd ((wr .i64 (j9.2.1+1)).toNat<=j9.2.2.length) (some (List.take ((wr .i64 (j9.2.1+1)).toNat) (j9.2.2.set j9.2.1.toNat j9.1))))))) hE fG (l.count c) l [] rfl hb fH;have w3:(wr .i64 (((l.count c+1:Nat):Int)-1)-0).toNat=l.count c:=by grind[AO]
 rw[hE]at p3⊢;rw[AJ (by grind[WM]),AJ fG,w3];simp only[bc]at p3⊢;simp only[aT,ap,ci]at p1 p2 p3;rw[show((0:Nat):Int)=0 from rfl]at p3;rw[p3];have w4:wr .i64 (((l.count c:Nat):Int)+1)=((pre.length+1:Nat):Int):=fG;rw[w4];simp only[bc];rw[AJ fG,AJ (by grind),AJ fG,AJ fH,aa];rw[<-p2,d7 _ _ (aw _),dF,cq,aP fH,p1]
end
end Go.VM
namespace Go.VM
section
variable{N:Nat}
def FI (c:UInt8):Bool:=BS c||(DC c||([45,46,95,126]:B8).contains c)
def XV (c:UInt8):EF N (AC c)=some (FI c):=by have:=BJ (f:=λn=>EF N (n:Int)) (g:=λn=>some (FI (UInt8.ofNat n))) (by kernel_rfl) c;simp only[bv]at this;exact this
def X3 (c:UInt8):EA N (AC c)=some (FI c):=by have:=BJ (f:=λn=>EA N (n:Int)) (g:=λn=>some (FI (UInt8.ofNat n))) (by kernel_rfl) c;simp only[bv]at this;exact this
def AFJ (c:UInt8) (h:KC c=true):LJ N (AC c)=some ((Ev c.toNat:Nat):Int):=by have:=BJ (f:=λn=>if U3 n=true then LJ N (n:Int)else none) (g:=λn=>if U3 n=true then some ((Ev n:Nat):Int)else none) (by kernel_rfl) c;simp only[show U3 c.toNat=true from h,av]at this;exact this
def AFX (c:UInt8) (h:KC c=true):Nf N (AC c)=some ((Ev c.toNat:Nat):Int):=by have:=BJ (f:=λn=>if U3 n=true then Nf N (n:Int)else none) (g:=λn=>if U3 n=true then some ((Ev n:Nat):Int)else none) (by kernel_rfl) c;simp only[show U3 c.toNat=true from h,av]at this;exact this
def AR (a b:UInt8):UInt8:=UInt8.ofNat (16 * Ev a.toNat+Ev b.toNat)
def Atn{x y:Nat} (AR:x<16) (hy:y<16):JQ .u8 (Vy .u8 (x:Int) 4) (y:Int)=AC (UInt8.ofNat (16 * x+y)):=by have:=BJ (f:=λn=>JQ .u8 (Vy .u8 ((n / 16:Nat):Int) 4) ((n % 16:Nat):Int)) (g:=λn=>AC (UInt8.ofNat n)) (by kernel_rfl) (UInt8.ofNat (16 * x+y));grind[UInt8.ofNat,UInt8.toNat_ofNat']
def Ats{x y:Nat} (AR:x<16) (hy:y<16):wr .u8 ((wr .u8 (16 * (x:Int)))+(y:Int))=AC (UInt8.ofNat (16 * x+y)):=by grind[UInt8.ofNat,UInt8.toNat_ofNat',AGM,JC]
def NU:B8->Option UInt8 |a::b::_=>if(KC a&&KC b)=true then some (AR a b)else none|_=>none
def AA4:Option UInt8->Int×Bool |some x=>(AC x,true)|none=>(0,false)
section
variable{l t:B8}{i:Nat}{c:UInt8}
def AX4 (h:l.drop i=c::t) (hb:l.length<=2^40):JV N l (i:Int)=some (AA4 (NU t)):=by
 have hi:i<=l.length:=by have:=bg List.length h;grind
 have hl:=BO h hi;simp only[ag]at hl;unfold JV;dsimp only[AA];rw[AO fG];match t,h,hl with
 |[],h,hl=>simp only[ap]at hl;rw[ah (by grind),ah rfl];rfl
 |[a],h,hl=>simp only[ag,ap]at hl;rw[ah (by grind),ah rfl];rfl
 | a::b::r,h,hl=>
  simp only[ag]at hl;rw[ae (by grind),show wr .i64 ((i:Int)+1)=((i+1:Nat):Int) by grind[AO],show wr .i64 ((i:Int)+2)=((i+2:Nat):Int) by grind[AO],Ie (j:=1) h rfl,Ie (j:=2) h rfl,aa,aa,AGm,aa,aa,AGm,aa];unfold NU;cases ha:KC a;·grind[AA4]
  ·cases hb2:KC b;·grind[AA4]
   ·simp only[aU,cY,av,aj,aq];rw[AFJ a ha,aa,aa,AFJ b hb2,aa,Atn (TD a ha) (TD b hb2)];simp[AA4,ha,hb2,AR]
def AXL (h:l.drop i=37::t) (hb:l.length<=2^40):Md N l (i:Int)=some (AA4 (NU t)):=by
 have hi:i<=l.length:=by have:=bg List.length h;grind
 have hl:=BO h hi;simp only[ag]at hl;unfold Md;dsimp only[AA];rw[show wr .i64 ((i:Int)+1)=((i+1:Nat):Int) by grind[AO],show wr .i64 ((i:Int)+2)=((i+2:Nat):Int) by grind[AO]];match t,h,hl with
 |[],h,hl=>simp only[ap]at hl;rw[ah (by grind),ah rfl];rfl
 |[a],h,hl=>simp only[ag,ap]at hl;rw[ah (by grind),ah rfl];rfl
 | a::b::r,h,hl=>
  simp only[ag]at hl;rw[ae (by grind),show idx l (i:Int)=some 37 from Ie (j:=0) h rfl,aa,ae fI,Ie (j:=1) h rfl,Ie (j:=2) h rfl,aa,aa,AH6,aa,aa,AH6,aa];unfold NU;cases ha:KC a;·grind[AA4]
  ·cases hb2:KC b;·grind[AA4]
   ·simp only[aU,cY,av,aj,aq];rw[AFX a ha,aa,aa,AFX b hb2,aa,Ats (TD a ha) (TD b hb2)];simp[AA4,ha,hb2,AR]
def UO:Nat->B8->B8->B8×Int |0,_,_=>([],2)|_+1,[],out=>(out,0)|k+1,c::t,out=>if c=37 then(match NU t with|some x=>UO k (t.drop 2) (out++[x])|none=>([],2))else UO k t (out++[c])
def Ov{n:Nat} (h:n<=1000000000):BR n 1:=by grind[BR]
def U8{x:UInt8} (h:NU t=some x):2<=t.length:=by match t,h with |[],h=>cases h|[_],h=>cases h|_::_::_,_=>simp
def Ro (c:UInt8):(AC c==37)=decide (c=37):=by have:=BJ (f:=λn=>((n:Int)==37)) (g:=λn=>decide (UInt8.ofNat n=37)) (by kernel_rfl) c;simp only[bv]at this;exact this
def Z9 (hb:l.length<=100000): ∀(k:Nat) (t:B8) (i:Nat) (out:B8),l.drop i=t->i<=l.length->t.length<k->out.length<=i->Ef N l (λj=>some (List.map Ha j,0)) k (List.map AC out) (i:Int)=some (UO k t out)
 |0,t,i,out,_,_,h,_=>by omega
 | k+1,[],i,out,h,hi,hk,ho=>by have hl:=BO h hi;rw[Ef,ae (by grind),L9];rfl
 | k+1,c::t,i,out,h,hi,hk,ho=>by
  have hl:=BO h hi;simp only[ag]at hl hk;rw[Ef,ah (by grind),show idx l (i:Int)=some c from Ie (j:=0) h rfl,aa,AA,Ro];have hd:l.drop (i+1)=t:=by rw[<-aG,h];rfl
  by_cases hc:c=37;·rw[aA hc,ah rfl,AX4 h fG,aa,UO,ah hc];cases he:NU t with |none=>rfl| some x=>have:=U8 he;simp only[AA4,av];rw[AJ (Ov (by grind)),show wr .i64 (wr .i64 ((i:Int)+2)+1)=((i+3:Nat):Int) by grind[AO],show List.map AC out++[AC x]=List.map AC (out++[x]) by simp];exact Z9 hb k _ (i+3) (out++[x]) (by grind[List.drop_drop]) fG (by grind) (by grind)
  ·rw[aO hc,ae fI,UO,ae hc];dsimp only;rw[AJ (Ov (by grind)),show wr .i64 ((i:Int)+1)=((i+1:Nat):Int) by grind[AO],show List.map AC out++[AC c]=List.map AC (out++[c]) by simp];exact Z9 hb k t (i+1) (out++[c]) hd fG fG (by grind)
def ZO (hb:l.length<=100000): ∀(k:Nat) (t:B8) (i:Nat) (out:B8),l.drop i=t->i<=l.length->t.length<k->out.length<=i->Fq N l (λj=>some (List.map Ha j,0)) k (List.map AC out) (i:Int)=some (UO k t out)
 |0,t,i,out,_,_,h,_=>by omega
 | k+1,[],i,out,h,hi,hk,ho=>by have hl:=BO h hi;rw[Fq,ae (by grind),L9];rfl
 | k+1,c::t,i,out,h,hi,hk,ho=>by
  have hl:=BO h hi;simp only[ag]at hl hk;rw[Fq,ah (by grind),show idx l (i:Int)=some c from Ie (j:=0) h rfl,aa,AA,Ro];have hd:l.drop (i+1)=t:=by rw[<-aG,h];rfl
  by_cases hc:c=37;·subst hc;rw[aA rfl,ah rfl,AXL h fG,aa,UO,ah rfl];cases he:NU t with |none=>rfl| some x=>have:=U8 he;simp only[AA4,av];rw[AJ (Ov (by grind)),show wr .i64 (wr .i64 ((i:Int)+2)+1)=((i+3:Nat):Int) by grind[AO],show List.map AC out++[AC x]=List.map AC (out++[x]) by simp];exact ZO hb k _ (i+3) (out++[x]) (by grind[List.drop_drop]) fG (by grind) (by grind)
  ·rw[aO hc,ae fI,UO,ae hc];dsimp only;rw[AJ (Ov (by grind)),show wr .i64 ((i:Int)+1)=((i+1:Nat):Int) by grind[AO],show List.map AC out++[AC c]=List.map AC (out++[c]) by simp];exact ZO hb k t (i+1) (out++[c]) hd fG fG (by grind)
end
def Af (N:Nat) (s:B8):B8×Int:=if s.length>16384 then([],5)else UO N s []
def Qn (s:B8) (hN:20000<=N):GM N s=some (Af N s):=by
 unfold GM Af;by_cases h:s.length>16384;·rw[ah (by grind),ah h]
 ·rw[ae (by grind),ae h,AA];exact Z9 (l:=s) fG N s 0 [] rfl fG fG fH
def Ot (s:B8) (hN:20000<=N):Hq N s=some (Af N s):=by
 unfold Hq Af;by_cases h:s.length>16384;·rw[ah (by grind),ah h]
 ·rw[ae (by grind),ae h,AA];exact ZO (l:=s) fG N s 0 [] rfl fG fG fH
end
end Go.VM
namespace Go.VM
section
variable{N:Nat}
def Tp (n:Nat):UInt8:=([48,49,50,51,52,53,54,55,56,57,65,66,67,68,69,70]:B8).getD n 0
def NH (c:UInt8):B8:=[37,Tp (c.toNat / 16),Tp (c.toNat % 16)]
def T9 (c:UInt8):Jp N (AC c)=some (NH c):=by have:=BJ (f:=λn=>Jp N (n:Int)) (g:=λn=>some ([37,Tp (n / 16),Tp (n % 16)]:B8)) (by kernel_rfl) c;exact this
def UQ (also:B8):Nat->B8->B8->B8×Int |0,_,_=>([],2)|_+1,[],out=>(out,0)| k+1,c::t,out=>if c=37 then(match NU t with|some x=>UQ also k (t.drop 2) (out++(if FI x=true then [x]else NH x))|none=>([],2)) else if(FI c||also.contains c)=true then UQ also k t (out++[c])else([],1)
section
variable{l also:B8}
def Vi (hb:l.length<=100000) (ha:also.length<=1000): ∀(k:Nat) (t:B8) (i:Nat) (out:B8),l.drop i=t->i<=l.length->t.length<k->out.length<=3 * i->DY N l also (λj=>some (List.map Ha j,0)) k (List.map AC out) (i:Int)=some (UQ also k t out)
 |0,t,i,out,_,_,h,_=>by omega
 | k+1,[],i,out,h,hi,hk,ho=>by have hl:=BO h hi;rw[DY,ae (by grind),L9];rfl
 | k+1,c::t,i,out,h,hi,hk,ho=>by
  have hl:=BO h hi;simp only[ag]at hl hk;rw[DY,ah (by grind),AA,show idx l (i:Int)=some c from Ie (j:=0) h rfl,aa,bne,Ro,UQ];have hd:l.drop (i+1)=t:=by rw[<-aG,h];rfl
  by_cases hc:c=37
  ·subst hc;rw[aA rfl,ae fI,ah rfl,AXL h fG,aa];cases he:NU t with
   |none=>rfl
   | some x=>
    have:=U8 he;simp only[AA4,av];rw[AA,X3,aa];have e3:wr .i64 (wr .i64 ((i:Int)+2)+1)=((i+3:Nat):Int):=by grind[AO]
    cases hu:FI x;·rw[ae fI,T9,aa,AJ (Ov (by grind[NH]))];dsimp only;rw[e3,show List.map AC out++List.map AC (NH x)=List.map AC (out++NH x) by simp];exact Vi hb ha k _ (i+3) (out++NH x) (by grind[List.drop_drop]) fG (by grind) (by grind[NH])
    ·rw[ah rfl,AJ (Ov (by grind))];dsimp only;rw[e3,show List.map AC out++[AC x]=List.map AC (out++[x]) by simp];exact Vi hb ha k _ (i+3) (out++[x]) (by grind[List.drop_drop]) fG (by grind) (by grind)
  ·rw[aO hc,ah fI,ae hc,AA,X3,aa];have step:grd (BR ((List.map AC out).length+1) 1) ((λj6:List Int×Int=>DY N l also (λj=>some (List.map Ha j,0)) k j6.1 (wr .i64 (j6.2+1))) (List.map AC out++[AC c],(i:Int)))=some (UQ also k t (out++[c])):=by rw[AJ (Ov (by grind))];dsimp only;rw[show wr .i64 ((i:Int)+1)=((i+1:Nat):Int) by grind[AO],show List.map AC out++[AC c]=List.map AC (out++[c]) by simp];exact Vi hb ha k t (i+1) (out++[c]) hd fG fG (by grind)
   cases hu:FI c;·rw[ae fI,Po c also ha,aa,be];grind
   simp_all
end
def EN (N:Nat) (s also:B8):B8×Int:=if s.length>16384 then([],5)else UQ also N s []
def O9 (s also:B8) (hN:20000<=N) (ha:also.length<=1000):Gx N s also=some (EN N s also):=by
 unfold Gx EN;by_cases h:s.length>16384;·rw[ah (by grind),ah h]
 ·rw[ae (by grind),ae h,AA];exact Vi (l:=s) fG ha N s 0 [] rfl fG fG fH
def MK (keep:B8) (c:UInt8):B8:=if(FI c||(!decide (c=37)&&keep.contains c))=true then [c]else NH c
def ACI (keep:B8) (c:UInt8):(MK keep c).length<=3:=by unfold MK;split<;>simp[NH]
def V9{keep:B8} (ha:keep.length<=1000) (l:B8) (hb:l.length<=1000000): ∀(t pre out:B8),l=pre++t->out.length<=3 * pre.length->Dk N l keep (λj=>some j) t (pre.length:Int) out=some (out++t.flatMap (MK keep))
 |[],pre,out,h,ho=>by rw[Dk];simp
 | c::t,pre,out,h,ho=>by
  have hl:=bg List.length h;simp only[an,ag]at hl;have hlen:=ACI keep c;have nxt: ∀x:B8,x=MK keep c->Dk N l keep (λj=>some j) t ((pre.length:Int)+1) (out++x)=some (out++(c::t).flatMap (MK keep)):=λx AR=>by have:=V9 ha l hb t (pre++[c]) (out++x) (by rw[h];simp) (by rw[AR];simp only[an,ag,ap];omega);rw[aQ,<-aF,<-AR,<-this];congr 1;simp
  have hsub:sub l (pre.length:Int) ((pre.length:Int)+1)=some [c]:=by rw[show(pre.length:Int)+1=((pre.length+1:Nat):Int) by omega,BA l _ _ fG fG,h,d4];simp
  rw[Dk,AA,AA,X3,aa];have yes:(FI c||(!decide (c=37)&&keep.contains c))=true->Option.bind (sub l (pre.length:Int) ((pre.length:Int)+1)) (λx18=>grd (AL (out.length+x18.length)) (Dk N l keep (λj=>some j) t ((pre.length:Int)+1) (out++x18)))=some (out++(c::t).flatMap (MK keep)):=λhy=>by rw[hsub,aa,BV fJ];exact nxt [c] (by unfold MK;rw[ah hy])
  have no:(FI c||(!decide (c=37)&&keep.contains c))=false->Option.bind (Jp N (AC c)) (λy19=>grd (AL (out.length+y19.length)) (Dk N l keep (λj=>some j) t ((pre.length:Int)+1) (out++y19)))=some (out++(c::t).flatMap (MK keep)):=λhy=>by rw[T9,aa,BV (by simp[NH];omega)];exact nxt (NH c) (by unfold MK;rw[hy,ae fI])
  cases hu:FI c
  ·rw[ae fI,bne,Ro];rw[hu,be]at yes no;by_cases hc:c=37;·rw[aA hc]at yes no⊢;simpa using no fH
   ·rw[aO hc]at yes no⊢;rw[ah fI,Po c keep ha,aa];cases hk:keep.contains c;·rw[hk]at no;simpa using no rfl
    ·rw[hk]at yes;simpa using yes rfl
  ·rw[ah rfl];rw[hu]at yes;simpa using yes rfl
def Ur (s keep:B8) (ha:keep.length<=1000) (hb:s.length<=1000000):MQ N s keep=some (s.flatMap (MK keep)):=by unfold MQ;rw[AA,BV fG];simpa using V9 (N:=N) ha s hb s [] [] rfl fH
end
end Go.VM
namespace Go.VM
section
variable{N:Nat}
def Ke (c:UInt8): ∀l:B8,decide (Go.Lib.indexByte l c>=0)=l.contains c
 |[]=>rfl
 | b::l=>by
  have ih:=Ke c l;have hge:=Go.Lib.indexByte_ge l c;unfold Go.Lib.indexByte;rw[bh];by_cases h:b=c;·grind
  ·rw[ae (by grind),show(c==b)=false by grind,be,<-ih];by_cases h1:Go.Lib.indexByte l c= -1;·grind
   ·rw[ae (by grind)];congr 1;simp only[dS];constructor<;>intro<;>omega
def UA (out:B8) (c:UInt8) (ho:out.length<=900000000):Gt N (List.map AC out) (AC c)=some (List.map AC (out++NH c)):=by have h1:=BJ (f:=λn=>idx ([48,49,50,51,52,53,54,55,56,57,65,66,67,68,69,70]:B8) (UC .u8 (n:Int) 4)) (g:=λn=>some (Tp (n / 16))) (by kernel_rfl) c;have h2:=BJ (f:=λn=>idx ([48,49,50,51,52,53,54,55,56,57,65,66,67,68,69,70]:B8) (Gw .u8 (n:Int) 15)) (g:=λn=>some (Tp (n % 16))) (by kernel_rfl) c;unfold Gt;rw[show AC c=(c.toNat:Int)from rfl,h1,aa,h2,aa,AJ (Ov (by grind))];simp[NH,AC]
theorem AGJ{keep:B8} (k2:List Int->Option B8): ∀(t out:B8),out.length+3 * t.length<=900000000->Du N keep k2 t (List.map AC out)=k2 (List.map AC (out++t.flatMap (MK keep)))
 |[],out,ho=>by rw[Du];simp
 | c::t,out,ho=>by
  simp only[ag]at ho;have hlen:=ACI keep c;have nxt: ∀x:B8,x=MK keep c->Du N keep k2 t (List.map AC (out++x))=k2 (List.map AC (out++(c::t).flatMap (MK keep))):=λx AR=>by rw[AGJ k2 t (out++x) (by rw[AR,an];omega),aQ,<-aF,<-AR]
  have e1:List.map AC out++[AC c]=List.map AC (out++[c]):=fH;rw[Du];dsimp only[AA];rw[XV,aa,UA out c fG,aa,e1,AJ (Ov fJ),bne,Ro,KY,aa,Ke];have hE:MK keep c=if(FI c||(!decide (c=37)&&keep.contains c))=true then [c]else NH c:=rfl;cases hu:FI c
  ·by_cases hc:c=37;·simp only[aA hc,aU,av,aj,aq];exact nxt (NH c) (by rw[hE,hu,aA hc];rfl)
   ·cases hk:keep.contains c;·simp only[aO hc,aL,av,aj,aq];exact nxt (NH c) (by rw[hE,hu,aO hc,hk];rfl)
    ·simp only[aO hc,aL,av,aj,aq];exact nxt [c] (by rw[hE,hu,aO hc,hk];rfl)
  ·simp only[av];exact nxt [c] (by rw[hE,hu];rfl)
def XL (s keep:B8) (hb:s.length<=1000000):II N s keep=some (s.flatMap (MK keep)):=by unfold II;rw[AA,BV fG];have:=AGJ (N:=N) (keep:=keep) (λj1=>some (List.map Ha j1)) s [] fJ;rw[L9]at this;exact this
section
variable{l also:B8}
def VK (hb:l.length<=100000): ∀(k:Nat) (t:B8) (i:Nat) (out:B8),l.drop i=t->i<=l.length->t.length<k->out.length<=i->Cj N l also (λj=>some (List.map Ha j,0)) k (i:Int) (List.map AC out)=some (UQ also k t out)
 |0,t,i,out,_,_,h,_=>by omega
 | k+1,[],i,out,h,hi,hk,ho=>by have hl:=BO h hi;rw[Cj,ae (by grind),L9];rfl
 | k+1,c::t,i,out,h,hi,hk,ho=>by
  have hl:=BO h hi;simp only[ag]at hl hk;rw[Cj,ah (by grind)];dsimp only[AA];rw[show idx l (i:Int)=some c from Ie (j:=0) h rfl,aa,Ro,UQ];have hd:l.drop (i+1)=t:=by rw[<-aG,h];rfl
  by_cases hc:c=37
  ·rw [aA hc,ah rfl,ah hc,AX4 h fG,aa];cases he:NU t with
   |none=>rfl
   | some x=>
    have:=U8 he;simp only[AA4,av];rw[XV,aa];have e3:wr .i64 (wr .i64 ((i:Int)+2)+1)=((i+3:Nat):Int):=by grind[AO]
    cases hu:FI x;·rw[ae fI,UA out x fG,aa,e3];exact VK hb k _ (i+3) (out++NH x) (by grind[List.drop_drop]) fG (by grind) (by grind[NH])
    ·rw[ah rfl,AJ (Ov (by grind)),e3,show List.map AC out++[AC x]=List.map AC (out++[x]) by simp];exact VK hb k _ (i+3) (out++[x]) (by grind[List.drop_drop]) fG (by grind) (by grind)
  ·rw[aO hc,ae fI,ae hc,XV,aa,KY,aa,Ke];have step:grd (BR ((List.map AC out).length+1) 1) (Cj N l also (λj=>some (List.map Ha j,0)) k (wr .i64 ((i:Int)+1)) (List.map AC out++[AC c]))=some (UQ also k t (out++[c])):=by rw[AJ (Ov (by grind)),show wr .i64 ((i:Int)+1)=((i+1:Nat):Int) by grind[AO],show List.map AC out++[AC c]=List.map AC (out++[c]) by simp];exact VK hb k t (i+1) (out++[c]) hd fG fG (by grind)
   cases hu:FI c;·rw[ae fI,be];grind
   simp_all
end
def Mv (s also:B8) (hN:20000<=N):EY N s also=some (EN N s also):=by
 unfold EY EN;by_cases h:s.length>16384;·rw[ah (by grind),ah h]
 ·rw[ae (by grind),ae h,AA];exact VK (l:=s) fG N s 0 [] rfl fG fG fH
end
end Go.VM
