import Derived.Test.YtfcejbjjeaaleaaGreatDoorL6
set_option linter.defProp false
set_option linter.unusedVariables false
set_option linter.unusedSimpArgs false
namespace Go.VM
section
variable{N:Nat}
def Asw:B8:=[33,35,36,37,38,39,42,43,45,47,61,63,94,95,96,123,124,125,126]
def SV (c:UInt8):Bool:=BS c||(DC c||Asw.contains c)
def AfZ (c:UInt8):SX N (AC c)=some (SV c):=by unfold SX SV;rw[Oi,aa,RV,aa,KY,aa,Ke];cases BS c<;>cases DC c<;>rfl
def Ahd (c:UInt8):QX N (AC c)=some (SV c):=by unfold QX SV;rw[QI,aa,O1,aa,Po c _ fI,aa];cases BS c<;>cases DC c<;>rfl
def YA:Bool->B8->Bool |dot,[]=>!dot|dot,c::t=>if c=46 then !dot&&YA true t else SV c&&YA false t
def b46 (c:UInt8):(AC c==46)=decide (c=46):=by have:=BJ (f:=λn=>((n:Int)==46)) (g:=λn=>decide (UInt8.ofNat n=46)) (by kernel_rfl) c;simp only[bv]at this;exact this
def Zf (b:Bool): ∀(l:B8) (dot:Bool),Ht N (λj1=>if j1=true then some false else some b) l dot=some (YA dot l&&b)
 |[],dot=>by rw[Ht,YA];cases dot<;>simp
 | c::t,dot=>by
  rw[Ht,YA];dsimp only[AA];rw[AfZ,aa,bne,b46];by_cases hc:c=46;·rw[aA hc,ae fI,ah rfl,ah hc,Zf b t];cases dot<;>simp
  ·rw[aO hc,ah fI,ae hc];cases ha:SV c;·rfl
   ·simp only[av,aj,aq];rw[Zf b t];simp
def Akq (l:B8) (hb:l.length<=1000000):Qe N l=some (YA true l&&decide (l.length<=64)):=by
 unfold Qe;have e:decide ((l.length:Int)<=64)=decide (l.length<=64):=by congr 1;simp only[dS];omega
 rw[AA,BV fG,Zf,e]
def ZT: ∀(l:B8) (dot:Bool),YA dot l=(match AU 46 l with|p::ps=>(!(dot&&(p==[])))&&(p.all SV&&ps.all λq=>!(q==[])&&q.all SV)|[]=>false)
 |[],dot=>by cases dot<;>rfl
 | c::t,dot=>by
  rw[YA,AU];by_cases hc:c=46;·rw[ah hc,ah hc,ZT t true];grind[AU,absurd,Ew,Bool.and_assoc]
  ·rw[ae hc,ae hc,ZT t false];grind[AU,absurd,Ew,Bool.and_assoc]
def Aoi (k:Unit->Option Bool): ∀l:B8,Gb N k l=if l.all SV=true then k ()else some false |[]=>by rw[Gb];rfl| c::l=>by rw[Gb,Ahd,aa,Aoi k l];cases h:SV c<;>simp[h]
def Ao0 (k:Unit->Option Bool): ∀ps:List B8,(∀p,p∈ps->p.length<=1000000)->GU N k ps=if(ps.all λq=>!(q==[])&&q.all SV)=true then k ()else some false
 |[],_=>by rw[GU];rfl
 | p::ps,h=>by
  have hp:=h p fH;rw[GU];dsimp only[AA];rw[Aoi,Ao0 k ps λq hq=>h q (by simp[hq]),aK];cases AR:(p==([]:B8));·rw[ae fI,BV fG];cases p.all SV<;>simp
  ·rw[ah rfl];rfl
def Al4 (l:B8) (hb:l.length<=1000000):PY N l=some (YA true l&&decide (l.length<=64)):=by
 have hp:=I4 46 l;have hl:=Jw 46 l;unfold PY;dsimp only[AA];rw[show(46:Int)=AC 46 from rfl,QL l 46 hb,aa,BV fG,Ao0 _ _ λp h=>by have:=hp p h;omega];by_cases h0:l=[];·subst h0;rfl
 rw[ae (by simpa using h0)];have e:decide ((l.length:Int)>64)=!decide (l.length<=64):=by
  by_cases h:l.length<=64;·rw[aA h,aO fG];rfl
  ·rw[aO h,aA fG];rfl
 have hs:(AU 46 l).all (λq=>!(q==[])&&q.all SV)=YA true l:=by rw[ZT l true];cases hs:AU 46 l with |nil=>exact absurd hs (Ew 46 l)|cons p ps=>simp[fu]
 rw[e,hs];cases decide (l.length<=64)<;>cases YA true l<;>rfl
def TY:B8:=[33,36,39,42,43]
def ACS:B8:=[37,33,36,39,42,43]
def ATq (c:UInt8):Bool:=FI c||ACS.contains c
def Me:ApiMail:=⟨[],[]⟩
def AP0 (k:Unit->Option (ApiMail×Int)): ∀l:B8,H5 N k l=if l.all ATq=true then k ()else some (Me,1)
 |[]=>by rw[H5];rfl
 | c::l=>by
  rw[H5];dsimp only[AA];rw[XV,aa,KY,aa,AP0 k l,aK];have e:decide (Go.Lib.indexByte ([37,33,36,39,42,43]:B8) c<0)=!ACS.contains c:=by
   rw[<-Ke c ACS];unfold ACS;by_cases h:Go.Lib.indexByte ([37,33,36,39,42,43]:B8) c<0;·rw[aA h,aO fG];rfl
   ·rw[aO h,aA fG];rfl
  rw[e];unfold ATq;cases FI c<;>cases ACS.contains c<;>simp[Me]
def ANz{x8:B8} (k:Unit->Option (ApiMail×Int)): ∀(l rest pre:B8),x8=pre++(l++rest)->Gp N x8 k l.length pre.length=if l.all ATq=true then k ()else some (Me,1)
 |[],rest,pre,_=>by rw[ap,Gp];rfl
 | c::l,rest,pre,h=>by
  rw[ag,Gp];dsimp only[AA];have hget:idx x8 (pre.length:Int)=some c:=by rw[Ji,h,dC (aw _),dF];rfl
  have ih:=ANz (x8:=x8) k l rest (pre++[c]) (by rw[h];simp);rw[an,fp]at ih;rw[hget,aa,X3,aa,Po c _ fI,aa,show(pre.length:Int)+1=((pre.length+1:Nat):Int) by omega,ih,aK];change (if FI c=true then _ else if(!ACS.contains c)=true then _ else _)=_;unfold ATq;cases FI c<;>cases ACS.contains c<;>simp[Me]
def AWx (N:Nat) (l h:B8):ApiMail×Int:=if l.all ATq=false then(Me,1) else if((Af N l).2 !=0)=true then(Me,(Af N l).2) else if(YA true (Af N l).1&&decide ((Af N l).1.length<=64))=false then(Me,80) else if((Jf h).2 !=0)=true then(Me,(Jf h).2) else if ACl (Jf h).1=true then(Me,50) else(⟨(Af N l).1,(Jf h).1⟩,0)
def Te (N:Nat) (s:B8):ApiMail×Int:=if s.length>4096 then(Me,5) else if s.length<7 then(Me,60) else if((s.take 7).map CX==List.map CX [109,97,105,108,116,111,58])=false then(Me,60) else if((Ac 64 (s.drop 7)).2.2&&!((s.drop 7).any ([63,35]:B8).contains))=false then(Me,6) else AWx N (Ac 64 (s.drop 7)).1 (Ac 64 (s.drop 7)).2.1
theorem AJA: ∀(k:Nat) (t out:B8),(UO k t out).1.length<=out.length+t.length
 |0,t,out=>by simp[UO]
 |k+1,[],out=>by simp[UO]
 | k+1,c::t,out=>by
  rw[UO];split;·cases h:NU t with |none=>simp| some x=>have h2:=U8 h;have:=AJA k (t.drop 2) (out++[x]);grind
  ·have:=AJA k t (out++[c]);grind
theorem KF (s:B8):(Af N s).1.length<=s.length:=by grind[Af,AJA]
def AfD{set:B8}: ∀ {l:B8},decide ((((l.takeWhile λx=>!set.contains x).length:Nat):Int)<(l.length:Int))=l.any set.contains |[]=>by simp| c::l=>by have ih:=AfD (set:=set) (l:=l);rw[aN,bK];cases h:set.contains c<;>simp_all
def ARm{p:B8} (h:(p.map CX==List.map CX [109,97,105,108,116,111,58])=true): ∀x,x∈p->x.toNat<128/\([63,35]:B8).contains x=false:=by
 intro x AR;have hm:CX x∈List.map CX [109,97,105,108,116,111,58]:=by rw[<-bE.1 h];grind
 have key:=BJ (f:=λn=>(!(List.map CX [109,97,105,108,116,111,58]).contains (CX (UInt8.ofNat n)))||(decide (n<128)&&!([63,35]:B8).contains (UInt8.ofNat n))) (g:=λ_=>true) (by kernel_rfl) x;simp_all
def Ahg{s:B8} (h:((s.take 7).map CX==List.map CX [109,97,105,108,116,111,58])=true):s.any ([63,35]:B8).contains=(s.drop 7).any ([63,35]:B8).contains:=by
 conv=>lhs;rw[<-bN 7 s]
 rw[List.any_append];have:(s.take 7).any ([63,35]:B8).contains=false:=by rw[eT];intro x AR;rw[(ARm h x AR).2];decide
 grind
def AgY (s:B8) (hb:s.length<=1000000) (hN:20000<=N):Qg N s=some (Te N s):=by
 unfold Qg Te;by_cases h1:s.length>4096;·rw[ah fJ,ah h1];rfl
 rw[ae fJ,ae h1];dsimp only[AA];by_cases h2:s.length<7;·rw[ah fJ,ah h2,ah rfl];rfl
 have hl:=Ib 64 (s.drop 7);rw[aB]at hl;rw[ae fJ,ae h2,show sub s 0 7=some (s.take 7)from(BA s 0 7 fG fG).trans fH,aa,SA _ _ (by rw[bL];omega) fI,aa,show sub s 7 (s.length:Int)=some (s.drop 7)from Cx (n:=7) fG,aa,Oo 64 _ (by rw[aB];omega),aa];cases hp:(List.map CX (s.take 7)==List.map CX [109,97,105,108,116,111,58]);·simp only[aL,av];rfl
 simp only[aU,aj,aq];rw[ae (by decide: ¬(true=false)),Vb];cases hc:(s.drop 7).contains 64;·simp only[aj,aq,av,eL];rfl
 simp only[av,bJ];rw [AV7 fI fI fI (by
  intro h8 c hcm;have hcs:c∈s:=(dp _).subset hcm;rw[<-bN 7 s,aY]at hcs;rcases hcs with hcs|hcs;·exact(ARm hp c hcs).1
  ·have hd:(s.drop 7).length<=1:=by rw[aB];omega
   match hq:s.drop 7,hd,hc,hcs with
   | [x],_,hc,hcs=>
    simp only[bh,dZ,cx]at hc;have:c=x:=by simpa using hcs
    have h64:x=64:=(bE.1 hc).symm;rw[this,h64];decide) fG fG,aa,Ahg hp];cases (s.drop 7).any ([63,35]:B8).contains;rotate_left;·rfl
 simp only[aj,aq,aL];rw[ae (by decide: ¬(true=false)),BV fG,AP0];unfold AWx;cases (Ac 64 (s.drop 7)).1.all ATq;·rfl
 simp only[av];rw[ae (by decide: ¬(true=false)),Qn _ hN,aa];have hdl:=KF (N:=N) (Ac 64 (s.drop 7)).1;generalize Af N (Ac 64 (s.drop 7)).1=D at *;by_cases h5:(D.2 !=0)=true;·rw[ah h5,ah h5];rfl
 rw[ae h5,ae h5,Akq _ fG,aa];cases (YA true D.1&&decide (D.1.length<=64));·rfl
 simp only[av];rw[ae (by decide: ¬(true=false)),ADE _ fG,aa];have hh:=SB (Ac 64 (s.drop 7)).2.1;generalize Jf (Ac 64 (s.drop 7)).2.1=H at *;by_cases h6:(H.2 !=0)=true;·rw[ah h6,ah h6];rfl
 rw[ae h6,ae h6,AXg _ fG,aa];cases ACl H.1<;>rfl
def Aic (s:B8) (hb:s.length<=1000000) (hN:20000<=N):PG N s=some (Te N s):=by
 unfold PG Te;by_cases h1:s.length>4096;·rw[ah fJ,ah h1];rfl
 rw[ae fJ,ae h1];dsimp only[AA];by_cases h2:s.length<7;·rw[ah fJ,ah h2,ah rfl];rfl
 have hl:=Ib 64 (s.drop 7);have hdl:(s.drop 7).length<=1000000:=by rw[aB];omega
 rw[aB]at hl;rw[ae fJ,ae h2,show sub s 0 7=some (s.take 7)from(BA s 0 7 fG fG).trans fH,aa,SH _ _ (by rw[bL];omega) fI,aa,show sub s 7 (s.length:Int)=some (s.drop 7)from Cx (n:=7) fG,aa,Alj 64 _ hdl,aa,Xq,Vb];cases hp:(List.map CX (s.take 7)==List.map CX [109,97,105,108,116,111,58]);·simp only[aL,av];rfl
 simp only[aU,aj,aq];rw[ae (by decide: ¬(true=false))];cases hc:(s.drop 7).contains 64;·simp only[aL,av,eL];rfl
 simp only[aU,aj,aq,bJ];rw[LA _ [63,35] fI fG,aa,AfD];cases (s.drop 7).any ([63,35]:B8).contains;rotate_left;·rfl
 simp only[aj,aq,aL];obtain⟨s1,s2⟩:=YF hc hdl;have hlt:=OJ hc;have hcut:(Ac 64 (s.drop 7)).1=(s.drop 7).takeWhile (· !=64):=by rw[HZ hc]
 have hpre:s.drop 7=[]++((Ac 64 (s.drop 7)).1++(s.drop 7).dropWhile (· !=64)):=by rw[hcut,aT,bw]
 have hloop:=λk=>ANz (N:=N) (x8:=s.drop 7) k (Ac 64 (s.drop 7)).1 _ [] hpre;rw[ae (by decide: ¬(true=false)),AJ fG,Int.sub_zero,bc,<-hcut];refine(hloop _).trans ?_;rw[<-hcut]at s1 s2;unfold AWx;cases (Ac 64 (s.drop 7)).1.all ATq;·rfl
 simp only[av];rw[ae (by decide: ¬(true=false)),s1,aa,Ot _ hN,aa];have hdl:=KF (N:=N) (Ac 64 (s.drop 7)).1;generalize Af N (Ac 64 (s.drop 7)).1=D at *;by_cases h5:(D.2 !=0)=true;·rw[ah h5,ah h5];rfl
 rw[ae h5,ae h5,Al4 _ fG,aa];cases (YA true D.1&&decide (D.1.length<=64));·rfl
 simp only[av];rw[ae (by decide: ¬(true=false)),s2,aa,ADi,aa];have hh:=SB (Ac 64 (s.drop 7)).2.1;generalize Jf (Ac 64 (s.drop 7)).2.1=H at *;by_cases h6:(H.2 !=0)=true;·rw[ah h6,ah h6];rfl
 rw[ae h6,ae h6,AXV _ fG,aa];cases ACl H.1<;>rfl
def AFF (m:ApiMail):B8:=(([109,97,105,108,116,111,58]++m.local_.flatMap (MK TY))++[64])++m.host
theorem RG (keep:B8): ∀l:B8,(l.flatMap (MK keep)).length<=3 * l.length |[]=>by simp| c::l=>by have:=RG keep l;have:=ACI keep c;rw[aQ,an,ag];omega
def AaD (m:ApiMail) (h:m.local_.length<=100000/\m.host.length<=100000):Pg N m=some (AFF m):=by have:=RG TY m.local_;unfold Pg AFF;rw[XL _ _ fG,aa];change grd (AL (_+(m.local_.flatMap (MK TY)).length)) (grd _ (grd _ (some ((([109,97,105,108,116,111,58]++m.local_.flatMap (MK TY))++[64])++m.host))))=_;rw[BV (by simp only[ag,ap];omega),BV (by simp only[an,ag,ap];change _+(m.local_.flatMap (MK TY)).length+_<=_;omega),BV (by simp only[an,ag,ap];change _+(m.local_.flatMap (MK TY)).length+_+_<=_;omega)]
def AYq (m:ApiMail) (h:m.local_.length<=100000/\m.host.length<=100000):OO N m=some (AFF m):=by have:=RG TY m.local_;unfold OO AFF;rw[Ur _ _ fI fG,aa];change grd (AL (_+(m.local_.flatMap (MK TY)).length)) (grd _ (grd _ (some ((([109,97,105,108,116,111,58]++m.local_.flatMap (MK TY))++[64])++m.host))))=_;rw[BV (by simp only[ag,ap];omega),BV (by simp only[an,ag,ap];change _+(m.local_.flatMap (MK TY)).length+_<=_;omega),BV (by simp only[an,ag,ap];change _+(m.local_.flatMap (MK TY)).length+_+_<=_;omega)]
def ZG (s:B8):(Te N s).1.local_.length<=4096/\(Te N s).1.host.length<=253:=by
 have hh:=SB (Ac 64 (s.drop 7)).2.1;have hn:=KF (N:=N) (Ac 64 (s.drop 7)).1;have hl:=Ib 64 (s.drop 7);rw[aB]at hl;unfold Te AWx;split;·simp[Me]
 split;·simp[Me]
 split;·simp[Me]
 split;·simp[Me]
 split;·simp[Me]
 split;·simp[Me]
 split;·simp[Me]
 split;·simp[Me]
 split;·simp[Me]
 ·dsimp only;omega
end
end Go.VM
namespace Go.VM
section
variable{N:Nat}
def Tv (d:Bool) (b s:B8) (h:b.length+s.length<=1000000000):AQ N ⟨d,b⟩ s=some ((s.length:Int),(),⟨true,b++s⟩):=by unfold AQ FE;cases d<;>simp only[aj,aq,av,aa]<;>rw[AJ (Ov fG)]
def ABB (r:B8) (x c:UInt8):B8:=if c=x then r else [c]
def ACa{r:B8}{x:UInt8}: ∀ {l:B8},l.contains x=false->l.flatMap (ABB r x)=l
 |[],_=>rfl
 | c::l,h=>by
  rw[bh,dD]at h;have hc: ¬c=x:=by grind
  rw[aQ,ACa h.2,ABB,ae hc];rfl
theorem AnU{r:B8}{x:UInt8}{l:B8} (h:l.contains x=true):l.flatMap (ABB r x)=(Ac x l).1++(r++(Ac x l).2.1.flatMap (ABB r x)):=by
 induction l with
 |nil=>grind
 | cons c t ih=>
  by_cases hc:c=x;·subst hc;rw[HZ h,aQ,ABB,ah rfl];simp
  ·have e1:(x==c)=false:=by grind
   have e2:(c !=x)=true:=by grind
   have ht:t.contains x=true:=by simp_all
   have hi:=ih ht;rw[HZ h,aN,e2,bI,e2,aQ,hi,ABB,ae hc];grind[HZ]
def AQa{l r:B8}{x:UInt8} (hb:l.length<=1000000) (hr:r.length<=3) (k18:Int×Bool×B8->Option B8): ∀(k:Nat) (t pre buf:B8) (d:Bool),l=pre++t->t.count x=k->buf.length+3 * t.length<=100000000->∃last pre' buf' d',l=pre'++last/\buf'++last=buf++t.flatMap (ABB r x)/\buf'.length<=100000000/\EH N l [x] r k18 k pre.length d buf=k18 ((pre'.length:Int),d',buf')
 | 0,t,pre,buf,d,h,hk,ho=>by have h0:=ZE.1 hk;exact⟨t,pre,buf,d,h,by rw[ACa h0],fG,by rw[EH]⟩
 | k+1,t,pre,buf,d,h,hk,ho=>by
  have hl:=bg List.length h;simp only[an]at hl;have h1:t.contains x=true:=by grind
  have hlt:=OJ h1;have hcnt:t.count x=(Ac x t).2.1.count x+1:=by grind[HZ,Zz]
  have hc:=Ib x t;have he:t=(Ac x t).1++(x::(Ac x t).2.1):=by
   rw[HZ h1];have e:=bw (p:=(· !=x)) (l:=t);have hd:t.dropWhile (· !=x)=x::(t.dropWhile (· !=x)).drop 1:=by cases hq:t.dropWhile (· !=x)with |nil=>grind| cons y ys=>grind[List.head?_dropWhile_not]
   grind
  have hlen:(Ac x t).1.length+1+(Ac x t).2.1.length=t.length:=by have:=bg List.length he;grind
  have hi:(Go.Lib.indexByte t x)=((Ac x t).1.length:Int):=by rw[OM,ah h1,HZ h1]
  have hlp:l=(pre++(Ac x t).1++[x])++(Ac x t).2.1:=by grind
  obtain⟨last,pre',buf',d',q1,q2,q3,q4⟩:=AQa (x:=x) hb hr k18 k (Ac x t).2.1 (pre++(Ac x t).1++[x]) (buf++(Ac x t).1++r) true hlp fG (by grind);refine⟨last,pre',buf',d',q1,?_,q3,?_⟩;·grind[AnU]
  ·have hdl:l.drop pre.length=t:=by grind
   rw[EH,Cx fG,aa,hdl,AKH,aa,hi];have w1:wr .i64 ((pre.length:Int)+((Ac x t).1.length:Int))=((pre.length+(Ac x t).1.length:Nat):Int):=by rw[AO fG];omega
   have w2:wr .i64 (((pre.length+(Ac x t).1.length:Nat):Int)+(([x]:B8).length:Int))=((pre.length+(Ac x t).1.length+1:Nat):Int):=by rw[AO fJ];simp
   have hseg:(l.drop pre.length).take (pre.length+(Ac x t).1.length-pre.length)=(Ac x t).1:=by grind[Nat.add_sub_cancel_left,HZ,J3]
   rw[w1,w2,BA l _ _ fG fG,aa,hseg,Tv _ _ _ fG,aa];dsimp only;rw[Tv _ _ _ (by grind),aa];dsimp only;have e9:pre.length+(Ac x t).1.length+1=(pre++(Ac x t).1++[x]).length:=by grind
   grind
def RI (l:B8) (x:UInt8) (r:B8) (hr:r.length=3) (hb:l.length<=1000000):strings_ReplaceAll N l [x] r=some (l.flatMap (ABB r x)):=by
 have hcl:l.count x<=l.length:=List.count_le_length;have hcnt:strings_Count N l [x]=some ((l.count x:Nat):Int):=by unfold strings_Count;rw[ae fH,ah (by rfl),show idx [x] 0=some x from rfl,aa,JW];rfl
 have hne: ¬(([x]:B8)==r)=true:=by intro h;have:=bE.1 h;grind
 unfold strings_ReplaceAll strings_Replace;dsimp only[AA];rw[ae hne,ae fI,hcnt,aa];by_cases h0:l.count x=0;·rw[ah (by grind),aa,ACa (ZE.1 h0)]
 rw[ae (by grind),ah fI,ah rfl];have wg:wr .i64 ((l.length:Int)+(wr .i64 (((l.count x:Nat):Int) * (wr .i64 ((r.length:Int)-(([x]:B8).length:Int))))))=((l.length+l.count x * 2:Nat):Int):=by rw[hr,show wr .i64 (((3:Nat):Int)-(([x]:B8).length:Int))=2 from rfl,AO (n:=((l.count x:Nat):Int) * 2) fG,AO fG];simp
 rw[wg];unfold Eo;rw[AJ fG,aa,ah fH,AJ fG,Int.sub_zero,bc];obtain⟨last,pre',buf',d',q1,q2,q3,q4⟩:=AQa (N:=N) (l:=l) (r:=r) (x:=x) hb fG (λj17:Int×Bool×B8=>(sub l j17.1 (l.length:Int)).bind λx41=>(AQ N (StringsBuilder.mk j17.2.1 j17.2.2) x41).bind λy42=>(Bv N y42.2.2).bind λy44=>some (y44.1)) (l.count x) l [] [] true rfl rfl (by grind);have hl:=bg List.length q1;simp only[an]at hl;rw[show(([]:B8).length:Int)=0 from rfl]at q4;rw[q4,Cx fG,aa,show l.drop pre'.length=last by grind,Tv _ _ _ (by grind),aa];grind[Bv]
end
end Go.VM
namespace Go.VM
section
variable{N:Nat}
def Rv (name:B8) (xs:List ApiField):List B8:=(xs.filter λf=>f.name.map CX==name.map CX).map (·.value)
def hdB (h:ApiHead):Prop:=h.fields.length<=100/\ ∀f,f∈h.fields->f.name.length+f.value.length<=20000
def R3 (xs:List B8):Nat:=(xs.map List.length).sum
def Pi (sep:B8) (xs:List B8):B8:=xs.flatMap λx=>sep++x
def ACM (sep:B8):List B8->B8 |[]=>[]|x::xs=>x++Pi sep xs
def Afu (name:B8) (xs:List ApiField):(Rv name xs).length<=xs.length:=by unfold Rv;rw[co];exact fo ..
def AqJ{name:B8}{xs:List ApiField} (h: ∀f,f∈xs->f.name.length+f.value.length<=20000): ∀v,v∈Rv name xs->v.length<=20000:=by intro v hv;obtain⟨f,hf,rfl⟩:=bz.1 hv;have:=h f (List.mem_filter.1 hf).1;omega
def AnN{xs:List B8}{M:Nat} (h: ∀v,v∈xs->v.length<=M):R3 xs<=xs.length * M:=by induction xs with |nil=>simp[R3]| cons x xs ih=>have h1:=h x (.head _);have h2:=ih λv hv=>h v (.tail _ hv);simp only[R3,aE,dM,ag,bX]at *;omega
def VF (sep:B8): ∀xs:List B8,(Pi sep xs).length=xs.length * sep.length+R3 xs |[]=>by simp[Pi,R3]| x::xs=>by have:=VF sep xs;unfold Pi R3 at *;rw[aQ,an,an,this,aE,dM,ag,bX];omega
def AYU (sep:B8) (xs:List B8):(ACM sep xs).length<=xs.length * sep.length+R3 xs:=by cases xs with |nil=>simp[ACM]|cons x xs=>rw[ACM,an,VF,ag,bX];simp only[R3,aE,dM];omega
def XB (name:B8) (hn:name.length<=1000000) (k:List B8->Option (List B8)): ∀(xs:List ApiField) (s:List B8),(∀f,f∈xs->f.name.length+f.value.length<=20000)->s.length+xs.length<=1000->Gq N name k xs s=k (s++Rv name xs)
 |[],s,_,_=>by rw[Gq];simp[Rv]
 | f::xs,s,h,hl=>by
  have h1:=h f (.head _);rw[ag]at hl;rw[Gq];dsimp only[AA];rw[SA _ _ fG fG,aa];have AR: ∀g,g∈xs->g.name.length+g.value.length<=20000:=λg hg=>h g (.tail _ hg);unfold Rv;rw[de];by_cases e:(f.name.map CX==name.map CX)=true;·rw[ah e,ah e,APw fG fI,XB name hn k xs _ AR fJ];simp[Rv]
  ·rw[ae e,ae e,XB name hn k xs _ AR fG];simp[Rv]
def XI (name:B8) (hn:name.length<=1000000) (k:List B8->Option (List B8)): ∀(xs:List ApiField) (s:List B8),(∀f,f∈xs->f.name.length+f.value.length<=20000)->s.length+xs.length<=1000->FY N name k xs s=k (s++Rv name xs)
 |[],s,_,_=>by rw[FY];simp[Rv]
 | f::xs,s,h,hl=>by
  have h1:=h f (.head _);rw[ag]at hl;rw[FY];dsimp only[AA];rw[SH _ _ fG fG,aa];have AR: ∀g,g∈xs->g.name.length+g.value.length<=20000:=λg hg=>h g (.tail _ hg);unfold Rv;rw[de];by_cases e:(f.name.map CX==name.map CX)=true;·rw[ah e,ah e,APw fG fI,XI name hn k xs _ AR fJ];simp[Rv]
  ·rw[ae e,ae e,XI name hn k xs _ AR fG];simp[Rv]
def Ag6{h:ApiHead} (hh:hdB h) (name:B8) (hn:name.length<=1000000):Ph N h name=some (Rv name h.fields):=by obtain⟨h1,h2⟩:=hh;unfold Ph;rw[AA,BV fG,XB name hn _ _ _ h2 fJ];rfl
def Aiu{h:ApiHead} (hh:hdB h) (name:B8) (hn:name.length<=1000000):OE N h name=some (Rv name h.fields):=by obtain⟨h1,h2⟩:=hh;unfold OE;rw[AA,BV fG,XI name hn _ _ _ h2 fJ];rfl
def pj1 (k:Int->Option B8): ∀(xs:List B8) (s:Nat),s+R3 xs<=1000000000->Fp N k xs (s:Int)=k ((s+R3 xs:Nat):Int) |[],s,_=>by rw[Fp];simp[R3]| x::xs,s,h=>by simp only[R3,aE,dM]at h;have hi:=pj1 k xs (s+x.length) (by simp only[R3];omega);rw[Fp];dsimp only[AA];rw[ae (by rw[AO fG];simp;omega),AO fG,show(s:Int)+(x.length:Int)=((s+x.length:Nat):Int) by omega,hi];simp only[R3,aE,dM,dv]
def pj2 (sep:B8) (k:StringsBuilder->Option B8): ∀(xs:List B8) (b:B8),b.length+(Pi sep xs).length<=1000000000->Fa N sep k xs ⟨true,b⟩=k ⟨true,b++Pi sep xs⟩ |[],b,_=>by rw[Fa];simp[Pi]| x::xs,b,h=>by simp only[Pi,aQ,an]at h;have hi:=pj2 sep k xs (b++sep++x) (by simp only[an,Pi];omega);rw[Fa,Tv _ _ _ fG,aa];dsimp only;rw[Tv _ _ _ fJ,aa];dsimp only;rw[hi];simp[Pi]
theorem Aje{sep:B8} (h1:1<=sep.length) (h2:sep.length<=100) (xs:List B8) (hl:xs.length<=10000) (hs:R3 xs<=100000000):strings_Join N xs sep=some (ACM sep xs):=by
 unfold strings_Join;match xs,hl,hs with
 |[],_,_=>rfl
 |[x],_,_=>simp[idx,ACM,Pi]
 | x::y::r,hl,hs=>
  simp only[ag]at hl;have hm:sep.length * (r.length+1)<=1000000:=bA (eJ h2 (show r.length+1<=10000 by omega)) fI;have ht:=VF sep (y::r);have hsx:R3 (x::y::r)=x.length+R3 (y::r):=by simp[R3]
  rw[ae fJ,ae fJ];dsimp only[AA];have e1:wr .i64 ((((x::y::r).length:Nat):Int)-1)=((r.length+1:Nat):Int):=by rw[AO (by simp only[ag];omega)];simp
  rw[ah fJ,e1,AJ fG,ae,show wr .i64 ((sep.length:Int) * ((r.length+1:Nat):Int))=((sep.length * (r.length+1):Nat):Int) by rw[<-Int.natCast_mul,AO fG],AO fG,Int.zero_add,BV fJ,pj1 _ _ _ fG]
  ·unfold Eo;rw[AJ ⟨by have:1<=sep.length * (r.length+1):=Nat.mul_pos h1 fG;omega,fG⟩,aa];have e2:idx (x::y::r) 0=some x:=rfl;have e3:sub (x::y::r) 1 (((x::y::r).length:Nat):Int)=some (y::r):=by rw[show(1:Int)=((1:Nat):Int)from rfl,BA _ _ _ fH fH];simp
   rw[e2,aa,Tv _ _ _ fJ,aa,e3,aa,BV fJ];dsimp only;rw[pj2 _ _ _ _ (by simp only[an,ap];rw[ht];simp only[ag];have:(r.length+1) * sep.length=sep.length * (r.length+1):=Nat.mul_comm ..;omega)];unfold Bv;simp[ACM]
  ·have h0:(0:Int)<((r.length+1:Nat):Int):=fG;have h9:(922337203685477:Int)<=Int.tdiv 9223372036854775807 ((r.length+1:Nat):Int):=by rw[cc fI,Int.le_ediv_iff_mul_le h0];omega
   have h10:Int.tdiv 9223372036854775807 ((r.length+1:Nat):Int)<=9223372036854775807:=by rw[cc fI];exact Int.ediv_le_self _ fI
   rw[AO ⟨fh fI h9,h10⟩,au];exact λh=>absurd (fh h9 h) fG
def AFw (k:B8->Option (B8×Bool)): ∀(xs:List B8) (i:Nat) (s:B8),1<=i->s.length+(Pi [44,32] xs).length<=1000000000->Gr N k xs (i:Int) s=k (s++Pi [44,32] xs) |[],i,s,_,_=>by rw[Gr];simp[Pi]| x::xs,i,s,hi,h=>by simp only[Pi,aQ,an]at h;have ih:=AFw k xs (i+1) (s++[44,32]++x) fG (by simp only[an,Pi];omega);rw[Gr];dsimp only[AA];rw[ah fJ,BV fG,BV (by simp only[an];omega),show(i:Int)+1=((i+1:Nat):Int) by omega,ih];simp[Pi]
def AIe{h:ApiHead} (hh:hdB h) (name:B8):(Rv name h.fields).length<=100/\R3 (Rv name h.fields)<=2000000:=by have h1:=Afu name h.fields;have h2:=AnN (AqJ (name:=name) hh.2);have h3:=b9 20000 (bA h1 hh.1);exact⟨bA h1 hh.1,fG⟩
def Ws (h:ApiHead) (name:B8):B8×Bool:=(ACM [44,32] (Rv name h.fields),decide (((Rv name h.fields).length:Int)>0))
def ACE{h:ApiHead} (hh:hdB h) (name:B8):(Ws h name).1.length<=2000200:=by have h1:=AIe hh name;have h2:=AYU [44,32] (Rv name h.fields);unfold Ws;simp only[ag,ap]at h2⊢;omega
def AMK{h:ApiHead} (hh:hdB h) (name:B8) (hn:name.length<=1000000):QV N h name=some (Ws h name):=by have h1:=AIe hh name;unfold QV;rw[Ag6 hh name hn,aa,Aje fI fI _ fG fG,aa];rfl
def Tz{h:ApiHead} (hh:hdB h) (name:B8) (hn:name.length<=1000000):Oy N h name=some (Ws h name):=by have h1:=AIe hh name;unfold Oy Ws;rw[Aiu hh name hn,aa,AA,BV fG];generalize Rv name h.fields=vs at *;cases vs with |nil=>rw[Gr];rfl| cons x xs=>simp only[R3,aE,dM,ag]at h1;rw[Gr];dsimp only[AA];rw[ae fI,BV fJ,show(0:Int)+1=((1:Nat):Int) by rfl,AFw _ _ _ _ fI (by rw[VF];simp only[an,ap,ag,R3];omega)];rfl
end
end Go.VM
namespace Go.VM
section
variable{N:Nat}{l:B8}
def AnO (n:Nat):Bool:=ABm n||(decide (48<=n)&&decide (n<=57))||([33,35,36,37,38,39,42,43,45,46,94,95,96,124,126]:List Nat).contains n
def AIN (c:UInt8):Bool:=AnO c.toNat
def AeW (c:UInt8):Bool:=decide (c.toNat=32)||decide (c.toNat=9)
def vlC (c:UInt8):Bool:=decide (c.toNat=9)||decide (32<=c.toNat)&&decide (c.toNat≠127)
def Ar5 (c:UInt8):Mm N (AC c)=some (AIN c):=BJ (f:=λn=>Mm N (n:Int)) (g:=λn=>some (AnO n)) (by kernel_rfl) c
def Ar3 (c:UInt8):NA N (AC c)=some (AIN c):=BJ (f:=λn=>NA N (n:Int)) (g:=λn=>some (AnO n)) (by kernel_rfl) c
def AsF (c:UInt8):GY N (AC c)=some (AeW c):=BJ (f:=λn=>GY N (n:Int)) (g:=λn=>some (decide (n=32)||decide (n=9))) (by kernel_rfl) c
def Asv (c:UInt8):Pk N (AC c)=some (AeW c):=BJ (f:=λn=>Pk N (n:Int)) (g:=λn=>some (decide (n=32)||decide (n=9))) (by kernel_rfl) c
def Ar1 (c:UInt8):K6 N (AC c)=some (vlC c):=BJ (f:=λn=>K6 N (n:Int)) (g:=λn=>some (decide (n=9)||decide (32<=n)&&decide (n≠127))) (by kernel_rfl) c
def AsR (c:UInt8):K5 N (AC c)=some (vlC c):=BJ (f:=λn=>K5 N (n:Int)) (g:=λn=>some (decide (n=9)||decide (32<=n)&&decide (n≠127))) (by kernel_rfl) c
def AM2{p:UInt8->Bool}: ∀t:B8,t.take (t.takeWhile p).length=t.takeWhile p |[]=>rfl|c::t=>by rw[aN];cases p c<;>simp[AM2 t]
def scan{β:Type}{p:UInt8->Bool}{F:Nat->Int->Option β}{K:Int->Option β} (h0: ∀k i:Nat,l.drop i=[]->i<=l.length->F (k+1) (i:Int)=K (i:Int)) (h1: ∀(k i:Nat) (c:UInt8) (t:B8),l.drop i=c::t->i<l.length->F (k+1) (i:Int)=if p c=true then F k ((i+1:Nat):Int)else K (i:Int)):∀(t:B8) (i k:Nat),l.drop i=t->i<=l.length->t.length<k->F k (i:Int)=K ((i+(t.takeWhile p).length:Nat):Int)
 |[],i,k+1,ht,hi,_=>h0 k i ht hi
 | c::t,i,k+1,ht,hi,hk=>by
  have hl:=BO ht hi;simp only[ag]at hl hk;rw[h1 k i c t ht fG,aN];cases p c;·simp
  ·rw[ah rfl,ah rfl,scan h0 h1 t (i+1) k (by rw[<-aG,ht];rfl) fG fG,ag];congr 2;omega
def AFa{p:UInt8->Bool}{i:Nat} (hi:i<=l.length):i+((l.drop i).takeWhile p).length<=l.length:=by have:=(dp p (l:=l.drop i)).length_le;rw[aB]at this;omega
def JB{i:Nat} (h:l.drop i=[]):l.length<=i:=by rw[eg]at h;exact h
def KW{i:Nat}{c:UInt8}{t:B8} (h:l.drop i=c::t):i<l.length:=by
 rcases aV i l.length with h'|h';·exact h'
 ·rw[List.drop_eq_nil_of_le h']at h;cases h
def Px{i:Nat} (hb:l.length<=10000000) (hi:i<=l.length):wr .i64 ((i:Int)+1)=((i+1:Nat):Int):=by rw[AO fG];rfl
def twT (l:B8) (i:Nat):B8:=(l.drop i).takeWhile AIN
def skA (l:B8) (i:Nat):Nat:=i+((l.drop i).takeWhile AeW).length
def Wy{i:Nat} (hi:i<=l.length):skA l i<=l.length:=AFa hi
def WB{i:Nat} (hi:i<=l.length):i+(twT l i).length<=l.length:=AFa hi
def ANE (hb:l.length<=10000000) (hN:l.length<N){i:Nat} (hi:i<=l.length):Dy N ⟨l,i⟩=some (twT l i,!(twT l i==[]),⟨l,((i+(twT l i).length:Nat):Int)⟩):=by
 have hw:=WB hi;unfold Dy Dw;rw[AA];rw[scan (l:=l) (p:=AIN) (F:=λk a=>Ah N _ k l a) (K:=λa=>(λj1:GrammarCursor=>(sub j1.s (i:Int) j1.at_).bind λx11=>some (x11,j1)) ⟨l,a⟩) ?_ ?_ (l.drop i) i N rfl hi (by rw[aB];omega)]
 ·change Option.bind (Option.bind (sub l (i:Int) ((i+(twT l i).length:Nat):Int)) _) _=_;rw[BA _ _ _ fG hw,aa,bk,show(l.drop i).take (twT l i).length=twT l i from ?_];·rfl
  ·exact AM2 _
 ·intro k j hj hl;have:=JB hj;try dsimp only
  rw[Ah];unfold Ad;dsimp only[Option.bind_some];rw[ah fJ]
 ·intro k j c t hj hl;try dsimp only
  rw[Ah];unfold Ad;dsimp only[Option.bind_some];rw[ae fJ,head_drop hj,aa,Ar5,aa,Px hb fG]
def Ma (hb:l.length<=10000000) (hN:l.length<N){i:Nat} (hi:i<=l.length):Ce N ⟨l,i⟩=some ⟨l,(skA l i:Nat)⟩:=by
 have hw:=Wy hi;unfold Ce CR;rw[AA];rw[scan (l:=l) (p:=AeW) (F:=λk a=>AZ N _ k l a) (K:=λa=>(λj1:GrammarCursor=>(sub j1.s (i:Int) j1.at_).bind λx11=>some (x11,j1)) ⟨l,a⟩) ?_ ?_ (l.drop i) i N rfl hi (by rw[aB];omega)];·change Option.bind (Option.bind (sub l (i:Int) ((skA l i:Nat):Int)) _) _=_;rw[BA _ _ _ (by unfold skA;omega) hw];rfl
 ·intro k j hj hl;have:=JB hj;try dsimp only
  rw[AZ];unfold Ad;dsimp only[Option.bind_some];rw[ah fJ]
 ·intro k j c t hj hl;try dsimp only
  rw[AZ];unfold Ad;dsimp only[Option.bind_some];rw[ae fJ,head_drop hj,aa,AsF,aa,Px hb fG]
def Uy (hb:l.length<=10000000) (hN:l.length<N){i:Nat} (hi:i<=l.length):J6 N l i=some ((skA l i:Nat):Int):=by
 unfold J6;rw[AA,scan (l:=l) (p:=AeW) (F:=λk a=>H8 N l _ k a) (K:=λa=>some a) ?_ ?_ (l.drop i) i N rfl hi (by rw[aB];omega)];·rfl
 ·intro k j hj hl;have:=JB hj;try dsimp only
  rw[H8];dsimp only[AA];rw[ae fJ,ae fI]
 ·intro k j c t hj hl;try dsimp only
  rw[H8];dsimp only[AA];rw[ah fJ,head_drop hj,aa,Asv,aa,Px hb fG]
def Xv (hb:l.length<=10000000) (hN:l.length<N){i:Nat} (hi:i<=l.length):Iy N l i=some (if twT l i=[]then([],0,false)else(twT l i,((i+(twT l i).length:Nat):Int),true)):=by
 have hw:=WB hi;unfold Iy;rw[AA,scan (l:=l) (p:=AIN) (F:=λk a=>Gm N l _ k a) (K:=λj1=>if(decide (j1<=(i:Int)))=true then some ([],0,false)else (sub l (i:Int) j1).bind λx13=>some (x13,j1,true)) ?_ ?_ (l.drop i) i N rfl hi (by rw[aB];omega)]
 ·change (if(decide (((i+(twT l i).length:Nat):Int)<=(i:Int)))=true then _ else _)=_;by_cases h:twT l i=[];·rw[ah (by rw[h];simp),ah h]
  ·have:0<(twT l i).length:=bD.2 h;rw[ae fJ,ae h];change Option.bind (sub l (i:Int) ((i+(twT l i).length:Nat):Int)) _=_;rw[BA _ _ _ fG hw,aa,bk];congr 2;exact AM2 _
 ·intro k j hj hl;have:=JB hj;try dsimp only
  rw[Gm];dsimp only[AA];rw[ae fJ,ae fI]
 ·intro k j c t hj hl;try dsimp only
  rw[Gm];dsimp only[AA];rw[ah fJ,head_drop hj,aa,Ar3,aa,Px hb fG]
def atI (l:B8) (i:Nat) (n:Int):Bool:=match l.drop i with|c::_=>AC c==n|[]=>false
def AUL{i:Nat}{n:Int} (h:atI l i n=true):i<l.length:=by unfold atI at h;cases hd:l.drop i with |nil=>rw[hd]at h;cases h|cons c t=>exact KW hd
def Qr (hb:l.length<=10000000){i:Nat} (hi:i<=l.length) (n:Int):Bp N ⟨l,i⟩ n=some (atI l i n,⟨l,((i+(atI l i n).toNat:Nat):Int)⟩):=by
 unfold Bp Ad;dsimp only[AA,Option.bind_some];cases hd:l.drop i with
 | nil=>have:=JB hd;rw[ah fJ,ah rfl];simp[atI,hd]
 | cons c t=>
  have:=KW hd;rw[ae fJ,head_drop hd,aa];have e:atI l i n=(AC c==n):=by unfold atI;rw[hd]
  cases h:(AC c==n);·rw[e,h,show(AC c !=n)=true by simp[bne,h],ah rfl];rfl
  ·rw[e,h,show(AC c !=n)=false by simp[bne,h],ae fI,Px hb hi];rfl
def AoN (c k:UInt8):(AC c==AC k)=decide (c=k):=by
 rw[dP,bE,au];constructor;·intro h;have:=bg Ha h;rwa[JW,JW]at this
 ·rintro rfl;rfl
def Aq4 (a:B8):List.map Ha (List.map AC a)=a:=by induction a with |nil=>rfl|cons x a ih=>rw[aE,aE,JW,ih]
def VB (l:B8) (i:Nat) (P:Option (B8×Bool×GrammarCursor)) (R:Option (B8×Int×Bool)):Prop:=(∃(out:B8) (j:Nat),i<j/\j<=l.length/\out.length<=l.length/\P=some (out,true,⟨l,(j:Int)⟩)/\R=some (out,(j:Int),true))\/(∃(o:B8) (j:Nat),i<=j/\j<=l.length/\o.length<=l.length/\P=some (o,false,⟨l,(j:Int)⟩)/\R=some ([],0,false))
def AY1 (hb:l.length<=10000000){y:Bool×GrammarCursor} (hy:y.1=true) (i0:Nat): ∀(n i k k':Nat) (a:B8),l.length-i<n->i0<i->i<=l.length->l.length-i<k->l.length-i<k'->a.length<=i->VB l i0 (Cg N (λj1=>some ([],false,j1)) y k (a.map AC) l (i:Int)) (Gz N l (λ_=>some ([],0,false)) k' a (i:Int)):=by
 intro n;induction n with
 |zero=>intro i k k' a h;omega
 | succ n ih=>
  intro i k k' a hn h0 hi hk hk' ha;obtain⟨k,rfl⟩: ∃m,k=m+1:=⟨k-1,fG⟩;obtain⟨k',rfl⟩: ∃m,k'=m+1:=⟨k'-1,fG⟩;rw[Cg,Gz];unfold Ad;dsimp only[AA,Option.bind_some];rw[ah hy];cases hd:l.drop i with
  | nil=>have:=JB hd;rw[ae fJ,ae fJ];exact .inr ⟨[],i,fG,hi,fH,rfl,rfl⟩
  | cons c t=>
   have hlt:=KW hd;have q1:decide ((i:Int)<(l.length:Int))=true:=by simp;omega
   have q2:(!decide ((i:Int)>=(l.length:Int)))=true:=by simp;omega
   rw[ah q2,ah q1,head_drop hd,aa,aa,show((34:Int))=AC 34 from rfl,show((92:Int))=AC 92 from rfl,AoN,AoN];by_cases h34:c=34;·rw[ah (aA h34),ah (aA h34),Aq4,Px hb hi];exact .inl ⟨a,i+1,fG,fG,fG,rfl,rfl⟩
   ·have q3: ¬decide (c=34)=true:=by simpa using h34
    rw[ae q3,ae q3];by_cases h92:c=92
    ·rw [ah (aA h92),ah (aA h92),Px hb hi];cases hd2:l.drop (i+1)with
     | nil=>
      have:=JB hd2;have q4:decide (((i+1:Nat):Int)>=(l.length:Int))=true:=by simp;omega
      have q5:(((i+1:Nat):Int)==(l.length:Int))=true:=by simp;omega
      rw[ah q4,ah q5];exact .inr ⟨[],i+1,fG,fG,fH,rfl,rfl⟩
     | cons d t2=>
      have hlt2:=KW hd2;have q4: ¬decide (((i+1:Nat):Int)>=(l.length:Int))=true:=by simp;omega
      have q5: ¬(((i+1:Nat):Int)==(l.length:Int))=true:=by simp;omega
      rw[ae q4,ae q5,head_drop hd2,aa,aa,Ar1,AsR,aa,aa];cases vlC d;·rw[ae fI,ae fI];exact .inr ⟨[],i+1,fG,fG,fH,rfl,rfl⟩
      ·rw[ah rfl,ah rfl,AJ (by unfold BR;simp;omega),BV fJ,Px hb fG,aE,bU,JW,show List.map AC a++[AC d]=(a++[d]).map AC by simp];exact ih (i+1+1) k k' (a++[d]) fG fG fG fG fG fJ
    ·have q6: ¬decide (c=92)=true:=by simpa using h92
     rw[ae q6,ae q6,Ar1,AsR,aa,aa];cases vlC c;·rw[ae fI,ae fI];exact .inr ⟨[],i,fG,fG,fH,rfl,rfl⟩
     ·rw[ah rfl,ah rfl,AJ (by unfold BR;simp;omega),BV fJ,Px hb fG,aE,bU,JW,show List.map AC a++[AC c]=(a++[c]).map AC by simp];exact ih (i+1) k k' (a++[c]) fG fG fG fG fG fJ
def ABe (hb:l.length<=10000000) (hN:l.length+10<N){i:Nat} (hi:i<=l.length):VB l i (En N ⟨l,i⟩) (Nb N l i):=by
 unfold En Nb Ad;dsimp only[AA,Option.bind_some];have tk:VB l i ((Dy N ⟨l,i⟩).bind λy10=>some (y10.1,y10.2.1,y10.2.2)) ((Iy N l i).bind λy8=>some (y8.1,y8.2.1,y8.2.2)):=by
  have hw:=WB hi;rw[ANE hb fG hi,Xv hb fG hi,aa,aa];by_cases h:twT l i=[];·rw[ah h,h];exact .inr ⟨[],i,fG,hi,fH,rfl,rfl⟩
  ·have:0<(twT l i).length:=bD.2 h;rw[ae h,show(!(twT l i==[]))=true by simpa using h];exact .inl ⟨twT l i,i+(twT l i).length,fG,hw,fG,rfl,rfl⟩
 cases hd:l.drop i with
 | nil=>
  have:=JB hd;have q1:decide ((i:Int)>=(l.length:Int))=true:=by simp;omega
  have q2: ¬decide ((i:Int)<(l.length:Int))=true:=by simp;omega
  rw[ah q1,ae q2];exact tk
 | cons c t=>
  have hlt:=KW hd;have q1: ¬decide ((i:Int)>=(l.length:Int))=true:=by simp;omega
  have q2:decide ((i:Int)<(l.length:Int))=true:=by simp;omega
  rw[ae q1,ah q2,head_drop hd,aa,aa];cases h34:(AC c==34);·rw[ae fI,ae fI];exact tk
  ·rw[ah rfl,ah rfl];unfold JP QE;dsimp only[AA];have e:atI l i 34=true:=by unfold atI;rw[hd];exact h34
   rw[Qr hb hi,e,ae q1,head_drop hd,aa,aa,show(AC c !=34)=false by simp[bne,h34],ae fI,Px hb hi];have:=AY1 (N:=N) hb (y:=(true,⟨l,((i+1:Nat):Int)⟩)) rfl i (l.length+1) (i+1) N N [] fG fG fG fG fG fH;rcases this with⟨out,j,h1,h2,h3,h4,h5⟩|⟨o,j,h1,h2,h3,h4,h5⟩;·exact .inl ⟨out,j,h1,h2,h3,by simp only[bU]at h4;simp only[bH];rw[h4];rfl,by rw[h5];rfl⟩
   ·exact .inr ⟨o,j,h1,h2,h3,by simp only[bU]at h4;simp only[bH];rw[h4];rfl,by rw[h5];rfl⟩
end
end Go.VM
