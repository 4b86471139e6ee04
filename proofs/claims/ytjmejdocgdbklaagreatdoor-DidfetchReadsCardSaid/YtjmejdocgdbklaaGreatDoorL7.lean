import Derived.Test.YtjmejdocgdbklaaGreatDoorL6
set_option linter.defProp false
set_option linter.unusedVariables false
set_option linter.unusedSimpArgs false
namespace Go.VM
section
variable{N:Nat}
def Ap0:B8:=[33,35,36,37,38,39,42,43,45,47,61,63,94,95,96,123,124,125,126]
def Ri (c:UInt8):Bool:=BU c||(DI c||Ap0.contains c)
def Aef (c:UInt8):RJ N (AC c)=some (Ri c):=by unfold RJ Ri;rw[N9,aa,QY,aa,Ij,aa,Jc];cases BU c<;>cases DI c<;>rfl
def Acj (c:UInt8):Px N (AC c)=some (Ri c):=by unfold Px Ri;rw[PX,aa,OP,aa,N7 c _ fB,aa];cases BU c<;>cases DI c<;>rfl
def Xq:Bool->B8->Bool |dot,[]=>!dot|dot,c::t=>if c=46 then !dot&&Xq true t else Ri c&&Xq false t
def b46 (c:UInt8):(AC c==46)=decide (c=46):=by have:=BH (f:=λn=>((n:Int)==46)) (g:=λn=>decide (UInt8.ofNat n=46)) (by kernel_rfl) c;simp only[bo]at this;exact this
def YU (b:Bool): ∀(l:B8) (dot:Bool),G8 N (λj1=>if j1=true then some false else some b) l dot=some (Xq dot l&&b)
 |[],dot=>by rw[G8,Xq];cases dot<;>simp
 | c::t,dot=>by
  rw[G8,Xq];dsimp only[AA];rw[Aef,aa,bne,b46];by_cases hc:c=46;·rw[aA hc,ae fB,ah rfl,ah hc,YU b t];cases dot<;>simp
  ·rw[aO hc,ah fB,ae hc];cases ha:Ri c;·rfl
   ·simp only[av,al,au];rw[YU b t];simp
def Ak4 (l:B8) (hb:l.length<=1000000):Pm N l=some (Xq true l&&decide (l.length<=64)):=by
 unfold Pm;have e:decide ((l.length:Int)<=64)=decide (l.length<=64):=by congr 1;simp only[dO];omega
 rw[AA,BS fy,YU,e]
def YF: ∀(l:B8) (dot:Bool),Xq dot l=(match AX 46 l with|p::ps=>(!(dot&&(p==[])))&&(p.all Ri&&ps.all λq=>!(q==[])&&q.all Ri)|[]=>false)
 |[],dot=>by cases dot<;>rfl
 | c::t,dot=>by
  rw[Xq,AX];by_cases hc:c=46;·rw[ah hc,ah hc,YF t true];grind[AX,absurd,Eu,Bool.and_assoc]
  ·rw[ae hc,ae hc,YF t false];grind[AX,absurd,Eu,Bool.and_assoc]
def Ala (k:Unit->Option Bool): ∀l:B8,Gf N k l=if l.all Ri=true then k ()else some false |[]=>by rw[Gf];rfl| c::l=>by rw[Gf,Acj,aa,Ala k l];cases h:Ri c<;>simp[h]
def Alw (k:Unit->Option Bool): ∀ps:List B8,(∀p,p∈ps->p.length<=1000000)->GM N k ps=if(ps.all λq=>!(q==[])&&q.all Ri)=true then k ()else some false
 |[],_=>by rw[GM];rfl
 | p::ps,h=>by
  have hp:=h p fA;rw[GM];dsimp only[AA];rw[Ala,Alw k ps λq hq=>h q (by simp[hq]),aI];cases AQ:(p==([]:B8));·rw[ae fB,BS fy];cases p.all Ri<;>simp
  ·rw[ah rfl];rfl
def AiO (l:B8) (hb:l.length<=1000000):Ov N l=some (Xq true l&&decide (l.length<=64)):=by
 have hp:=Ih 46 l;have hl:=Jf 46 l;unfold Ov;dsimp only[AA];rw[show(46:Int)=AC 46 from rfl,Pg l 46 hb,aa,BS fy,Alw _ _ λp h=>by have:=hp p h;omega];by_cases h0:l=[];·subst h0;rfl
 rw[ae (by simpa using h0)];have e:decide ((l.length:Int)>64)=!decide (l.length<=64):=by
  by_cases h:l.length<=64;·rw[aA h,aO fy];rfl
  ·rw[aO h,aA fy];rfl
 have hs:(AX 46 l).all (λq=>!(q==[])&&q.all Ri)=Xq true l:=by rw[YF l true];cases hs:AX 46 l with |nil=>exact absurd hs (Eu 46 l)|cons p ps=>simp[fj]
 rw[e,hs];cases decide (l.length<=64)<;>cases Xq true l<;>rfl
def Sc:B8:=[33,36,39,42,43]
def AAw:B8:=[37,33,36,39,42,43]
def ARx (c:UInt8):Bool:=FC c||AAw.contains c
def Lv:ApiMail:=⟨[],[]⟩
def AMm (k:Unit->Option (ApiMail×Int)): ∀l:B8,Hl N k l=if l.all ARx=true then k ()else some (Lv,1)
 |[]=>by rw[Hl];rfl
 | c::l=>by
  rw[Hl];dsimp only[AA];rw[XR,aa,Ij,aa,AMm k l,aI];have e:decide (Go.Lib.indexByte ([37,33,36,39,42,43]:B8) c<0)=!AAw.contains c:=by
   rw[<-Jc c AAw];unfold AAw;by_cases h:Go.Lib.indexByte ([37,33,36,39,42,43]:B8) c<0;·rw[aA h,aO fy];rfl
   ·rw[aO h,aA fy];rfl
  rw[e];unfold ARx;cases FC c<;>cases AAw.contains c<;>simp[Lv]
def API{x8:B8} (k:Unit->Option (ApiMail×Int)): ∀(l rest pre:B8),x8=pre++(l++rest)->GZ N x8 k l.length pre.length=if l.all ARx=true then k ()else some (Lv,1)
 |[],rest,pre,_=>by rw[ap,GZ];rfl
 | c::l,rest,pre,h=>by
  rw[ag,GZ];dsimp only[AA];have hget:idx x8 (pre.length:Int)=some c:=by rw[Jt,h,dr (aw _),dx];rfl
  have ih:=API (x8:=x8) k l rest (pre++[c]) (by rw[h];simp);rw[an,fg]at ih;rw[hget,aa,Wv,aa,N7 c _ fB,aa,show(pre.length:Int)+1=((pre.length+1:Nat):Int) by omega,ih,aI];change (if FC c=true then _ else if(!AAw.contains c)=true then _ else _)=_;unfold ARx;cases FC c<;>cases AAw.contains c<;>simp[Lv]
def AUs (N:Nat) (l h:B8):ApiMail×Int:=if l.all ARx=false then(Lv,1) else if((Ac N l).2 !=0)=true then(Lv,(Ac N l).2) else if(Xq true (Ac N l).1&&decide ((Ac N l).1.length<=64))=false then(Lv,80) else if((JW h).2 !=0)=true then(Lv,(JW h).2) else if ABj (JW h).1=true then(Lv,50) else(⟨(Ac N l).1,(JW h).1⟩,0)
def Sa (N:Nat) (s:B8):ApiMail×Int:=if s.length>4096 then(Lv,5) else if s.length<7 then(Lv,60) else if((s.take 7).map Cn==List.map Cn [109,97,105,108,116,111,58])=false then(Lv,60) else if((AR 64 (s.drop 7)).2.2&&!((s.drop 7).any ([63,35]:B8).contains))=false then(Lv,6) else AUs N (AR 64 (s.drop 7)).1 (AR 64 (s.drop 7)).2.1
theorem AIF: ∀(k:Nat) (t out:B8),(Tq k t out).1.length<=out.length+t.length
 |0,t,out=>by simp[Tq]
 |k+1,[],out=>by simp[Tq]
 | k+1,c::t,out=>by
  rw[Tq];split;·cases h:Mo t with |none=>simp| some x=>have h2:=UW h;have:=AIF k (t.drop 2) (out++[x]);grind
  ·have:=AIF k t (out++[c]);grind
theorem J6 (s:B8):(Ac N s).1.length<=s.length:=by grind[Ac,AIF]
def Ag2{set:B8}: ∀ {l:B8},decide ((((l.takeWhile λx=>!set.contains x).length:Nat):Int)<(l.length:Int))=l.any set.contains |[]=>by simp| c::l=>by have ih:=Ag2 (set:=set) (l:=l);rw[aJ,bT];cases h:set.contains c<;>simp_all
def AP0{p:B8} (h:(p.map Cn==List.map Cn [109,97,105,108,116,111,58])=true): ∀x,x∈p->x.toNat<128/\([63,35]:B8).contains x=false:=by
 intro x AQ;have hm:Cn x∈List.map Cn [109,97,105,108,116,111,58]:=by rw[<-bA.1 h];grind
 have key:=BH (f:=λn=>(!(List.map Cn [109,97,105,108,116,111,58]).contains (Cn (UInt8.ofNat n)))||(decide (n<128)&&!([63,35]:B8).contains (UInt8.ofNat n))) (g:=λ_=>true) (by kernel_rfl) x;simp_all
def AfN{s:B8} (h:((s.take 7).map Cn==List.map Cn [109,97,105,108,116,111,58])=true):s.any ([63,35]:B8).contains=(s.drop 7).any ([63,35]:B8).contains:=by
 conv=>lhs;rw[<-bH 7 s]
 rw[List.any_append];have:(s.take 7).any ([63,35]:B8).contains=false:=by rw[eL];intro x AQ;rw[(AP0 h x AQ).2];decide
 grind
def AcI (s:B8) (hb:s.length<=1000000) (hN:20000<=N):QE N s=some (Sa N s):=by
 unfold QE Sa;by_cases h1:s.length>4096;·rw[ah fC,ah h1];rfl
 rw[ae fC,ae h1];dsimp only[AA];by_cases h2:s.length<7;·rw[ah fC,ah h2,ah rfl];rfl
 have hl:=FP 64 (s.drop 7);rw[aB]at hl;rw[ae fC,ae h2,show sub s 0 7=some (s.take 7)from(BB s 0 7 fy fy).trans fA,aa,RD _ _ (by rw[bG];omega) fB,aa,show sub s 7 (s.length:Int)=some (s.drop 7)from Cf (n:=7) fy,aa,Ml 64 _ (by rw[aB];omega),aa];cases hp:(List.map Cn (s.take 7)==List.map Cn [109,97,105,108,116,111,58]);·simp only[bh,av];rfl
 simp only[bL,al,au];rw[ae (by decide: ¬(true=false)),Uk];cases hc:(s.drop 7).contains 64;·simp only[al,au,av,dV];rfl
 simp only[av,bF];rw [AUJ fB fB fB (by
  intro h8 c hcm;have hcs:c∈s:=(da _).subset hcm;rw[<-bH 7 s,aX]at hcs;rcases hcs with hcs|hcs;·exact(AP0 hp c hcs).1
  ·have hd:(s.drop 7).length<=1:=by rw[aB];omega
   match hq:s.drop 7,hd,hc,hcs with
   | [x],_,hc,hcs=>
    simp only[bb,dn,cA]at hc;have:c=x:=by simpa using hcs
    have h64:x=64:=(bA.1 hc).symm;rw[this,h64];decide) fy fy,aa,AfN hp];cases (s.drop 7).any ([63,35]:B8).contains;rotate_left;·rfl
 simp only[al,au,bh];rw[ae (by decide: ¬(true=false)),BS fy,AMm];unfold AUs;cases (AR 64 (s.drop 7)).1.all ARx;·rfl
 simp only[av];rw[ae (by decide: ¬(true=false)),P6 _ hN,aa];have hdl:=J6 (N:=N) (AR 64 (s.drop 7)).1;generalize Ac N (AR 64 (s.drop 7)).1=D at *;by_cases h5:(D.2 !=0)=true;·rw[ah h5,ah h5];rfl
 rw[ae h5,ae h5,Ak4 _ fy,aa];cases (Xq true D.1&&decide (D.1.length<=64));·rfl
 simp only[av];rw[ae (by decide: ¬(true=false)),ABM _ fy,aa];have hh:=Rh (AR 64 (s.drop 7)).2.1;generalize JW (AR 64 (s.drop 7)).2.1=H at *;by_cases h6:(H.2 !=0)=true;·rw[ah h6,ah h6];rfl
 rw[ae h6,ae h6,AVS _ fy,aa];cases ABj H.1<;>rfl
def AgS (s:B8) (hb:s.length<=1000000) (hN:20000<=N):Oo N s=some (Sa N s):=by
 unfold Oo Sa;by_cases h1:s.length>4096;·rw[ah fC,ah h1];rfl
 rw[ae fC,ae h1];dsimp only[AA];by_cases h2:s.length<7;·rw[ah fC,ah h2,ah rfl];rfl
 have hl:=FP 64 (s.drop 7);have hdl:(s.drop 7).length<=1000000:=by rw[aB];omega
 rw[aB]at hl;rw[ae fC,ae h2,show sub s 0 7=some (s.take 7)from(BB s 0 7 fy fy).trans fA,aa,RN _ _ (by rw[bG];omega) fB,aa,show sub s 7 (s.length:Int)=some (s.drop 7)from Cf (n:=7) fy,aa,Ai4 64 _ hdl,aa,XT,Uk];cases hp:(List.map Cn (s.take 7)==List.map Cn [109,97,105,108,116,111,58]);·simp only[bh,av];rfl
 simp only[bL,al,au];rw[ae (by decide: ¬(true=false))];cases hc:(s.drop 7).contains 64;·simp only[bh,av,dV];rfl
 simp only[bL,al,au,bF];rw[KD _ [63,35] fB fy,aa,Ag2];cases (s.drop 7).any ([63,35]:B8).contains;rotate_left;·rfl
 simp only[al,au,bh];obtain⟨s1,s2⟩:=XG hc hdl;have hlt:=Mf hc;have hcut:(AR 64 (s.drop 7)).1=(s.drop 7).takeWhile (· !=64):=by rw[Gt hc]
 have hpre:s.drop 7=[]++((AR 64 (s.drop 7)).1++(s.drop 7).dropWhile (· !=64)):=by rw[hcut,bc,aU]
 have hloop:=λk=>API (N:=N) (x8:=s.drop 7) k (AR 64 (s.drop 7)).1 _ [] hpre;rw[ae (by decide: ¬(true=false)),AJ fy,Int.sub_zero,a7,<-hcut];refine(hloop _).trans ?_;rw[<-hcut]at s1 s2;unfold AUs;cases (AR 64 (s.drop 7)).1.all ARx;·rfl
 simp only[av];rw[ae (by decide: ¬(true=false)),s1,aa,OH _ hN,aa];have hdl:=J6 (N:=N) (AR 64 (s.drop 7)).1;generalize Ac N (AR 64 (s.drop 7)).1=D at *;by_cases h5:(D.2 !=0)=true;·rw[ah h5,ah h5];rfl
 rw[ae h5,ae h5,AiO _ fy,aa];cases (Xq true D.1&&decide (D.1.length<=64));·rfl
 simp only[av];rw[ae (by decide: ¬(true=false)),s2,aa,ABB,aa];have hh:=Rh (AR 64 (s.drop 7)).2.1;generalize JW (AR 64 (s.drop 7)).2.1=H at *;by_cases h6:(H.2 !=0)=true;·rw[ah h6,ah h6];rfl
 rw[ae h6,ae h6,AVj _ fy,aa];cases ABj H.1<;>rfl
def ADt (m:ApiMail):B8:=(([109,97,105,108,116,111,58]++m.local_.flatMap (Lr Sc))++[64])++m.host
theorem QZ (keep:B8): ∀l:B8,(l.flatMap (Lr keep)).length<=3 * l.length |[]=>by simp| c::l=>by have:=QZ keep l;have:=ABa keep c;rw[aN,an,ag];omega
def AYE (m:ApiMail) (h:m.local_.length<=100000/\m.host.length<=100000):OY N m=some (ADt m):=by have:=QZ Sc m.local_;unfold OY ADt;rw[Vs _ _ fy,aa];change grd (AL (_+(m.local_.flatMap (Lr Sc)).length)) (grd _ (grd _ (some ((([109,97,105,108,116,111,58]++m.local_.flatMap (Lr Sc))++[64])++m.host))))=_;rw[BS (by simp only[ag,ap];omega),BS (by simp only[an,ag,ap];change _+(m.local_.flatMap (Lr Sc)).length+_<=_;omega),BS (by simp only[an,ag,ap];change _+(m.local_.flatMap (Lr Sc)).length+_+_<=_;omega)]
def AYK (m:ApiMail) (h:m.local_.length<=100000/\m.host.length<=100000):Nn N m=some (ADt m):=by have:=QZ Sc m.local_;unfold Nn ADt;rw[S9 _ _ fB fy,aa];change grd (AL (_+(m.local_.flatMap (Lr Sc)).length)) (grd _ (grd _ (some ((([109,97,105,108,116,111,58]++m.local_.flatMap (Lr Sc))++[64])++m.host))))=_;rw[BS (by simp only[ag,ap];omega),BS (by simp only[an,ag,ap];change _+(m.local_.flatMap (Lr Sc)).length+_<=_;omega),BS (by simp only[an,ag,ap];change _+(m.local_.flatMap (Lr Sc)).length+_+_<=_;omega)]
def YG (s:B8):(Sa N s).1.local_.length<=4096/\(Sa N s).1.host.length<=253:=by
 have hh:=Rh (AR 64 (s.drop 7)).2.1;have hn:=J6 (N:=N) (AR 64 (s.drop 7)).1;have hl:=FP 64 (s.drop 7);rw[aB]at hl;unfold Sa AUs;split;·simp[Lv]
 split;·simp[Lv]
 split;·simp[Lv]
 split;·simp[Lv]
 split;·simp[Lv]
 split;·simp[Lv]
 split;·simp[Lv]
 split;·simp[Lv]
 split;·simp[Lv]
 ·dsimp only;omega
end
end Go.VM
namespace Go.VM
section
variable{N:Nat}
def Sw (d:Bool) (b s:B8) (h:b.length+s.length<=1000000000):AV N ⟨d,b⟩ s=some ((s.length:Int),(),⟨true,b++s⟩):=by unfold AV E5;cases d<;>simp only[al,au,av,aa]<;>rw[AJ (OO fy)]
def Zv (r:B8) (x c:UInt8):B8:=if c=x then r else [c]
def AA8{r:B8}{x:UInt8}: ∀ {l:B8},l.contains x=false->l.flatMap (Zv r x)=l
 |[],_=>rfl
 | c::l,h=>by
  rw[bb,du]at h;have hc: ¬c=x:=by grind
  rw[aN,AA8 h.2,Zv,ae hc];rfl
theorem Akn{r:B8}{x:UInt8}{l:B8} (h:l.contains x=true):l.flatMap (Zv r x)=(AR x l).1++(r++(AR x l).2.1.flatMap (Zv r x)):=by
 induction l with
 |nil=>grind
 | cons c t ih=>
  by_cases hc:c=x;·subst hc;rw[Gt h,aN,Zv,ah rfl];simp
  ·have e1:(x==c)=false:=by grind
   have e2:(c !=x)=true:=by grind
   have ht:t.contains x=true:=by simp_all
   have hi:=ih ht;rw[Gt h,aJ,e2,bz,e2,aN,hi,Zv,ae hc];grind[Gt]
def AN4{l r:B8}{x:UInt8} (hb:l.length<=1000000) (hr:r.length<=3) (k18:Int×Bool×B8->Option B8): ∀(k:Nat) (t pre buf:B8) (d:Bool),l=pre++t->t.count x=k->buf.length+3 * t.length<=100000000->∃last pre' buf' d',l=pre'++last/\buf'++last=buf++t.flatMap (Zv r x)/\buf'.length<=100000000/\D6 N l [x] r k18 k pre.length d buf=k18 ((pre'.length:Int),d',buf')
 | 0,t,pre,buf,d,h,hk,ho=>by have h0:=Yu.1 hk;exact⟨t,pre,buf,d,h,by rw[AA8 h0],fy,by rw[D6]⟩
 | k+1,t,pre,buf,d,h,hk,ho=>by
  have hl:=a8 List.length h;simp only[an]at hl;have h1:t.contains x=true:=by grind
  have hlt:=Mf h1;have hcnt:t.count x=(AR x t).2.1.count x+1:=by grind[Gt,Yx]
  have hc:=FP x t;have he:t=(AR x t).1++(x::(AR x t).2.1):=by
   rw[Gt h1];have e:=aU (p:=(· !=x)) (l:=t);have hd:t.dropWhile (· !=x)=x::(t.dropWhile (· !=x)).drop 1:=by cases hq:t.dropWhile (· !=x)with |nil=>grind| cons y ys=>grind[List.head?_dropWhile_not]
   grind
  have hlen:(AR x t).1.length+1+(AR x t).2.1.length=t.length:=by have:=a8 List.length he;grind
  have hi:(Go.Lib.indexByte t x)=((AR x t).1.length:Int):=by rw[ML,ah h1,Gt h1]
  have hlp:l=(pre++(AR x t).1++[x])++(AR x t).2.1:=by grind
  obtain⟨last,pre',buf',d',q1,q2,q3,q4⟩:=AN4 (x:=x) hb hr k18 k (AR x t).2.1 (pre++(AR x t).1++[x]) (buf++(AR x t).1++r) true hlp fy (by grind);refine⟨last,pre',buf',d',q1,?_,q3,?_⟩;·grind[Akn]
  ·have hdl:l.drop pre.length=t:=by grind
   rw[D6,Cf fy,aa,hdl,ALQ,aa,hi];have w1:wr .i64 ((pre.length:Int)+((AR x t).1.length:Int))=((pre.length+(AR x t).1.length:Nat):Int):=by rw[AO fy];omega
   have w2:wr .i64 (((pre.length+(AR x t).1.length:Nat):Int)+(([x]:B8).length:Int))=((pre.length+(AR x t).1.length+1:Nat):Int):=by rw[AO fC];simp
   have hseg:(l.drop pre.length).take (pre.length+(AR x t).1.length-pre.length)=(AR x t).1:=by grind[Nat.add_sub_cancel_left,Gt,IB]
   rw[w1,w2,BB l _ _ fy fy,aa,hseg,Sw _ _ _ fy,aa];dsimp only;rw[Sw _ _ _ (by grind),aa];dsimp only;have e9:pre.length+(AR x t).1.length+1=(pre++(AR x t).1++[x]).length:=by grind
   grind
def Qk (l:B8) (x:UInt8) (r:B8) (hr:r.length=3) (hb:l.length<=1000000):strings_ReplaceAll N l [x] r=some (l.flatMap (Zv r x)):=by
 have hcl:l.count x<=l.length:=List.count_le_length;have hcnt:strings_Count N l [x]=some ((l.count x:Nat):Int):=by unfold strings_Count;rw[ae fA,ah (by rfl),show idx [x] 0=some x from rfl,aa,JF];rfl
 have hne: ¬(([x]:B8)==r)=true:=by intro h;have:=bA.1 h;grind
 unfold strings_ReplaceAll strings_Replace;dsimp only[AA];rw[ae hne,ae fB,hcnt,aa];by_cases h0:l.count x=0;·rw[ah (by grind),aa,AA8 (Yu.1 h0)]
 rw[ae (by grind),ah fB,ah rfl];have wg:wr .i64 ((l.length:Int)+(wr .i64 (((l.count x:Nat):Int) * (wr .i64 ((r.length:Int)-(([x]:B8).length:Int))))))=((l.length+l.count x * 2:Nat):Int):=by rw[hr,show wr .i64 (((3:Nat):Int)-(([x]:B8).length:Int))=2 from rfl,AO (n:=((l.count x:Nat):Int) * 2) fy,AO fy];simp
 rw[wg];unfold Eg;rw[AJ fy,aa,ah fA,AJ fy,Int.sub_zero,a7];obtain⟨last,pre',buf',d',q1,q2,q3,q4⟩:=AN4 (N:=N) (l:=l) (r:=r) (x:=x) hb fy (λj17:Int×Bool×B8=>(sub l j17.1 (l.length:Int)).bind λx41=>(AV N (StringsBuilder.mk j17.2.1 j17.2.2) x41).bind λy42=>(Bl N y42.2.2).bind λy44=>some (y44.1)) (l.count x) l [] [] true rfl rfl (by grind);have hl:=a8 List.length q1;simp only[an]at hl;rw[show(([]:B8).length:Int)=0 from rfl]at q4;rw[q4,Cf fy,aa,show l.drop pre'.length=last by grind,Sw _ _ _ (by grind),aa];grind[Bl]
end
end Go.VM
namespace Go.VM
section
variable{N:Nat}
def Q3 (name:B8) (xs:List ApiField):List B8:=(xs.filter λf=>f.name.map Cn==name.map Cn).map (·.value)
def hdB (h:ApiHead):Prop:=h.fields.length<=100/\ ∀f,f∈h.fields->f.name.length+f.value.length<=20000
def Qv (xs:List B8):Nat:=(xs.map List.length).sum
def Om (sep:B8) (xs:List B8):B8:=xs.flatMap λx=>sep++x
def ACd (sep:B8):List B8->B8 |[]=>[]|x::xs=>x++Om sep xs
def Abo (name:B8) (xs:List ApiField):(Q3 name xs).length<=xs.length:=by unfold Q3;rw[co];exact List.length_filter_le ..
def Ami{name:B8}{xs:List ApiField} (h: ∀f,f∈xs->f.name.length+f.value.length<=20000): ∀v,v∈Q3 name xs->v.length<=20000:=by intro v hv;obtain⟨f,hf,rfl⟩:=bu.1 hv;have:=h f (List.mem_filter.1 hf).1;omega
def Aiy{xs:List B8}{M:Nat} (h: ∀v,v∈xs->v.length<=M):Qv xs<=xs.length * M:=by induction xs with |nil=>simp[Qv]| cons x xs ih=>have h1:=h x (.head _);have h2:=ih λv hv=>h v (.tail _ hv);simp only[Qv,aE,dF,ag,bR]at *;omega
def Ur (sep:B8): ∀xs:List B8,(Om sep xs).length=xs.length * sep.length+Qv xs |[]=>by simp[Om,Qv]| x::xs=>by have:=Ur sep xs;unfold Om Qv at *;rw[aN,an,an,this,aE,dF,ag,bR];omega
def AY5 (sep:B8) (xs:List B8):(ACd sep xs).length<=xs.length * sep.length+Qv xs:=by cases xs with |nil=>simp[ACd]|cons x xs=>rw[ACd,an,Ur,ag,bR];simp only[Qv,aE,dF];omega
def Vq (name:B8) (hn:name.length<=1000000) (k:List B8->Option (List B8)): ∀(xs:List ApiField) (s:List B8),(∀f,f∈xs->f.name.length+f.value.length<=20000)->s.length+xs.length<=1000->GL N name k xs s=k (s++Q3 name xs)
 |[],s,_,_=>by rw[GL];simp[Q3]
 | f::xs,s,h,hl=>by
  have h1:=h f (.head _);rw[ag]at hl;rw[GL];dsimp only[AA];rw[RD _ _ fy fy,aa];have AQ: ∀g,g∈xs->g.name.length+g.value.length<=20000:=λg hg=>h g (.tail _ hg);unfold Q3;rw[d5];by_cases e:(f.name.map Cn==name.map Cn)=true;·rw[ah e,ah e,ApT fy fB,Vq name hn k xs _ AQ fC];simp[Q3]
  ·rw[ae e,ae e,Vq name hn k xs _ AQ fy];simp[Q3]
def Vn (name:B8) (hn:name.length<=1000000) (k:List B8->Option (List B8)): ∀(xs:List ApiField) (s:List B8),(∀f,f∈xs->f.name.length+f.value.length<=20000)->s.length+xs.length<=1000->FU N name k xs s=k (s++Q3 name xs)
 |[],s,_,_=>by rw[FU];simp[Q3]
 | f::xs,s,h,hl=>by
  have h1:=h f (.head _);rw[ag]at hl;rw[FU];dsimp only[AA];rw[RN _ _ fy fy,aa];have AQ: ∀g,g∈xs->g.name.length+g.value.length<=20000:=λg hg=>h g (.tail _ hg);unfold Q3;rw[d5];by_cases e:(f.name.map Cn==name.map Cn)=true;·rw[ah e,ah e,ApT fy fB,Vn name hn k xs _ AQ fC];simp[Q3]
  ·rw[ae e,ae e,Vn name hn k xs _ AQ fy];simp[Q3]
def AeN{h:ApiHead} (hh:hdB h) (name:B8) (hn:name.length<=1000000):Od N h name=some (Q3 name h.fields):=by obtain⟨h1,h2⟩:=hh;unfold Od;rw[AA,BS fy,Vq name hn _ _ _ h2 fC];rfl
def AgN{h:ApiHead} (hh:hdB h) (name:B8) (hn:name.length<=1000000):NY N h name=some (Q3 name h.fields):=by obtain⟨h1,h2⟩:=hh;unfold NY;rw[AA,BS fy,Vn name hn _ _ _ h2 fC];rfl
def pj1 (k:Int->Option B8): ∀(xs:List B8) (s:Nat),s+Qv xs<=1000000000->FX N k xs (s:Int)=k ((s+Qv xs:Nat):Int) |[],s,_=>by rw[FX];simp[Qv]| x::xs,s,h=>by simp only[Qv,aE,dF]at h;have hi:=pj1 k xs (s+x.length) (by simp only[Qv];omega);rw[FX];dsimp only[AA];rw[ae (by rw[AO fy];simp;omega),AO fy,show(s:Int)+(x.length:Int)=((s+x.length:Nat):Int) by omega,hi];simp only[Qv,aE,dF,dh]
def pj2 (sep:B8) (k:StringsBuilder->Option B8): ∀(xs:List B8) (b:B8),b.length+(Om sep xs).length<=1000000000->FT N sep k xs ⟨true,b⟩=k ⟨true,b++Om sep xs⟩ |[],b,_=>by rw[FT];simp[Om]| x::xs,b,h=>by simp only[Om,aN,an]at h;have hi:=pj2 sep k xs (b++sep++x) (by simp only[an,Om];omega);rw[FT,Sw _ _ _ fy,aa];dsimp only;rw[Sw _ _ _ fC,aa];dsimp only;rw[hi];simp[Om]
theorem AfH{sep:B8} (h1:1<=sep.length) (h2:sep.length<=100) (xs:List B8) (hl:xs.length<=10000) (hs:Qv xs<=100000000):strings_Join N xs sep=some (ACd sep xs):=by
 unfold strings_Join;match xs,hl,hs with
 |[],_,_=>rfl
 |[x],_,_=>simp[idx,ACd,Om]
 | x::y::r,hl,hs=>
  simp only[ag]at hl;have hm:sep.length * (r.length+1)<=1000000:=bI (eB h2 (show r.length+1<=10000 by omega)) fB;have ht:=Ur sep (y::r);have hsx:Qv (x::y::r)=x.length+Qv (y::r):=by simp[Qv]
  rw[ae fC,ae fC];dsimp only[AA];have e1:wr .i64 ((((x::y::r).length:Nat):Int)-1)=((r.length+1:Nat):Int):=by rw[AO (by simp only[ag];omega)];simp
  rw[ah fC,e1,AJ fy,ae,show wr .i64 ((sep.length:Int) * ((r.length+1:Nat):Int))=((sep.length * (r.length+1):Nat):Int) by rw[<-Int.natCast_mul,AO fy],AO fy,Int.zero_add,BS fC,pj1 _ _ _ fy]
  ·unfold Eg;rw[AJ ⟨by have:1<=sep.length * (r.length+1):=Nat.mul_pos h1 fy;omega,fy⟩,aa];have e2:idx (x::y::r) 0=some x:=rfl;have e3:sub (x::y::r) 1 (((x::y::r).length:Nat):Int)=some (y::r):=by rw[show(1:Int)=((1:Nat):Int)from rfl,BB _ _ _ fA fA];simp
   rw[e2,aa,Sw _ _ _ fC,aa,e3,aa,BS fC];dsimp only;rw[pj2 _ _ _ _ (by simp only[an,ap];rw[ht];simp only[ag];have:(r.length+1) * sep.length=sep.length * (r.length+1):=Nat.mul_comm ..;omega)];unfold Bl;simp[ACd]
  ·have h0:(0:Int)<((r.length+1:Nat):Int):=fy;have h9:(922337203685477:Int)<=Int.tdiv 9223372036854775807 ((r.length+1:Nat):Int):=by rw[bW fB,Int.le_ediv_iff_mul_le h0];omega
   have h10:Int.tdiv 9223372036854775807 ((r.length+1:Nat):Int)<=9223372036854775807:=by rw[bW fB];exact Int.ediv_le_self _ fB
   rw[AO ⟨fb fB h9,h10⟩,aq];exact λh=>absurd (fb h9 h) fy
def ADy (k:B8->Option (B8×Bool)): ∀(xs:List B8) (i:Nat) (s:B8),1<=i->s.length+(Om [44,32] xs).length<=1000000000->GX N k xs (i:Int) s=k (s++Om [44,32] xs) |[],i,s,_,_=>by rw[GX];simp[Om]| x::xs,i,s,hi,h=>by simp only[Om,aN,an]at h;have ih:=ADy k xs (i+1) (s++[44,32]++x) fy (by simp only[an,Om];omega);rw[GX];dsimp only[AA];rw[ah fC,BS fy,BS (by simp only[an];omega),show(i:Int)+1=((i+1:Nat):Int) by omega,ih];simp[Om]
def AI8{h:ApiHead} (hh:hdB h) (name:B8):(Q3 name h.fields).length<=100/\Qv (Q3 name h.fields)<=2000000:=by have h1:=Abo name h.fields;have h2:=Aiy (Ami (name:=name) hh.2);have h3:=bV 20000 (bI h1 hh.1);exact⟨bI h1 hh.1,fy⟩
def ASx (h:ApiHead) (name:B8):B8×Bool:=(ACd [44,32] (Q3 name h.fields),decide (((Q3 name h.fields).length:Int)>0))
def Ac6{h:ApiHead} (hh:hdB h) (name:B8):(ASx h name).1.length<=2000200:=by have h1:=AI8 hh name;have h2:=AY5 [44,32] (Q3 name h.fields);unfold ASx;simp only[ag,ap]at h2⊢;omega
def AjE{h:ApiHead} (hh:hdB h) (name:B8) (hn:name.length<=1000000):TI N h name=some (ASx h name):=by have h1:=AI8 hh name;unfold TI;rw[AeN hh name hn,aa,AfH fB fB _ fy fy,aa];rfl
def APZ{h:ApiHead} (hh:hdB h) (name:B8) (hn:name.length<=1000000):RV N h name=some (ASx h name):=by have h1:=AI8 hh name;unfold RV ASx;rw[AgN hh name hn,aa,AA,BS fy];generalize Q3 name h.fields=vs at *;cases vs with |nil=>rw[GX];rfl| cons x xs=>simp only[Qv,aE,dF,ag]at h1;rw[GX];dsimp only[AA];rw[ae fB,BS fC,show(0:Int)+1=((1:Nat):Int) by rfl,ADy _ _ _ _ fB (by rw[Ur];simp only[an,ap,ag,Qv];omega)];rfl
end
end Go.VM
namespace Go.VM
section
variable{N:Nat}{l:B8}
def Akh (n:Nat):Bool:=ABL n||(decide (48<=n)&&decide (n<=57))||([33,35,36,37,38,39,42,43,45,46,94,95,96,124,126]:List Nat).contains n
def AIY (c:UInt8):Bool:=Akh c.toNat
def Aby (c:UInt8):Bool:=decide (c.toNat=32)||decide (c.toNat=9)
def vlC (c:UInt8):Bool:=decide (c.toNat=9)||decide (32<=c.toNat)&&decide (c.toNat≠127)
def Apv (c:UInt8):MF N (AC c)=some (AIY c):=BH (f:=λn=>MF N (n:Int)) (g:=λn=>some (Akh n)) (by kernel_rfl) c
def Ap2 (c:UInt8):MC N (AC c)=some (AIY c):=BH (f:=λn=>MC N (n:Int)) (g:=λn=>some (Akh n)) (by kernel_rfl) c
def ApC (c:UInt8):GJ N (AC c)=some (Aby c):=BH (f:=λn=>GJ N (n:Int)) (g:=λn=>some (decide (n=32)||decide (n=9))) (by kernel_rfl) c
def AqC (c:UInt8):Ob N (AC c)=some (Aby c):=BH (f:=λn=>Ob N (n:Int)) (g:=λn=>some (decide (n=32)||decide (n=9))) (by kernel_rfl) c
def ApU (c:UInt8):KW N (AC c)=some (vlC c):=BH (f:=λn=>KW N (n:Int)) (g:=λn=>some (decide (n=9)||decide (32<=n)&&decide (n≠127))) (by kernel_rfl) c
def ApK (c:UInt8):Ka N (AC c)=some (vlC c):=BH (f:=λn=>Ka N (n:Int)) (g:=λn=>some (decide (n=9)||decide (32<=n)&&decide (n≠127))) (by kernel_rfl) c
def AH3{p:UInt8->Bool}: ∀t:B8,t.take (t.takeWhile p).length=t.takeWhile p |[]=>rfl|c::t=>by rw[aJ];cases p c<;>simp[AH3 t]
def scan{β:Type}{p:UInt8->Bool}{F:Nat->Int->Option β}{K:Int->Option β} (h0: ∀k i:Nat,l.drop i=[]->i<=l.length->F (k+1) (i:Int)=K (i:Int)) (h1: ∀(k i:Nat) (c:UInt8) (t:B8),l.drop i=c::t->i<l.length->F (k+1) (i:Int)=if p c=true then F k ((i+1:Nat):Int)else K (i:Int)):∀(t:B8) (i k:Nat),l.drop i=t->i<=l.length->t.length<k->F k (i:Int)=K ((i+(t.takeWhile p).length:Nat):Int)
 |[],i,k+1,ht,hi,_=>h0 k i ht hi
 | c::t,i,k+1,ht,hi,hk=>by
  have hl:=BM ht hi;simp only[ag]at hl hk;rw[h1 k i c t ht fy,aJ];cases p c;·simp
  ·rw[ah rfl,ah rfl,scan h0 h1 t (i+1) k (by rw[<-aF,ht];rfl) fy fy,ag];congr 2;omega
def AEa{p:UInt8->Bool}{i:Nat} (hi:i<=l.length):i+((l.drop i).takeWhile p).length<=l.length:=by have:=(da p (l:=l.drop i)).length_le;rw[aB]at this;omega
def Kj{i:Nat} (h:l.drop i=[]):l.length<=i:=by rw[d7]at h;exact h
def Mx{i:Nat}{c:UInt8}{t:B8} (h:l.drop i=c::t):i<l.length:=by
 rcases aS i l.length with h'|h';·exact h'
 ·rw[List.drop_eq_nil_of_le h']at h;cases h
def Rk{i:Nat} (hb:l.length<=10000000) (hi:i<=l.length):wr .i64 ((i:Int)+1)=((i+1:Nat):Int):=by rw[AO fy];rfl
def twT (l:B8) (i:Nat):B8:=(l.drop i).takeWhile AIY
def skA (l:B8) (i:Nat):Nat:=i+((l.drop i).takeWhile Aby).length
def AAi{i:Nat} (hi:i<=l.length):skA l i<=l.length:=AEa hi
def Wt{i:Nat} (hi:i<=l.length):i+(twT l i).length<=l.length:=AEa hi
def AVm (hb:l.length<=10000000) (hN:l.length<N){i:Nat} (hi:i<=l.length):Ec N ⟨l,i⟩=some (twT l i,!(twT l i==[]),⟨l,((i+(twT l i).length:Nat):Int)⟩):=by
 have hw:=Wt hi;unfold Ec Dn;rw[AA];rw[scan (l:=l) (p:=AIY) (F:=λk a=>Ae N _ k l a) (K:=λa=>(λj1:GrammarCursor=>(sub j1.s (i:Int) j1.at_).bind λx11=>some (x11,j1)) ⟨l,a⟩) ?_ ?_ (l.drop i) i N rfl hi (by rw[aB];omega)]
 ·change Option.bind (Option.bind (sub l (i:Int) ((i+(twT l i).length:Nat):Int)) _) _=_;rw[BB _ _ _ fy hw,aa,bf,show(l.drop i).take (twT l i).length=twT l i from ?_];·rfl
  ·exact AH3 _
 ·intro k j hj hl;have:=Kj hj;try dsimp only
  rw[Ae];unfold Au;dsimp only[Option.bind_some];rw[ah fC]
 ·intro k j c t hj hl;try dsimp only
  rw[Ae];unfold Au;dsimp only[Option.bind_some];rw[ae fC,head_drop hj,aa,Apv,aa,Rk hb fy]
def UZ (hb:l.length<=10000000) (hN:l.length<N){i:Nat} (hi:i<=l.length):Ef N ⟨l,i⟩=some ⟨l,(skA l i:Nat)⟩:=by
 have hw:=AAi hi;unfold Ef CK;rw[AA];rw[scan (l:=l) (p:=Aby) (F:=λk a=>AY N _ k l a) (K:=λa=>(λj1:GrammarCursor=>(sub j1.s (i:Int) j1.at_).bind λx11=>some (x11,j1)) ⟨l,a⟩) ?_ ?_ (l.drop i) i N rfl hi (by rw[aB];omega)];·change Option.bind (Option.bind (sub l (i:Int) ((skA l i:Nat):Int)) _) _=_;rw[BB _ _ _ (by unfold skA;omega) hw];rfl
 ·intro k j hj hl;have:=Kj hj;try dsimp only
  rw[AY];unfold Au;dsimp only[Option.bind_some];rw[ah fC]
 ·intro k j c t hj hl;try dsimp only
  rw[AY];unfold Au;dsimp only[Option.bind_some];rw[ae fC,head_drop hj,aa,ApC,aa,Rk hb fy]
def AB0 (hb:l.length<=10000000) (hN:l.length<N){i:Nat} (hi:i<=l.length):Mv N l i=some ((skA l i:Nat):Int):=by
 unfold Mv;rw[AA,scan (l:=l) (p:=Aby) (F:=λk a=>HV N l _ k a) (K:=λa=>some a) ?_ ?_ (l.drop i) i N rfl hi (by rw[aB];omega)];·rfl
 ·intro k j hj hl;have:=Kj hj;try dsimp only
  rw[HV];dsimp only[AA];rw[ae fC,ae fB]
 ·intro k j c t hj hl;try dsimp only
  rw[HV];dsimp only[AA];rw[ah fC,head_drop hj,aa,AqC,aa,Rk hb fy]
def AAE (hb:l.length<=10000000) (hN:l.length<N){i:Nat} (hi:i<=l.length):JV N l i=some (if twT l i=[]then([],0,false)else(twT l i,((i+(twT l i).length:Nat):Int),true)):=by
 have hw:=Wt hi;unfold JV;rw[AA,scan (l:=l) (p:=AIY) (F:=λk a=>GV N l _ k a) (K:=λj1=>if(decide (j1<=(i:Int)))=true then some ([],0,false)else (sub l (i:Int) j1).bind λx13=>some (x13,j1,true)) ?_ ?_ (l.drop i) i N rfl hi (by rw[aB];omega)]
 ·change (if(decide (((i+(twT l i).length:Nat):Int)<=(i:Int)))=true then _ else _)=_;by_cases h:twT l i=[];·rw[ah (by rw[h];simp),ah h]
  ·have:0<(twT l i).length:=bB.2 h;rw[ae fC,ae h];change Option.bind (sub l (i:Int) ((i+(twT l i).length:Nat):Int)) _=_;rw[BB _ _ _ fy hw,aa,bf];congr 2;exact AH3 _
 ·intro k j hj hl;have:=Kj hj;try dsimp only
  rw[GV];dsimp only[AA];rw[ae fC,ae fB]
 ·intro k j c t hj hl;try dsimp only
  rw[GV];dsimp only[AA];rw[ah fC,head_drop hj,aa,Ap2,aa,Rk hb fy]
def atI (l:B8) (i:Nat) (n:Int):Bool:=match l.drop i with|c::_=>AC c==n|[]=>false
def AcC{i:Nat}{n:Int} (h:atI l i n=true):i<l.length:=by unfold atI at h;cases hd:l.drop i with |nil=>rw[hd]at h;cases h|cons c t=>exact Mx hd
def XV (hb:l.length<=10000000){i:Nat} (hi:i<=l.length) (n:Int):EM N ⟨l,i⟩ n=some (atI l i n,⟨l,((i+(atI l i n).toNat:Nat):Int)⟩):=by
 unfold EM Au;dsimp only[AA,Option.bind_some];cases hd:l.drop i with
 | nil=>have:=Kj hd;rw[ah fC,ah rfl];simp[atI,hd]
 | cons c t=>
  have:=Mx hd;rw[ae fC,head_drop hd,aa];have e:atI l i n=(AC c==n):=by unfold atI;rw[hd]
  cases h:(AC c==n);·rw[e,h,show(AC c !=n)=true by simp[bne,h],ah rfl];rfl
  ·rw[e,h,show(AC c !=n)=false by simp[bne,h],ae fB,Rk hb hi];rfl
def Al5 (c k:UInt8):(AC c==AC k)=decide (c=k):=by
 rw[dJ,bA,aq];constructor;·intro h;have:=a8 Gu h;rwa[JF,JF]at this
 ·rintro rfl;rfl
def AmN (a:B8):List.map Gu (List.map AC a)=a:=by induction a with |nil=>rfl|cons x a ih=>rw[aE,aE,JF,ih]
def VB (l:B8) (i:Nat) (P:Option (B8×Bool×GrammarCursor)) (R:Option (B8×Int×Bool)):Prop:=(∃(out:B8) (j:Nat),i<j/\j<=l.length/\out.length<=l.length/\P=some (out,true,⟨l,(j:Int)⟩)/\R=some (out,(j:Int),true))\/(∃(o:B8) (j:Nat),i<=j/\j<=l.length/\o.length<=l.length/\P=some (o,false,⟨l,(j:Int)⟩)/\R=some ([],0,false))
def AXl (hb:l.length<=10000000){y:Bool×GrammarCursor} (hy:y.1=true) (i0:Nat): ∀(n i k k':Nat) (a:B8),l.length-i<n->i0<i->i<=l.length->l.length-i<k->l.length-i<k'->a.length<=i->VB l i0 (Ca N (λj1=>some ([],false,j1)) y k (a.map AC) l (i:Int)) (Gm N l (λ_=>some ([],0,false)) k' a (i:Int)):=by
 intro n;induction n with
 |zero=>intro i k k' a h;omega
 | succ n ih=>
  intro i k k' a hn h0 hi hk hk' ha;obtain⟨k,rfl⟩: ∃m,k=m+1:=⟨k-1,fy⟩;obtain⟨k',rfl⟩: ∃m,k'=m+1:=⟨k'-1,fy⟩;rw[Ca,Gm];unfold Au;dsimp only[AA,Option.bind_some];rw[ah hy];cases hd:l.drop i with
  | nil=>have:=Kj hd;rw[ae fC,ae fC];exact .inr ⟨[],i,fy,hi,fA,rfl,rfl⟩
  | cons c t=>
   have hlt:=Mx hd;have q1:decide ((i:Int)<(l.length:Int))=true:=by simp;omega
   have q2:(!decide ((i:Int)>=(l.length:Int)))=true:=by simp;omega
   rw[ah q2,ah q1,head_drop hd,aa,aa,show((34:Int))=AC 34 from rfl,show((92:Int))=AC 92 from rfl,Al5,Al5];by_cases h34:c=34;·rw[ah (aA h34),ah (aA h34),AmN,Rk hb hi];exact .inl ⟨a,i+1,fy,fy,fy,rfl,rfl⟩
   ·have q3: ¬decide (c=34)=true:=by simpa using h34
    rw[ae q3,ae q3];by_cases h92:c=92
    ·rw [ah (aA h92),ah (aA h92),Rk hb hi];cases hd2:l.drop (i+1)with
     | nil=>
      have:=Kj hd2;have q4:decide (((i+1:Nat):Int)>=(l.length:Int))=true:=by simp;omega
      have q5:(((i+1:Nat):Int)==(l.length:Int))=true:=by simp;omega
      rw[ah q4,ah q5];exact .inr ⟨[],i+1,fy,fy,fA,rfl,rfl⟩
     | cons d t2=>
      have hlt2:=Mx hd2;have q4: ¬decide (((i+1:Nat):Int)>=(l.length:Int))=true:=by simp;omega
      have q5: ¬(((i+1:Nat):Int)==(l.length:Int))=true:=by simp;omega
      rw[ae q4,ae q5,head_drop hd2,aa,aa,ApU,ApK,aa,aa];cases vlC d;·rw[ae fB,ae fB];exact .inr ⟨[],i+1,fy,fy,fA,rfl,rfl⟩
      ·rw[ah rfl,ah rfl,AJ (by unfold CW;simp;omega),BS fC,Rk hb fy,aE,bM,JF,show List.map AC a++[AC d]=(a++[d]).map AC by simp];exact ih (i+1+1) k k' (a++[d]) fy fy fy fy fy fC
    ·have q6: ¬decide (c=92)=true:=by simpa using h92
     rw[ae q6,ae q6,ApU,ApK,aa,aa];cases vlC c;·rw[ae fB,ae fB];exact .inr ⟨[],i,fy,fy,fA,rfl,rfl⟩
     ·rw[ah rfl,ah rfl,AJ (by unfold CW;simp;omega),BS fC,Rk hb fy,aE,bM,JF,show List.map AC a++[AC c]=(a++[c]).map AC by simp];exact ih (i+1) k k' (a++[c]) fy fy fy fy fy fC
def AQK (hb:l.length<=10000000) (hN:l.length+10<N){i:Nat} (hi:i<=l.length):VB l i (Fw N ⟨l,i⟩) (Oq N l i):=by
 unfold Fw Oq Au;dsimp only[AA,Option.bind_some];have tk:VB l i ((Ec N ⟨l,i⟩).bind λy10=>some (y10.1,y10.2.1,y10.2.2)) ((JV N l i).bind λy8=>some (y8.1,y8.2.1,y8.2.2)):=by
  have hw:=Wt hi;rw[AVm hb fy hi,AAE hb fy hi,aa,aa];by_cases h:twT l i=[];·rw[ah h,h];exact .inr ⟨[],i,fy,hi,fA,rfl,rfl⟩
  ·have:0<(twT l i).length:=bB.2 h;rw[ae h,show(!(twT l i==[]))=true by simpa using h];exact .inl ⟨twT l i,i+(twT l i).length,fy,hw,fy,rfl,rfl⟩
 cases hd:l.drop i with
 | nil=>
  have:=Kj hd;have q1:decide ((i:Int)>=(l.length:Int))=true:=by simp;omega
  have q2: ¬decide ((i:Int)<(l.length:Int))=true:=by simp;omega
  rw[ah q1,ae q2];exact tk
 | cons c t=>
  have hlt:=Mx hd;have q1: ¬decide ((i:Int)>=(l.length:Int))=true:=by simp;omega
  have q2:decide ((i:Int)<(l.length:Int))=true:=by simp;omega
  rw[ae q1,ah q2,head_drop hd,aa,aa];cases h34:(AC c==34);·rw[ae fB,ae fB];exact tk
  ·rw[ah rfl,ah rfl];unfold I7 PW;dsimp only[AA];have e:atI l i 34=true:=by unfold atI;rw[hd];exact h34
   rw[XV hb hi,e,ae q1,head_drop hd,aa,aa,show(AC c !=34)=false by simp[bne,h34],ae fB,Rk hb hi];have:=AXl (N:=N) hb (y:=(true,⟨l,((i+1:Nat):Int)⟩)) rfl i (l.length+1) (i+1) N N [] fy fy fy fy fy fA;rcases this with⟨out,j,h1,h2,h3,h4,h5⟩|⟨o,j,h1,h2,h3,h4,h5⟩;·exact .inl ⟨out,j,h1,h2,h3,by simp only[bM]at h4;simp only[dK];rw[h4];rfl,by rw[h5];rfl⟩
   ·exact .inr ⟨o,j,h1,h2,h3,by simp only[bM]at h4;simp only[dK];rw[h4];rfl,by rw[h5];rfl⟩
end
end Go.VM
