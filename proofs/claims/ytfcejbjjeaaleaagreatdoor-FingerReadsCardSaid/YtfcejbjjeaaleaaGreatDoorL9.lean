import Derived.Test.YtfcejbjjeaaleaaGreatDoorL8
set_option linter.defProp false
set_option linter.unusedVariables false
set_option linter.unusedSimpArgs false
namespace Go.VM
section
variable{N:Nat}
def mB (c:UInt8):Bool:=DC c||(!decide (AC c<97)&&!decide (AC c>122))
def ACp (k:Unit->Option Bool): ∀l:B8,Hy N k l=if l.all mB=true then k ()else some false |[]=>by grind[Hy]| c::l=>by rw[Hy];dsimp only[AA];rw[RV,aa,ACp k l,aK];unfold mB;cases DC c<;>cases decide (AC c<97)<;>cases decide (AC c>122)<;>simp
def ACD (k:Unit->Option Bool): ∀l:B8,Fj N k l=if l.all mB=true then k ()else some false |[]=>by grind[Fj]| c::l=>by rw[Fj];dsimp only[AA];rw[O1,aa,ACD k l,aK];unfold mB;cases DC c<;>cases decide (AC c<97)<;>cases decide (AC c>122)<;>simp
def ACF (l:B8):Bool:=l.all mB&&!(l==[])
def Ad6 (l:B8) (hb:l.length<=1000000):QY N l=some (ACF l):=by unfold QY ACF;rw[AA,BV fG,ACp];cases l.all mB<;>simp
def Ahi (l:B8) (hb:l.length<=1000000):OB N l=some (ACF l):=by unfold OB ACF;rw[AA,BV fG,ACD];cases l.all mB<;>simp
def AmN (l:B8) (c:UInt8) (hb:l.length<=1000000):strings_HasSuffix N l [c]=some (l.getLast?==some c):=by
 unfold strings_HasSuffix FD;rcases cK l with rfl|⟨l,x,rfl⟩;·rfl
 ·rw[fq]at *;have hb':l.length<=1000000:=by grind
  rw[ah (by grind),show wr .i64 (((l++[x]).length:Int)-(([c]:B8).length:Int))=((l.length:Nat):Int) by grind[AO,List.length_append,List.length_cons,List.length_nil],Cx fH,aa,aa,d4];simp
def Oz:ApiDID:=⟨[],[]⟩
def AH4 (l:B8):Bool:=l==[]||l.getLast?==some 58
def NR (s:B8):ApiDID×Int:=if s.length>4096 then(Oz,5) else if preB [100,105,100,58] s=false then(Oz,60) else if(Ac 58 (s.drop 4)).2.2=false then(Oz,6) else if ACF (Ac 58 (s.drop 4)).1=false then(Oz,100) else if((Q4 (Ac 58 (s.drop 4)).2.1).2 !=0)=true then(Oz,(Q4 (Ac 58 (s.drop 4)).2.1).2) else if AH4 (Q4 (Ac 58 (s.drop 4)).2.1).1=true then(Oz,3) else(⟨(Ac 58 (s.drop 4)).1,(Q4 (Ac 58 (s.drop 4)).2.1).1⟩,0)
def AlN (u:Bool×UInt8):(guC u).length<=3:=by grind[OA,guC]
def AV8: ∀(k:Nat) (t:B8) (us:List (Bool×UInt8)),GG k t=some us->us.length<=t.length
 |0,_,_,h=>by cases h
 |k+1,[],us,h=>by grind[GG]
 | k+1,c::t,us,h=>by
  rw[GG]at h;split at h;·cases he:NU t with |none=>grind| some x=>rw[he]at h;simp only[br]at h;obtain⟨vs,hv,rfl⟩:=h;have:=AV8 k _ vs hv;grind
  ·simp only[br]at h;obtain⟨vs,hv,rfl⟩:=h;have:=AV8 k _ vs hv;grind
def Si{α:Type}{f:α->B8}{n:Nat} (h: ∀x,(f x).length<=n): ∀l:List α,(l.flatMap f).length<=n * l.length |[]=>by simp| x::l=>by have:=Si h l;have:=h x;rw[aQ,an,ag,Nat.mul_succ];omega
theorem ARv (s:B8):(Q4 s).1.length<=3 * s.length:=by
 unfold Q4;cases hu:unS s with
 |none=>simp
 | some us=>
  simp only;split;·have h1:=Si AlN us;have h2:=AV8 _ s us hu;grind
  ·simp
def AXb (s:B8) (hb:s.length<=1000000) (hN:20000<=N):MM N s=some (NR s):=by
 unfold MM NR;by_cases h1:s.length>4096;·rw[ah (by grind),ah h1];rfl
 rw[ae (by grind),ae h1,AXo,aa];cases hp:preB [100,105,100,58] s;·rfl
 have hl:=Ib 58 (s.drop 4);rw[aB]at hl;simp only[av,ag,ap,ci,Nat.reduceAdd];rw[ae (by decide: ¬(true=false)),Oo 58 _ (by grind),aa];cases hc:(Ac 58 (s.drop 4)).2.2;·rfl
 simp only[av];rw[ae (by decide: ¬(true=false)),Ad6 _ fG,aa];cases hm:ACF (Ac 58 (s.drop 4)).1;·rfl
 simp only[av];have hcl:=ARv (Ac 58 (s.drop 4)).2.1;obtain⟨v,e1,e2⟩:=Ann (N:=N) (Ac 58 (s.drop 4)).2.1 fG hN;rw[ae (by decide: ¬(true=false)),e1,aa];by_cases h5:((Q4 (Ac 58 (s.drop 4)).2.1).2 !=0)=true;·rw[ah h5,ah h5];rfl
 rw[ae h5,ae h5];have hv:=e2 (by grind);subst hv;dsimp only[AA];rw[AmN _ _ fG,aa];unfold AH4;cases ((Q4 (Ac 58 (s.drop 4)).2.1).1==[])<;>cases ((Q4 (Ac 58 (s.drop 4)).2.1).1.getLast?==some 58)<;>rfl
def AGO{l:B8} (hb:l.length<=1000000) (k:B8->Option B8): ∀(t pre out:B8),l=pre++t->out.length<=3 * pre.length->ET N l k t (pre.length:Int) out=k (out++t.flatMap JI)
 |[],pre,out,h,_=>by grind[ET]
 | c::t,pre,out,h,ho=>by
  have hl:=bg List.length h;simp only[an,ag]at hl;have hsub:sub l (pre.length:Int) ((pre.length:Int)+1)=some [c]:=by rw[show(pre.length:Int)+1=((pre.length+1:Nat):Int) by omega,BA l _ _ fG fG,h,d4];simp
  have hel:=OA c;have nxt: ∀x:B8,x=JI c->ET N l k t ((pre.length:Int)+1) (out++x)=k (out++(c::t).flatMap JI):=λx AR=>by have:=AGO hb k t (pre++[c]) (out++x) (by grind) (by grind);grind
  rw[ET];dsimp only[AA];rw[AFD,aa,hsub,aa,T9,aa];cases hp:F3 c;·rw[ae fI,BV (by grind[NH])];grind[JI]
  ·rw[ah rfl,BV (by grind)];grind[JI]
def AQc (l:B8) (hb:l.length<=1000000):LV N l=some (l.flatMap JI):=by unfold LV;rw[AA,BV fG];have:=AGO (N:=N) hb (λj1=>some j1) l [] [] rfl fH;grind
def rd1 (hN:20000<=N) (k:Unit->Option (ApiDID×Int)): ∀ps:List B8,Ee N k ps=if ps.all (V3 N)=true then k ()else some (Oz,2)
 |[]=>by grind[Ee]
 | p::ps=>by
  rw[Ee,Ot _ hN,aa,rd1 hN k ps,aK];unfold V3;cases h:((Af N p).2==0);·rw[ah (by grind)];rfl
  simp_all
theorem rd3 (k:Unit->Option (ApiDID×Int)): ∀l:B8,Eb N k l=if l.all YM=true then k ()else some (Oz,1) |[]=>by grind[Eb]| c::l=>by rw[Eb];dsimp only[AA];rw[AFD,aa,rd3 k l,aK,bne,Ro];unfold YM;have e:(c==37)=decide (c=37):=rfl;rw[e];cases F3 c<;>cases decide (c=37)<;>simp[Oz]
def AeN (p:B8):(Ny N p).length<=3 * p.length:=by have h1:=Si (λx=>(OA x).1) (Af N p).1;grind[KF,Ny]
def rd2 (hN:20000<=N) (k:B8->Option (ApiDID×Int)): ∀(ps:List B8) (i:Int) (acc:B8),0<=i->(∀p,p∈ps->p.length<=20000)->acc.length+60001 * ps.length<=1000000000->DK N k ps i acc=if(ps.all λp=>p.all YM)=true then k (acc++jn N (decide (i=0)) ps)else some (Oz,1)
 |[],i,acc,_,_,_=>by rw[DK];cases decide (i=0)<;>simp[jn]
 | p::ps,i,acc,hi,hp,ha=>by
  have hpl:=hp p fH;have hpt:=AeN (N:=N) p;simp only[ag,Nat.mul_succ]at ha;have ih:=λacc' h'=>rd2 hN k ps (i+1) acc' fG (λq hq=>hp q (by grind)) h';have hd1:decide (i+1=0)=false:=aO fG;rw[hd1]at ih;rw[DK];dsimp only[AA];rw[BV fG,rd3,Ot _ hN,aa,aK];cases h1:p.all YM;·rfl
  rw[ah rfl,bJ];have hdl:=KF (N:=N) p;rw[AQc _ fG,aa];change (if decide (i>0)=true then grd _ (grd (AL ((acc++[58]).length+(Ny N p).length)) (DK N k ps (i+1) (acc++[58]++Ny N p)))else grd (AL (acc.length+(Ny N p).length)) (DK N k ps (i+1) (acc++Ny N p)))=_;by_cases h0:i=0;·rw[ae (by grind),aA h0,BV fG,ih _ (by grind)];grind[jn]
  ·rw[ah (by grind),aO h0,BV (by grind),BV (by grind),ih _ (by grind)];grind[jn]
def Afo (b:UInt8):(JI b).getLast?≠some 58:=by have key:=BJ (f:=λn=>decide ((JI (UInt8.ofNat n)).getLast?≠some 58)) (g:=λ_=>true) (by kernel_rfl) b;simp_all
def AFE (p:B8):(Ny N p).getLast?≠some 58:=by
 unfold Ny;generalize (Af N p).1=d;rcases cK d with rfl|⟨d,x,rfl⟩;·simp
 ·rw[fq];have h1:=(OA x).2;rw[c8,List.flatMap_singleton,bS];cases h:(JI x).getLast? with |none=>rw[List.getLast?_eq_none_iff]at h;rw[h]at h1;simp at h1|some y=>simp only[cv];rw[<-h];exact Afo x
def AUk: ∀(ps:List B8) (f:Bool) (hne:ps≠ []),AH4 (jn N f ps)=(Ny N (ps.getLast hne)==[])
 |[],_,h=>absurd rfl h
 | [p],true,_=>by have:=AFE (N:=N) p;simp_all[jn,AH4,Ny]
 | [p],false,_=>by have:=AFE (N:=N) p;simp only[jn,bQ,List.getLast_singleton,AH4];grind
 | p::q::ps,f,h=>by
  have ih:=AUk (q::ps) false fH;rw[List.getLast_cons fH,<-ih];obtain⟨z,zs,hz⟩: ∃z zs,jn N false (q::ps)=z::zs:=⟨58,Ny N q++jn N false ps,rfl⟩;cases f;·rw[show jn N false (p::q::ps)=58::(Ny N p++jn N false (q::ps))from rfl,hz];unfold AH4;grind
  ·rw[show jn N true (p::q::ps)=Ny N p++jn N false (q::ps)from rfl,hz];unfold AH4;grind
end
end Go.VM
namespace Go.VM
section
variable{N:Nat}
def AU3 (c:UInt8): ∀(n:Nat) (l:B8),l.length<=n->((AU c l).map List.length).sum+(AU c l).length=l.length+1:=by intro n;induction n with | zero=>intro l hl;have:l=[]:=bG fG;subst this;rfl| succ n ih=>intro l hl;cases l with |nil=>rfl| cons x t=>grind[AU,absurd]
def AFK{l:List B8} (hne:l≠ []) (hb:l.length<=1000000):idx l (wr .i64 ((l.length:Int)-1))=some (l.getLast hne):=by have:0<l.length:=bD.2 hne;rw[show wr .i64 ((l.length:Int)-1)=((l.length-1:Nat):Int) by rw[AO fG];omega,Ji,<-dI,ck hne]
def ASD{p:B8} (hb:p.length<=16000) (hN:20000<=N) (hk:V3 N p=true):(Ny N p==[])=(p==[]):=by
 unfold V3 at hk;rw[V6 hb hN]at hk;cases hu:unS p with
 |none=>grind
 | some u=>
  have hn:=Apz hu;unfold Ny;rw[V6 hb hN,hu];cases u with
  |nil=>simp_all
  | cons v u=>
   have hp:p≠ []:=λe=>by grind
   have h1:=(OA v.2).2;cases hq:JI v.2 with |nil=>grind| cons y ys=>simp_all
def AXd (s:B8) (hb:s.length<=1000000) (hN:20000<=N):KU N s=some (NR s):=by
 unfold KU NR;by_cases h1:s.length>4096;·rw[ah (by grind),ah h1];rfl
 rw[ae (by grind),ae h1,VE,aa];cases hp:preB [100,105,100,58] s;·rfl
 have h4:=QB hp;simp only[ag,ap]at h4;have hl:=Ib 58 (s.drop 4);have hdl:(s.drop 4).length<=1000000:=by grind
 rw[aB]at hl;simp only[av];rw[ae (by decide: ¬(true=false)),show sub s 4 (s.length:Int)=some (s.drop 4)from Cx (n:=4) fG,aa,Alj 58 _ hdl,aa,Xq,Vb];cases hc:(s.drop 4).contains 58;·rfl
 obtain⟨s1,s2⟩:=YF hc hdl;simp only[aU,aj,aq];rw[ae (by decide: ¬(true=false)),s1,aa,Ahi _ fG,aa];cases hm:ACF (Ac 58 (s.drop 4)).1;·rfl
 simp only[av];rw[ae (by decide: ¬(true=false)),s2,aa,show(58:Int)=AC 58 from rfl,QL _ 58 fG,aa];generalize (Ac 58 (s.drop 4)).1=m at *;have hd:(Ac 58 (s.drop 4)).2.1.length<=4096:=fG;generalize (Ac 58 (s.drop 4)).2.1=d at *;have hsl:=Jw 58 d;have hsp:=I4 58 d;have hne:=Ew 58 d;obtain⟨r1,r2⟩:=AJu (N:=N) hN d.length d (aw _) fG;dsimp only[AA];rw[BV fG,rd1 hN];unfold Q4;cases hu:unS d with
 | none=>grind
 | some us=>
  obtain⟨q1,q2,q3⟩:=r2 us hu;simp only;rw[q1,ah rfl,BV fG,rd2 hN _ _ 0 [] fG (λp h=>by grind) (by grind),q2];cases hk:us.all Vr;·rfl
  simp only[av];rw[ae fI,aT];simp only[bl];rw[q3 hk,AFK hne fG,aa];have hlast:V3 N ((AU 58 d).getLast hne)=true:=aS.1 q1 _ (eW hne);have hll:((AU 58 d).getLast hne).length<=16000:=by grind
  have he:=AUk (N:=N) (AU 58 d) true hne;rw[q3 hk,ASD hll hN hlast]at he;rw[he];cases ((AU 58 d).getLast hne==[])<;>rfl
def MI (d:ApiDID):B8:=(([100,105,100,58]++d.method)++[58])++d.iD
def ACf (d:ApiDID) (h:d.method.length<=1000000/\d.iD.length<=1000000):GK N d=some (MI d):=by grind[GK,MI,BV]
def ACJ (d:ApiDID) (h:d.method.length<=1000000/\d.iD.length<=1000000):FX N d=some (MI d):=by grind[FX,MI,BV]
def AP9 (s:B8):(NR s).1.method.length<=4096/\(NR s).1.iD.length<=12288:=by grind[Ib,ARv,Ac,List.length_drop,NR,Oz]
end
end Go.VM
namespace Go.VM
section
variable{N:Nat}
end
end Go.VM
namespace Go.VM
section
variable{N:Nat}
def AX0 (a:Int) (k2:Unit->Option Bool) (h:k2 ()=some false): ∀l:B8,Gy N a k2 l=some (l.any λc=>AC c==a) |[]=>by grind[Gy]| x::l=>by rw[Gy,AX0 a k2 h l,bK];cases AC x==a<;>rfl
theorem AGA (a:Int) (l:B8) (h:l.length<=1000):FU N a l=some (l.any λc=>AC c==a):=by unfold FU;rw[AA,BV fG];exact AX0 a _ rfl l
def digit_eq (a:Int):Bu N a=some (decide (a>=48)&&decide (a<=57)):=by unfold Bu;by_cases h:a>=48<;>simp[h]
def AsY (c:UInt8):Bool:=decide (AC c>=48)&&decide (AC c<=57)
def runN (l:B8):Nat:=(l.takeWhile AsY).length
theorem Ams (l:B8):runN l<=l.length:=(dp _).length_le
def ASX (l:B8) (k2:Int->Option Int) (hb:l.length<=1000000): ∀(suf pre:B8) (k:Nat),l=pre++suf->suf.length<k->Ff N l k2 k (pre.length:Int)=k2 ((pre.length+runN suf:Nat):Int)
 | [],pre,k+1,h,_=>by
  rw[Ff,AA];have:decide ((pre.length:Int)<(l.length:Int))=false:=by grind
  simp_all[runN]
 | x::suf,pre,k+1,h,hk=>by
  simp only[ag]at hk;have hl:pre.length<l.length:=by grind
  rw[Ff,AA,AiS h,ah rfl,ADL h,aa,digit_eq,aa];cases hd:AsY x;·have:(decide (AC x>=48)&&decide (AC x<=57))=false:=hd;rw[this];simp[runN,hd]
  ·have:(decide (AC x>=48)&&decide (AC x<=57))=true:=hd;rw[this];simp only[av];rw[AO fG,SF pre x,ASX l k2 hb suf (pre++[x]) k (by grind) fG];simp only[runN,aN,hd,av,ag,an,ap];grind
def Aqk (l:B8) (hN:l.length<N) (hb:l.length<=1000000):KE N l=some (runN l:Int):=by unfold KE;rw[AA];have:=ASX (N:=N) l (λj=>some j) hb l [] N rfl hN;grind
def AHu (l:B8) (i:Int) (h:0<=i):Ok (Kz N l i) (λx=>x=l.drop i.toNat):=by
 unfold Kz;refine Ok.ite (λhc=>Ok.ret ?_) (λhc=>Ok.bind (Ok.sub h (by grind) (bu _)) λx hx=>Ok.ret ?_);·simp_all
 grind[List.take_of_length_le]
def ATu (l:B8) (hN:l.length<N) (hb:l.length<=1000000):Ok (KE N l) (λn=>n=(runN l:Int)/\0<=n/\n<=l.length):=by refine⟨_,Aqk l hN hb,rfl,fG,?_⟩;grind[Ams]
theorem AB9 (l:B8) (hN:l.length<N) (hb:l.length<=1000000):Ok (Iw N l) (λn=>0<=n/\n<=l.length):=by
 unfold Iw;have dl: ∀i:Nat,(l.drop i).length<=l.length:=λi=>by simp
 refine Ok.meet (λj1:Int=>0<=j1/\j1<=1/\j1<=l.length) (λj1 h1=>?_) (λk2 h2=>?_)
 ·refine Ok.meet (λj10:Bool=>j10=false->j1<l.length) (λj10 h10=>?_) (λk11 h11=>?_)
  ·refine Ok.ite (λ_=>Ok.ret fG) (λhf=>?_);have hj:=h10 hf;refine Ok.meet (λj17:Int=>0<=j17/\j17<=l.length) (λj17 h17=>?_) (λk18 h18=>?_)
   ·refine Ok.meet (λj25:Int=>0<=j25/\j25<=l.length) (λj25 h25=>?_) (λk26 h26=>?_)
    ·refine Ok.meet (λj38:Int=>0<=j38/\j38<=l.length) (λj38 h38=>Ok.ret h38) (λk39 h39=>?_);refine Ok.meet (λj42:Bool=>j42=true->j25<l.length) (λj42 h42=>?_) (λk43 h43=>?_)
     ·refine Ok.ite (λht=>?_) (λ_=>h39 _ h25);have hlt:=h42 ht;refine Ok.meet (λj49:Int=>0<=j49/\j49<=l.length) (λj49 h49=>?_) (λk50 h50=>?_)
      ·refine Ok.bind (AHu l j49 h49.1) λy60 h60=>?_;have hl:y60.length=l.length-j49.toNat:=by grind
       refine Ok.bind (ATu y60 fG fG) λy62 h62=>?_;refine Ok.ite (λ_=>h39 _ ?_) (λ_=>h39 _ h25);grind[AO]
      ·refine Ok.meet (λj53:Bool=>j53=true->j25+1<l.length) (λj53 h53=>?_) (λk54 h54=>?_);·rw[AO (n:=j25+1) fG,AO (n:=j25+1+1) fG];exact Ok.ite (λht=>h50 _ (by grind)) (λ_=>h50 _ fG)
       ·rw[AO (n:=j25+1) fG];refine Ok.ite (λhc=>?_) (λ_=>h54 _ fH);simp only[au]at hc;refine Ok.bind (Ok.idx fG hc) λx57 _=>?_;rw[AGA _ _ fH,aa];exact h54 _ (λ_=>hc)
     ·refine Ok.ite (λhc=>?_) (λ_=>h43 _ fH);simp only[au]at hc;refine Ok.bind (Ok.idx h25.1 hc) λx46 _=>?_;rw[AGA _ _ fH,aa];exact h43 _ (λ_=>hc)
    ·rw[AO (n:=j17+1) fG];refine Ok.bind (AHu l (j17+1) fG) λy29 h29=>?_;have hl:y29.length=l.length-(j17+1).toNat:=by grind
     refine Ok.bind (ATu y29 fG fG) λy31 h31=>?_;refine Ok.meet (λj33:Bool=>j33=true->j17<l.length) (λj33 h33=>?_) (λk34 h34=>?_);·rw[AO (n:=1+y31) fG,AO (n:=j17+(1+y31)) fG];refine Ok.ite (λht=>h26 _ ?_) (λ_=>h26 _ h17);grind
     ·refine Ok.ite (λhc=>?_) (λ_=>h34 _ fH);simp only[au]at hc;refine Ok.bind (Ok.idx h17.1 hc) λx37 _=>?_;exact Ok.ite (λ_=>h34 _ (λ_=>hc)) (λ_=>h34 _ fH)
   ·refine Ok.bind (Ok.idx h1.1 hj) λx21 _=>?_;refine Ok.ite (λ_=>?_) (λ_=>?_);·grind[AO]
    ·refine Ok.bind (Ok.sub h1.1 h1.2.2 (bu _)) λx22 h22=>?_;have hl:=h22.2;refine Ok.bind (ATu x22 fG fG) λy23 h23=>?_;grind[AO]
  ·refine Ok.ite (λ_=>h11 _ fH) (λhc=>?_);have hj:j1<l.length:=by
    have:j1≠l.length:=by simpa using hc
    omega
   refine Ok.bind (Ok.idx h1.1 hj) λx14 _=>?_;rw[digit_eq,aa];exact h11 _ (λ_=>hj)
 ·refine Ok.meet (λj5:Bool=>j5=true->0<l.length) (λj5 h5=>?_) (λk6 h6=>?_);·refine Ok.ite (λht=>h2 _ ?_) (λ_=>h2 _ fG);grind[AO]
  ·refine Ok.ite (λhc=>?_) (λ_=>h6 _ fH);simp only[au]at hc;grind[Ok.bind,Ok.idx]
def ACh (set:B8) (hs:set.length<=1000) (k2:Unit->Option Int) (n:Int) (h:k2 ()=some n): ∀(l:B8) (i:Int),0<=i->i+l.length=n->Ok (EL N set k2 l i) (λr=>0<=r/\r<=n) |[],i,hi,hn=>by grind[EL,Ok.ret]| x::l,i,hi,hn=>by simp only[ag]at hn;rw[EL,AGA _ _ hs,aa];exact Ok.ite (λ_=>Ok.ret fG) (λ_=>ACh set hs k2 n h l (i+1) fG fG)
def AOd (l set:B8) (hs:set.length<=1000) (hb:l.length<=1000000):Ok (Be N l set) (λr=>0<=r/\r<=l.length):=by unfold Be;refine Ok.join (Ok.grd (by grind[AL]) ?_);exact ACh set hs _ _ rfl l 0 fG fG
def AOt (k19:Int->Option Int) (hk: ∀n,0<=n->n<=1073741824->Ok (k19 n) (λr=> -1073741824<=r/\r<=1073741824)): ∀(l:B8) (n:Int),0<=n->n<=1073741824->Ok (Cm N k19 l n) (λr=> -1073741824<=r/\r<=1073741824)
 |[],n,h0,h1=>by grind[Cm]
 | x::l,n,h0,h1=>by
  rw[Cm];have hw:0<=wr .u8 (AC x-48)/\wr .u8 (AC x-48)<=255:=by grind[wr,IntKind.wrap,IntKind.bits,IntKind.signed]
  rw[AO (n:=n * 10) fG,AO (n:=wr .u8 (AC x-48)) fG,AO (n:=n * 10+wr .u8 (AC x-48)) fG];refine AOt k19 hk l _ ?_ ?_<;>grind
def ASA (l:B8) (hb:l.length<=1000000):Ok (JF N l) (λr=> -1073741824<=r/\r<=1073741824):=by
 unfold JF;have pos: ¬(l==[])=true->(0:Int)<l.length:=λh=>by grind[List.length_pos_iff]
 refine Ok.meet (λ_:Bool=>True) (λj1 _=>?_) (λk2 h2=>?_)
 ·refine Ok.meet (λj6:B8=>j6.length<=l.length) (λj6 h6=>?_) (λk7 h7=>?_);·refine Ok.join (Ok.grd (by grind[AL]) (AOt _ (λn h0 h1=>?_) _ _ fG fG));refine Ok.ite (λ_=>Ok.ret ?_) (λ_=>Ok.ret ⟨fG,fG⟩);grind[AO]
  ·refine Ok.meet (λj10:Bool=>j10=true->(0:Int)<l.length) (λj10 h10=>?_) (λk11 h11=>?_);·refine Ok.ite (λht=>?_) (λ_=>h7 _ (aw _));have:=h10 ht;exact Ok.bind (Ok.sub fG fG (bu _)) λx hx=>h7 _ fG
   ·refine Ok.ite (λ_=>h11 _ fH) (λhf=>?_);have:=pos (by simp[hf]);refine Ok.bind (Ok.idx fG this) λx _=>?_;rw[AGA _ _ fH,aa];exact h11 _ (λ_=>this)
 ·refine Ok.ite (λ_=>h2 _ trivial) (λhf=>?_);exact Ok.bind (Ok.idx fG (pos (by grind))) λx _=>h2 _ trivial
def AAC: ∀(d k n:Nat) (acc:B8),n<10^(d+1)->d<k->n<18446744073709551616->acc.length+d<=1000->Ok (Eu N k (n:Int) acc) (λr=>r.length<=acc.length+d+1)
 |d,0,n,acc,h,hk,hn,ha=>by omega
 | d,k+1,n,acc,h,hk,hn,ha=>by
  have hd:wr .u64 ((n:Int).tdiv 10)=((n / 10:Nat):Int):=by grind[wr,IntKind.wrap,IntKind.bits,IntKind.signed]
  rw[Eu,hd];refine Ok.grd (by grind[AL]) (Ok.ite (λ_=>Ok.ret (by simp<;>omega)) (λhc=>?_));have hc':n / 10≠0:=by grind
  cases d with
  |zero=>omega
  | succ d=>
   refine(AAC d k (n / 10) _ ?_ fG fG (by grind)).mono λr hr=>by grind
   omega
theorem AGB (n:Nat) (h1:n<1000000000000) (hN:20<=N):Ok (H7 N n) (λr=>r.length<=13):=by unfold H7;exact(AAC 11 N n [] fG fG fG fH).mono λr hr=>by grind
def AFs (k40:Int×B8->Option (B8×Int)) (P:B8×Int->Prop) (L:Nat) (hL:L<=1000000) (hk: ∀(x:Int) (m:B8),-2000000000<=x->x<=2000000000->m.length<=L->Ok (k40 (x,m)) P): ∀(k:Nat) (x:Int) (m:B8),m.length<k->m.length<=L-> -2000000000<=x->x+m.length<=2000000000->(∃c,m.head?=some c/\c≠48)->Ok (Er N k40 k x m) P
 |0,x,m,h,_,_,_,_=>by omega
 | k+1,x,m,h,hm,h0,h1,hc=>by
  obtain⟨c,hc,hne⟩:=hc;have hpos:0<m.length:=by grind
  rw[Er,AO (n:=(m.length:Int)-1) fG];refine Ok.bind (Ok.idx fG fG) λy hy=>?_;refine Ok.ite (λht=>?_) (λ_=>hk x m fG fG hm);refine Ok.bind (Ok.sub fG fG fG) λz hz=>?_;rw[AO (n:=x+1) fG];have hl:=hz.2;have h2:1<m.length:=by
   rcases aV 1 m.length with h|h;·exact h
   ·exfalso;match m,hpos,h,hc,hy with
    | [d],_,_,hc,hy=>
     simp at hc hy;subst hc;subst hy;have:AC d=48:=by grind
     exact hne (by
      have h3:d.toNat=48:=by unfold AC at this;omega
      exact cn.1 (by grind))
  refine AFs k40 P L hL hk k (x+1) z fG fG fG fG ⟨c,?_,hne⟩;rw[hz.1];cases m with |nil=>grind| cons a m=>simp at hc;subst hc;have e:((((a::m).length:Nat):Int)-1).toNat-(0:Int).toNat=m.length:=fH;rw[e];cases m with |nil=>grind|cons b m=>simp
theorem ACB (k29:B8->Option (B8×Int)) (B:Nat) (P:B8×Int->Prop) (hk: ∀m:B8,m.length<=B->(m=[]\/∃c,m.head?=some c/\c≠48)->Ok (k29 m) P): ∀(k:Nat) (m:B8),m.length<k->m.length<=B->Ok (EM N k29 k m) P
 |0,m,h,_=>by omega
 | k+1,m,h,hb=>by
  rw[EM,AA];cases m with
  | nil=>have:decide ((([]:B8).length:Int)>0)=false:=fH;simp_all
  | cons a m=>
   simp only[ag]at h hb;have h1:decide (((a::m).length:Int)>0)=true:=by simp<;>omega
   have h2:idx (a::m) 0=some a:=by simp[idx]
   rw[h1,ah rfl,h2,aa];refine Ok.ite (λht=>?_) (λhf=>hk _ fG (.inr ⟨a,rfl,λe=>?_⟩));·exact Ok.bind (Ok.sub fG (by grind) (bu _)) λx hx=>ACB k29 B P hk k x (by grind) (by grind)
   simp_all[AC]
def Aa6 (l:B8) (hN:l.length+30<N) (hb:l.length<=100000):Ok (Jr N l) (λr=>r.1.length<=2 * l.length+100):=by
 unfold Jr;refine Ok.meet (λj1:Bool=>j1=false->0<l.length) (λj1 h1=>?_) (λk2 h2=>?_)
 ·refine Ok.ite (λ_=>Ok.ret fH) (λhf=>?_);have hpos:=h1 hf;refine Ok.meet (λj:B8×B8=>j.1.length<=l.length/\j.2.length<=1) (λj hj=>?_) (λk8 h8=>?_)
  ·refine Ok.bind (AOd j.1 _ fH fG) λy13 h13=>?_;rw[AO (n:=y13+1) fG];refine Ok.bind (AHu j.1 (y13+1) fG) λy15 h15=>?_;have hl15:y15.length<=j.1.length:=by grind
   refine Ok.bind (ASA y15 fG) λy17 h17=>?_;refine Ok.bind (Ok.sub fG h13.1 h13.2) λx19 h19=>?_;have hl19:=h19.2;refine Ok.meet (λj20:Int×B8=> -1100000000<=j20.1/\j20.1<=1100000000/\j20.2.length<=l.length) (λj20 hj20=>?_) (λk21 h21=>?_)
   ·refine Ok.meet (λm:B8=>m.length<=l.length/\(m=[]\/∃c,m.head?=some c/\c≠48)) (λm hm=>?_) (λk29 h29=>?_)
    ·refine Ok.ite (λ_=>Ok.ret fH) (λhne=>?_);refine Ok.meet (λp:Int×B8=>p.2.length<=l.length) (λp hp=>?_) (λk40 h40=>?_)
     ·refine Ok.meet (λb:Bool=>b=false-> -400<=p.1/\p.1<=400) (λb hb'=>?_) (λk47 h47=>?_)
      ·refine Ok.ite (λ_=>Ok.ret fH) (λhf=>?_);have hx:=hb' hf;refine Ok.ite (λhlt=>?_) (λ_=>Ok.ite (λhgt=>?_) (λ_=>Ok.grd (by grind[AL]) (Ok.ret (by grind))));·simp only[au]at hlt;obtain⟨n,hn⟩: ∃n:Nat,0-p.1=n:=⟨(0-p.1).toNat,fG⟩;grind[wr,AO,IntKind.wrap,IntKind.bits,IntKind.signed,Ok.grd,AL,Ok.bind,AGB,Ok.ret]
       ·simp only[au]at hgt;obtain⟨n,hn⟩: ∃n:Nat,p.1=n:=⟨p.1.toNat,fG⟩;have e:wr .u64 p.1=(n:Int):=by grind[wr,IntKind.wrap,IntKind.bits,IntKind.signed]
        grind[Ok.grd,AL,Ok.bind,AGB,Ok.ret]
      ·refine Ok.ite (λ_=>h47 _ fH) (λ_=>Ok.ite (λ_=>h47 _ fH) (λh4=>h47 _ (λh5=>?_)));grind
     ·rcases hm.2 with hm2|hm2;·grind
      ·exact AFs k40 _ l.length fG (λx m' _ _ h=>h40 _ h) N j20.1 m fG hm.1 fG fG hm2
    grind[ACB]
   ·refine Ok.bind (AOd x19 _ fH fG) λy24 h24=>?_;refine Ok.ite (λhc=>?_) (λ_=>h21 _ ⟨fG,fG,by grind⟩);simp only[au]at hc;refine Ok.bind (Ok.sub fG h24.1 h24.2) λx26 h26=>?_;rw[AO (n:=y24+1) fG,AO (n:=(x19.length:Int)-y24) fG,AO (n:=(x19.length:Int)-y24-1) fG,AO (n:=y17-((x19.length:Int)-y24-1)) fG];refine Ok.bind (Ok.sub fG fG (bu _)) λx27 h27=>?_;have a1:=h26.2;have a2:=h27.2;exact Ok.grd (by grind[AL]) (h21 _ ⟨fG,fG,by grind⟩)
  ·refine Ok.bind (Ok.idx fG fG) λx11 _=>?_;refine Ok.ite (λ_=>?_) (λ_=>h8 _ ⟨aw _,fH⟩);exact Ok.bind (Ok.sub fG fG (bu _)) λx12 h12=>h8 _ ⟨by grind,fH⟩
 ·refine Ok.ite (λ_=>h2 _ fH) (λhf=>?_);grind[List.length_pos_iff,Ok.bind,AB9]
end
end Go.VM
namespace Go.VM
section
variable{N:Nat}
def Ak2 (a:Int):Ok (Iq N a) (λ_=>True):=by unfold Iq;rw[digit_eq,aa];refine Ok.ite (λ_=>Ok.ret trivial) (λ_=>?_);refine Ok.ite (λ_=>Ok.ite (λ_=>Ok.ret trivial) (λ_=>?_)) (λ_=>?_)<;>exact Ok.ite (λ_=>Ok.ret trivial) (λ_=>Ok.ret trivial)
def AF4 (k2:Unit->Option (Int×Int)) (h:Ok (k2 ()) (λ_=>True)): ∀l:B8,Ok (Co N 16 k2 l) (λ_=>True) |[]=>by grind[Co]| x::l=>by rw[Co];refine Ok.meet (λ_:Bool=>True) (λj _=>Ok.ite (λ_=>Ok.ret trivial) (λ_=>AF4 k2 h l)) (λk7 h7=>?_);refine Ok.ite (λhc=>by grind) (λ_=>Ok.ite (λ_=>Ok.bind (Ak2 _) λy _=>h7 _ trivial) (λ_=>h7 _ trivial))
def AFm (k17:Int->Option (Int×Int)) (h: ∀n,Ok (k17 n) (λ_=>True)) (m:Int): ∀(l:B8) (n:Int),Ok (Bh N 16 m k17 l n) (λ_=>True) |[],n=>by grind[Bh]| x::l,n=>by rw[Bh];refine Ok.meet (λ_:Int=>True) (λj _=>?_) (λk22 h22=>Ok.ite (λ_=>h22 _ trivial) (λ_=>h22 _ trivial));refine Ok.meet (λ_:Bool=>True) (λb _=>Ok.ite (λ_=>Ok.ret trivial) (λ_=>AFm k17 h m l _)) (λk26 h26=>?_);exact Ok.grd fI (Ok.ite (λ_=>h26 _ trivial) (λ_=>Ok.ite (λ_=>h26 _ trivial) (λ_=>h26 _ trivial)))
theorem Apm (l:B8) (m:Int) (hb:l.length<=1000):Ok (Oj N l m) (λ_=>True):=by unfold Oj Ju;refine Ok.bind (Q:=λ_=>True) (Ok.ite (λ_=>Ok.ret trivial) (λ_=>Ok.join (Ok.grd (by grind[AL]) (AF4 _ (Ok.join (Ok.grd (by grind[AL]) (AFm _ (λn=>Ok.ret trivial) m l 0))) l)))) λy _=>Ok.ret trivial
def AXE (l:B8) (i:Int) (h0:0<=i) (h1:i<=2000000) (hb:l.length<=1000000):Ok (J9 N l i) (λr=>r.2=true->i+6<=l.length):=by
 unfold J9;refine Ok.meet (λj:Bool=>j=false->i+6<=l.length) (λj hj=>?_) (λk2 h2=>?_);·refine Ok.ite (λ_=>Ok.ret fH) (λhf=>?_);grind[AO,Ok.bind,Ok.sub,Apm,Ok.ret]
 ·rw[AO (n:=i+6) fG,AO (n:=i+1) fG];refine Ok.ite (λ_=>h2 _ fH) (λhc=>?_);simp only[eY]at hc;refine Ok.bind (Ok.idx h0 fG) λx _=>Ok.ite (λ_=>h2 _ (λ_=>by omega)) (λ_=>?_);grind[Ok.bind,Ok.idx]
theorem ZV (n:Int):Ok (Im N n) (λr=>r.1.length<=4):=by
 unfold Im;refine Ok.bind (Q:=λ_=>True) ?_ λy _=>?_;·unfold Nz;refine Ok.ite (λ_=>Ok.ite (λ_=>Ok.ite (λ_=>Ok.ret trivial) (λ_=>Ok.ret trivial)) (λ_=>Ok.ret trivial)) (λ_=>Ok.ret trivial)
 ·refine Ok.ite (λ_=>Ok.ite (λ_=>Ok.ret fH) (λ_=>Ok.ite (λ_=>Ok.letL (Ok.ret fH)) (λ_=>Ok.ite (λ_=>Ok.letL (Ok.ret fH)) (λ_=>Ok.letL (Ok.ret fH))))) (λ_=>Ok.ret fH)
def Ag4: ∀j:Nat,j<8->(Dx [34,92,47,98,102,110,114,116] j).2=1:=by intro j h;match j,h with |0,_=>rfl|1,_=>rfl|2,_=>rfl|3,_=>rfl|4,_=>rfl|5,_=>rfl|6,_=>rfl|7,_=>rfl
def AAT (l:B8) (i:Int) (h0:0<=i) (h1:i+1<l.length) (hb:l.length<=1000000) (P:B8×Int×Int->Prop) (hP: ∀x:B8,x.length<=4->P (x,i+2,0)) (k2:Unit->Option (B8×Int×Int)) (hk:Ok (k2 ()) P):∀(k j:Nat),j<=8->8<k+j->Ok (DF N l i k2 k j) P |0,j,hj,h=>by omega| k+1,j,hj,h=>by rw[DF];refine Ok.ite (λhc=>?_) (λ_=>hk);simp only[au]at hc;rw[Ag4 j hc,AO (n:=i+1) fG,AO (n:=(j:Int)+1) fG,AO (n:=i+2) fG];refine Ok.bind (Ok.idx fG (by grind)) λx _=>Ok.bind (Ok.idx fG h1) λy _=>?_;refine Ok.ite (λ_=>?_) (λ_=>AAT l i h0 h1 hb P hP k2 hk k (j+1) fG fG);exact Ok.bind (Ok.sub fG fG (by grind)) λz hz=>Ok.ret (hP z fG)
def AY3 (l:B8) (i:Int) (h0:0<=i) (h1:i<l.length) (hb:l.length<=1000000) (hN:10<=N):Ok (Kt N l i) (λr=>r.2.2=0->r.1.length<=4/\i<r.2.1/\r.2.1<=l.length):=by
 unfold Kt;refine Ok.meet (λ_:Unit=>True) (λ_ _=>?_) (λk2 h2=>?_)
 ·refine Ok.bind (AXE l i h0 fG hb) λy9 h9=>Ok.ite (λht=>?_) (λ_=>Ok.ret fH);have h6:=h9 ht;rw[AO (n:=i+6) fG,AO (n:=i+12) fG];refine Ok.meet (λ_:Bool=>True) (λj _=>Ok.ite (λ_=>Ok.bind (ZV _) λy h=>Ok.ret (λ_=>⟨h,by grind,fG⟩)) (λ_=>?_)) (λk12 h12=>Ok.ite (λ_=>h12 _ trivial) (λ_=>h12 _ trivial));refine Ok.bind (AXE l (i+6) fG fG hb) λy17 h17=>?_;refine Ok.meet (λj:Bool=>j=false->y17.2=true) (λj hj=>Ok.ite (λ_=>Ok.ret fH) (λhf=>?_)) (λk20 h20=>?_);·grind[Ok.bind,ZV,Ok.ret]
  ·refine Ok.ite (λ_=>h20 _ fH) (λ_=>Ok.ite (λh=>Ok.ite (λ_=>h20 _ fH) (λ_=>h20 _ (λ_=>h))) (λ_=>h20 _ fH))
 ·rw[AO (n:=i+1) fG];refine Ok.ite (λhc=>?_) (λ_=>h2 _ trivial);simp only[au]at hc;exact AAT l i h0 hc hb _ (λx hx=>λ_=>⟨hx,by grind,by grind⟩) k2 (h2 _ trivial) N 0 fG fG
def ACn (l:B8) (k4:Int->Option Int) (h: ∀n,Ok (k4 n) (λ_=>True)): ∀(k:Nat) (i n:Int),0<=i->i+k<=l.length->Ok (Cq N l k4 k i n) (λ_=>True) |0,i,n,_,_=>by grind[Cq]| k+1,i,n,h0,h1=>by rw[Cq];exact Ok.bind (Ok.idx h0 fG) λx _=>ACn l k4 h k (i+1) _ fG fG
def Aix (l:B8) (h0:0<l.length) (h1:l.length<=4):Ok (I6 N l) (λ_=>True):=by unfold I6;refine Ok.ite (λ_=>Ok.bind (Ok.idx fG fG) λx _=>Ok.ret trivial) (λ_=>?_);refine Ok.bind (Ok.idx fG fG) λx _=>?_;rw[AO (n:=7-(l.length:Int)) fG];exact Ok.grd fG (Ok.join (Ok.grd fG (ACn l _ (λn=>Ok.ret trivial) _ _ _ fG fG)))
theorem APF (l:B8) (i:Int) (h0:0<=i) (hi:i<l.length) (hb:l.length<=1000000) (k6:Unit->Option (Int×Int×Int)) (hk:Ok (k6 ()) (λr=>r.2.2=0->i<r.2.1/\r.2.1<=i+4/\r.2.1<=l.length)): ∀(k:Nat) (j:Int),1<=j->j<=5->5<k+j->Ok (C9 N l i k6 k j) (λr=>r.2.2=0->i<r.2.1/\r.2.1<=i+4/\r.2.1<=l.length)
 |0,j,_,_,h=>by omega
 | k+1,j,h1,h5,h=>by
  rw[C9];rw[AO (n:=i+j) fG,AO (n:=j+1) fG];refine Ok.meet (λb:Bool=>b=true->j<=4/\i+j<=l.length) (λb hb'=>?_) (λk11 h11=>?_);·refine Ok.ite (λht=>?_) (λ_=>hk);obtain⟨e1,e2⟩:=hb' ht;refine Ok.bind (Ok.sub h0 fG e2) λx hx=>?_;have hl:=hx.2;refine Ok.bind (Aix x fG fG) λy _=>Ok.bind (ZV y) λz _=>?_;refine Ok.meet (λ_:Bool=>True) (λb _=>Ok.ite (λ_=>Ok.ret (λ_=>⟨by grind,by grind,fG⟩)) (λ_=>APF l i h0 hi hb k6 hk k (j+1) fG fG fG)) (λk20 h20=>Ok.ite (λ_=>h20 _ trivial) (λ_=>h20 _ trivial))
  ·refine Ok.ite (λhc=>h11 _ (λht=>?_)) (λ_=>h11 _ fH);simp_all
def Aa8 (l:B8) (i:Int) (h0:0<=i) (h1:i<l.length) (hb:l.length<=1000000) (hN:10<=N):Ok (Kw N l i) (λr=>r.2.2=0->i<r.2.1/\r.2.1<=i+4/\r.2.1<=l.length):=by
 unfold Kw;refine Ok.join (Ok.ite (λhc=>?_) (λ_=>Ok.ite (λhc=>?_) (λ_=>?_)));·simp only[au]at hc;omega
 ·simp only[au]at hc;omega
 grind[Ok.join,APF,Ok.ret]
def Zp (l:B8) (hb:l.length<=1000000) (hN:10<=N) (i0:Int) (k2:Unit->Option (B8×Int×Int)) (hk:Ok (k2 ()) (λr=>r.2.2=0->i0<r.2.1/\r.2.1<=l.length/\r.1.length<=4 * l.length)): ∀(k:Nat) (s:B8) (i:Int),0<=i->i0<i->i<=l.length->(l.length:Int)<k+i->(s.length:Int)<=4 * i->Ok (Et N l k2 k s i) (λr=>r.2.2=0->i0<r.2.1/\r.2.1<=l.length/\r.1.length<=4 * l.length)
 |0,s,i,_,_,_,h,_=>by omega
 | k+1,s,i,h0,hi,h1,h,hs=>by
  rw[Et];refine Ok.ite (λhc=>?_) (λ_=>hk);simp only[au]at hc;refine Ok.bind (Ok.idx h0 hc) λx _=>?_;rw[AO (n:=i+1) fG];refine Ok.ite (λ_=>Ok.ret (λ_=>⟨by grind,by grind,by grind⟩)) (λ_=>Ok.ite (λ_=>?_) (λ_=>Ok.ite (λ_=>Ok.ret fH) (λ_=>?_)));·refine Ok.bind (AY3 l i h0 hc hb hN) λy hy=>Ok.ite (λhf=>Ok.ret (λe=>by grind)) (λhf=>?_);obtain⟨a1,a2,a3⟩:=hy (by grind);exact Ok.grd (by grind[AL]) (Zp l hb hN i0 k2 hk k _ _ fG fG a3 fG (by grind))
  ·refine Ok.bind (Aa8 l i h0 hc hb hN) λy hy=>Ok.ite (λhf=>Ok.ret (λe=>by grind)) (λhf=>?_);obtain⟨a1,a2,a3⟩:=hy (by grind);refine Ok.bind (Ok.sub h0 fG a3) λz hz=>?_;have hl:=hz.2;exact Ok.grd (by grind[AL]) (Zp l hb hN i0 k2 hk k _ _ fG fG a3 fG (by grind))
def AlD (l:B8) (i:Int) (h0:0<=i) (h1:i<l.length) (hb:l.length<=1000000) (hN:l.length+10<=N):Ok (NT N l i) (λr=>r.2.2=0->i<r.2.1/\r.2.1<=l.length/\r.1.length<=4 * l.length):=by unfold NT;rw[AO (n:=i+1) fG];exact Ok.join (Zp l hb fG i _ (Ok.ret fH) N [] (i+1) fG fG fG fG (by grind))
theorem AjZ (a:Int):Ok (ER N a) (λ_=>True):=by unfold ER;refine Ok.ite (λ_=>Ok.ite (λ_=>Ok.ret trivial) (λ_=>?_)) (λ_=>?_)<;>exact Ok.ite (λ_=>Ok.ret trivial) (λ_=>Ok.ret trivial)
def ACR (l:B8) (hb:l.length<=1000000) (P:ApiToken×Int×Int->Prop) (j:Int) (hj:0<=j) (k34:Int->Option (ApiToken×Int×Int)) (hk: ∀n,0<=n->j+n<=l.length->Ok (k34 n) P): ∀(k:Nat) (n:Int),0<=n->j+n<=l.length->(l.length:Int)<k+j+n->Ok (FO N l j k34 k n) P |0,n,_,_,h=>by omega| k+1,n,h0,h1,h=>by rw[FO,AO (n:=n+1) fG,AO (n:=j+n) fG];refine Ok.meet (λb:Bool=>b=true->j+n<l.length) (λb hb'=>Ok.ite (λht=>ACR l hb P j hj k34 hk k (n+1) fG (by grind) fG) (λ_=>hk n h0 h1)) (λk39 h39=>?_);refine Ok.ite (λhc=>?_) (λ_=>h39 _ fH);simp only[au]at hc;grind[Ok.bind,Ok.idx,AjZ]
def AB3 (l:B8) (hb:l.length<=1000000) (P:ApiToken×Int×Int->Prop) (i0:Int) (k6:Int->Option (ApiToken×Int×Int)) (hk: ∀i,i0<=i->i<=l.length->Ok (k6 i) P): ∀(k:Nat) (i:Int),0<=i->i0<=i->i<=l.length->(l.length:Int)<k+i->Ok (FN N l k6 k i) P |0,i,_,_,_,h=>by omega| k+1,i,h0,hi,h1,h=>by rw[FN,AO (n:=i+1) fG];refine Ok.meet (λb:Bool=>b=true->i<l.length) (λb hb'=>Ok.ite (λht=>AB3 l hb P i0 k6 hk k (i+1) fG fG (by grind) fG) (λ_=>hk i hi h1)) (λk11 h11=>?_);refine Ok.ite (λhc=>?_) (λ_=>h11 _ fH);simp only[au]at hc;refine Ok.bind (Ok.idx h0 hc) λx _=>?_;grind[Nw,AGA]
structure TokOK (l:B8) (i:Int) (r:ApiToken×Int×Int):Prop where
  good:r.2.2=0->i<=r.2.1/\r.2.1<=l.length/\r.1.text.length<=4 * l.length/\(r.1.kind≠1->i<r.2.1)
  bad:r.2.2≠0->r.1=ApiToken.mk 0 [] 0
def AmM (l:B8) (i:Int) (h0:0<=i) (h1:i<=l.length) (hb:l.length<=1000000) (hN:l.length+10<=N):Ok (NJ N l i) (TokOK l i):=by
 unfold NJ;refine Ok.join (Ok.ite (λhc=>?_) (λ_=>Ok.ite (λhc=>?_) (λ_=>?_)));·simp only[au]at hc;omega
 ·simp only[au]at hc;omega
 ·have err: ∀e:Int,TokOK l i (ApiToken.mk 0 [] 0,0,e)->True:=λ_ _=>trivial;refine Ok.meet (λj:Int=>i<=j/\j<=l.length) (λj hj=>?_) (λk6 h6=>AB3 l hb _ i k6 (λj a b=>h6 j ⟨a,b⟩) N i h0 (bu _) h1 fG);refine Ok.ite (λ_=>Ok.ret ⟨λ_=>⟨by grind,by grind,fH,fH⟩,fH⟩) (λhne=>?_);have hlt:j<l.length:=by grind
  rw[AO (n:=j+1) fG];refine Ok.bind (Ok.idx fG hlt) λx _=>?_;rw[AGA _ _ fH,aa];refine Ok.ite (λ_=>?_) (λ_=>Ok.ite (λ_=>?_) (λ_=>?_));·exact Ok.bind (Ok.sub fG fG fG) λy hy=>Ok.ret ⟨λ_=>⟨by grind,by grind,by grind,λ_=>by grind⟩,fH⟩
  ·refine Ok.bind (AlD l j fG hlt hb hN) λy hy=>Ok.ite (λhf=>Ok.ret ⟨λe=>by grind,λ_=>rfl⟩) (λhf=>?_);obtain⟨a1,a2,a3⟩:=hy (by grind);exact Ok.ret ⟨λ_=>⟨by grind,a2,a3,λ_=>by grind⟩,fH⟩
  ·refine Ok.meet (λ_:Bool=>True) (λb _=>Ok.ite (λ_=>?_) (λ_=>?_)) (λk24 h24=>Ok.ite (λ_=>h24 _ trivial) (λ_=>by rw[digit_eq,aa];grind))
   ·refine Ok.bind (Ok.sub fG fG (bu _)) λy hy=>?_;have hl:=hy.2;refine Ok.bind (AB9 y fG fG) λn hn=>Ok.ite (λ_=>Ok.ret ⟨fH,λ_=>rfl⟩) (λhf=>?_);have hn0:n≠0:=by grind
    rw[AO (n:=j+n) fG];exact Ok.bind (Ok.sub fG fG fG) λz hz=>Ok.ret ⟨λ_=>⟨by grind,by grind,by grind,λ_=>by grind⟩,fH⟩
   ·refine Ok.meet (λn:Int=>0<=n/\j+n<=l.length) (λn hn=>?_) (λk34 h34=>ACR l hb _ j fG k34 (λn a b=>h34 n ⟨a,b⟩) N 0 fG fG fG);rw[AO (n:=j+n) fG];refine Ok.bind (Ok.sub fG fG fG) λz hz=>?_;have hl:=hz.2;have pos: ∀w:B8,0<w.length->(z==w)=true->0<n:=by grind
    refine Ok.meet (λb:Bool=>b=true->0<n) (λb hb'=>Ok.ite (λht=>?_) (λ_=>Ok.ret ⟨fH,λ_=>rfl⟩)) (λk47 h47=>?_);·have:=hb' ht;exact Ok.ret ⟨λ_=>⟨by grind,by grind,by grind,λ_=>by grind⟩,fH⟩
    ·exact Ok.ite (λh=>h47 _ (λ_=>pos _ fH h)) (λ_=>Ok.ite (λh=>h47 _ (λ_=>pos _ fH h)) (λ_=>h47 _ (λh=>pos _ fH h)))
end
end Go.VM
namespace Go.VM
def zeroV:ApiValue:=ApiValue.mk 0 [] [] []
def SL:List B8->List ApiValue->B8->ApiValue×Bool |k::ks,x::xs,key=>if k==key then(x,true)else SL ks xs key|_,_,_=>(zeroV,false)
def DV (v:ApiValue) (key:B8):ApiValue×Bool:=if v.kind==7 then SL v.keys v.items key else(zeroV,false)
def Arj (x:ApiValue):ApiValue.mk x.kind x.text x.keys x.items=x:=by cases x;rfl
inductive okB (B:Nat):Nat->ApiValue->Prop |mk{d:Nat} (v:ApiValue) (ht:v.text.length<=300 * B) (hk:v.keys.length<=810+100 * B) (hl: ∀k,k∈v.keys->k.length<=300 * B) (hi:v.items.length<=800+100 * B) (h: ∀x,x∈v.items->okB B d x):okB B (d+1) v
abbrev okW:Nat->ApiValue->Prop:=okB 1
section
variable{N B:Nat}
def okB.text{d:Nat}{v:ApiValue}:okB B d v->v.text.length<=300 * B|.mk _ h _ _ _ _=>h
def okB.keys{d:Nat}{v:ApiValue}:okB B d v->v.keys.length<=810+100 * B|.mk _ _ h _ _ _=>h
def okB.items{d:Nat}{v:ApiValue}:okB B d v->v.items.length<=800+100 * B|.mk _ _ _ _ h _=>h
theorem okB.sub{d:Nat}{v:ApiValue}:okB B (d+1) v-> ∀x,x∈v.items->okB B d x|.mk _ _ _ _ _ h=>h
def okB.pos{d:Nat}{v:ApiValue}:okB B d v->0<d|.mk _ _ _ _ _ _=>by omega
def okW.text{d:Nat}{v:ApiValue} (h:okW d v):v.text.length<=300:=okB.text h
def okW.keys{d:Nat}{v:ApiValue} (h:okW d v):v.keys.length<=910:=okB.keys h
def okW.items{d:Nat}{v:ApiValue} (h:okW d v):v.items.length<=900:=okB.items h
theorem okW.sub{d:Nat}{v:ApiValue} (h:okW (d+1) v): ∀x,x∈v.items->okW d x:=okB.sub h
def okB.mono{d:Nat}{v:ApiValue} (h:okB B d v): ∀e,d<=e->okB B e v:=by induction h with | mk v ht hk hl hi h ih=>intro e he;obtain⟨e',rfl⟩: ∃e',e=e'+1:=⟨e-1,fG⟩;exact .mk v ht hk hl hi λx hx=>ih x hx e' fG
theorem AQP (v:ApiValue) (key:B8) (k5:Unit->Option (ApiValue×Bool)): ∀(ks:List B8) (i:Int),(v.items.length:Int)<=i->EQ N v key k5 ks i=k5 ()
 |[],i,h=>by rw[EQ]
 | x::ks,i,h=>by
  have h3:decide (i<(v.items.length:Int))=false:=by grind
  rw[EQ,AA,h3,AQP v key k5 ks (i+1) fG];simp
def AOa (v:ApiValue) (key:B8) (k5:Unit->Option (ApiValue×Bool)) (h5:k5 ()=some (zeroV,false)): ∀(ks:List B8) (xs xpre:List ApiValue),v.items=xpre++xs->EQ N v key k5 ks (xpre.length:Int)=some (if v.kind==7 then SL ks xs key else(zeroV,false)) | [],xs,xpre,hx=>by grind[EQ,SL]| x::ks,[],xpre,hx=>by grind[SL,zeroV,AQP]| x::ks,y::ys,xpre,hx=>by have ih:=AOa v key k5 h5 ks ys (xpre++[y]) (by grind);rw[EQ,AA,AiS hx,ADL hx,aa,SF xpre y,ih,SL];cases v.kind==7<;>cases x==key<;>simp
def AT0 (v:ApiValue) (key:B8) (hb:v.keys.length<=900000):Ls N v key=some (DV v key):=by have:=AOa (N:=N) v key (λ_=>some (zeroV,false)) rfl v.keys v.items [] rfl;unfold Ls DV;rw[AA,BV fG];exact this
theorem AGP (v:ApiValue) (key:B8) (k2:Unit->Option (ApiValue×Bool)): ∀(ks:List B8) (i:Int),(v.items.length:Int)<=i->FZ N v key k2 ks i=k2 ()
 |[],i,h=>by rw[FZ]
 | x::ks,i,h=>by
  have h3:decide (i<(v.items.length:Int))=false:=by grind
  rw[FZ,AA,h3,AGP v key k2 ks (i+1) fG];simp
def AF6 (v:ApiValue) (key:B8) (k2:Unit->Option (ApiValue×Bool)) (h5:k2 ()=some (zeroV,false)): ∀(ks:List B8) (xs xpre:List ApiValue),v.items=xpre++xs->FZ N v key k2 ks (xpre.length:Int)=some (SL ks xs key) | [],xs,xpre,hx=>by grind[FZ,SL]| x::ks,[],xpre,hx=>by grind[SL,zeroV,AGP]| x::ks,y::ys,xpre,hx=>by have ih:=AF6 v key k2 h5 ks ys (xpre++[y]) (by grind);rw[FZ,AA,AiS hx,ADL hx,aa,SF xpre y,ih,SL];cases x==key<;>simp
def AH5 (v:ApiValue) (key:B8) (hb:v.keys.length<=4611686018427387904):Ns N v key=some (DV v key):=by
 unfold Ns DV;cases h:(v.kind==7)
 ·have:(v.kind !=7)=true:=by grind
  rw[ah this];rfl
 ·have:(v.kind !=7)=false:=by grind
  rw[this,ae fH,AA,BV fG];exact AF6 (N:=N) v key (λ_=>some (zeroV,false)) rfl v.keys v.items [] rfl
theorem ARP: ∀(ks:List B8) (xs:List ApiValue) (key:B8),(SL ks xs key).1∈xs\/(SL ks xs key).1=zeroV
 |[],_,_=>.inr rfl
 |_::_,[],_=>.inr rfl
 | k::ks,x::xs,key=>by
  rw[SL];split;·simp
  ·rcases ARP ks xs key with h|h<;>grind
def AQN (v:ApiValue) (key:B8):(DV v key).1∈v.items\/(DV v key).1=zeroV:=by
 unfold DV;split;·grind[ARP]
 simp
inductive okD:Nat->ApiValue->Prop |mk{d:Nat} (v:ApiValue) (hk:v.keys.length<=4611686018427387904) (hi:v.items.length<=4611686018427387904) (h: ∀x,x∈v.items->okD d x):okD (d+1) v
def okB.dB{d:Nat}{v:ApiValue} (h:okB B d v) (hB:B<=1000):okD d v:=by induction h with |mk v ht hk hl hi h ih=>exact .mk v fG fG ih
def okW.d{d:Nat}{v:ApiValue} (h:okW d v):okD d v:=okB.dB h fG
end
end Go.VM
