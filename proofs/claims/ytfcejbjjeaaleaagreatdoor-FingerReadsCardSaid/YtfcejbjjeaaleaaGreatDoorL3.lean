import Derived.Test.YtfcejbjjeaaleaaGreatDoorL2
set_option linter.defProp false
set_option linter.unusedVariables false
set_option linter.unusedSimpArgs false
namespace Go.VM
section
variable{N:Nat}
def Bj{α β:Type}{K:α->Option β}{body:(α->Option β)->Option β}{a:α}{d:JD α} (h: ∀k:α->Option β,body k=k a):AB K body d=K a:=h K
def AF1 (l:B8) (k2:Int->Option Int) (hb:l.length<=2^50): ∀(t:B8) (i k:Nat),l.drop i=t->i<=l.length->t.length<k->Ff N l k2 k (i:Int)=k2 ((i+Ia t:Nat):Int)
 | [],i,k+1,ht,hi,_=>by have hl:=BO ht hi;simp only[ap]at hl;have c: ¬(i:Int)<(l.length:Int):=fG;rw[Ff,AA,ae (by grind)];dsimp only;rw[ae fI];rfl
 | c::t,i,k+1,ht,hi,hk=>by
  have hl:=BO ht hi;simp only[ag]at hl hk;have c0:(i:Int)<(l.length:Int):=fG;rw[Ff,AA,ah (aA c0),head_drop ht,aa,O1,aa];unfold Ia;rw[aN];cases DC c;·simp
  ·dsimp only;rw[ah rfl,ah rfl,AO fG,show(i:Int)+1=((i+1:Nat):Int) by simp,AF1 l k2 hb t (i+1) k (by rw[<-aG,ht];rfl) fG fG];grind[Ia]
def AmU (t:B8) (hb:t.length<=2^50) (hN:t.length<N):KE N t=some ((Ia t:Nat):Int):=by unfold KE;rw[AA];have:=AF1 (N:=N) t (λj=>some j) hb t 0 N fH fG hN;grind
def ABn (t:B8) (i:Nat):Kz N t (i:Int)=some (t.drop i):=by
 unfold Kz;by_cases h:(i:Int)>=(t.length:Int);·simp_all
 ·rw[ae (by grind),BA t i t.length fG fG,aa,aP fH]
def VY{β:Type} (t:B8) (i:Nat) (k:Bool->Option β) (f:UInt8->Option β) (set:B8) (hf: ∀c r,t.drop i=c::r->f c=k (set.contains c)):(if decide ((i:Int)<(t.length:Int))=true then Option.bind (idx t (i:Int)) f else k false)=k (Em set (t.drop i)):=by
 by_cases hi:i<=t.length;·obtain⟨u,hu⟩: ∃u,t.drop i=u:=⟨_,rfl⟩;have hl:=BO hu hi;rw[hu];cases u with | nil=>simp only[ap]at hl;have c: ¬(i:Int)<(t.length:Int):=fG;rw[ae (by grind)];rfl| cons c r=>simp only[ag]at hl;have c0:(i:Int)<(t.length:Int):=fG;rw[ah (aA c0),head_drop hu,aa,hf c r hu];rfl
 ·have c: ¬(i:Int)<(t.length:Int):=fG;rw[ae (by grind),bW fG];rfl
theorem We (c:UInt8) (k:UInt8):([k]:B8).contains c=decide (c.toNat=k.toNat):=by grind[UInt8.toNat_inj]
def AdB (c:UInt8):(AC c==45)=([45]:B8).contains c:=by rw[We];exact ADZ (k:=45)
def Ate (c:UInt8):(AC c==46)=([46]:B8).contains c:=by rw[We];exact ADZ (k:=46)
def Atj (c:UInt8):(AC c==48)=([48]:B8).contains c:=by rw[We];exact ADZ (k:=48)
theorem AQm{t:B8}:Dm t=0<->(t=[]\/∃c r,t=c::r/\DC c=false):=by
 cases t with
 |nil=>exact⟨λ_=>.inl rfl,λ_=>rfl⟩
 | cons c r=>
  constructor;·intro h;refine .inr ⟨c,r,rfl,?_⟩;grind[Dm,Ia,List.takeWhile_cons,DC]
  ·rintro(h|⟨c',r',h,hd⟩);·cases h
   ·cases h;have h48:Em [48] (c::r)=false:=by show([48]:B8).contains c=false;grind[We,DC]
    simp_all[Dm,Ia]
def AAY (t:B8) (hb:t.length<=2^50) (hN:t.length<N):Iw N t=some ((Fz t:Nat):Int):=by
 have h1:=ADH t;have h2:=ABO (t.drop (Aa t));have h3:=ABw (t.drop (Aa t+Dm (t.drop (Aa t))));have h4:=AGy (t.drop (Aa t+Dm (t.drop (Aa t))+Fu (t.drop (Aa t+Dm (t.drop (Aa t))))));simp only[aB]at h2 h3 h4;have run: ∀n:Nat,KE N (t.drop n)=some ((Ia (t.drop n):Nat):Int):=λn=>AmU _ (by grind) (by grind);have wn: ∀n:Nat,n<=2^51->wr .i64 (n:Int)=(n:Int):=λn h=>OU fG;have w1: ∀n:Nat,n<=2^51->wr .i64 ((n:Int)+1)=((n+1:Nat):Int):=λn h=>by grind[AO]
 have hsub:sub t (Aa t:Int) (t.length:Int)=some (t.drop (Aa t)):=by rw[BA t (Aa t) t.length h1 (aw _),aP fH]
 have hs2:Aa t<=1:=by unfold Aa;split<;>omega
 unfold Iw;refine(Bj (a:=((Aa t:Nat):Int)) λk2=>(Bj (a:=Em [45] t) λk6=>?_).trans ?_).trans ?_;·have key:=VY t 0 k6 (λx9=>k6 (AC x9==45)) [45] (λc r _=>by rw[AdB]);grind
 ·unfold Aa;cases Em [45] t<;>rfl
 try dsimp only
 refine(Bj (a:=decide (Dm (t.drop (Aa t))=0)) λk11=>?_).trans ?_
 ·obtain⟨u,hu⟩: ∃u,t.drop (Aa t)=u:=⟨_,rfl⟩;have hl:=BO hu h1;rw[hu];cases u with
  | nil=>simp_all
  | cons c r=>
   simp only[ag]at hl;rw[ae (by grind),head_drop hu,aa,O1,aa];congr 1;cases hd:DC c;·rw[aA (AQm.2 (.inr ⟨c,r,rfl,hd⟩))];rfl
   grind[Dm,AQm,decide_eq_false]
 try dsimp only
 by_cases hz:Dm (t.drop (Aa t))=0;·simp_all[Fz]
 rw[ae (by grind)];have hnum:Fz t=Aa t+Dm (t.drop (Aa t))+Fu (t.drop (Aa t+Dm (t.drop (Aa t))))+Oc (t.drop (Aa t+Dm (t.drop (Aa t))+Fu (t.drop (Aa t+Dm (t.drop (Aa t)))))):=by simp_all[Fz]
 refine(Bj (a:=((Aa t+Dm (t.drop (Aa t)):Nat):Int)) λk18=>?_).trans ?_
 ·obtain⟨u,hu⟩: ∃u,t.drop (Aa t)=u:=⟨_,rfl⟩;cases u with
  |nil=>simp_all
  | cons c r=>
   rw[head_drop hu,aa,Atj,hsub,aa,run];rw[hu]at h2⊢;rw[show([48]:B8).contains c=Em [48] (c::r)from rfl];unfold Dm at h2⊢;by_cases h0:Em [48] (c::r)=true;·rw[ah h0]at h2;rw[ah h0,ah h0,w1 _ fG]
   ·rw[ae h0]at h2;rw[ae h0,ae h0,aa,AO fG];congr 1
 try dsimp only
 rw[w1 _ fG,ABn];generalize hi':Aa t+Dm (t.drop (Aa t))=i at *;have hil:i<=t.length:=fG;refine(Bj (a:=((i+Fu (t.drop i):Nat):Int)) λk26=>?_).trans ?_
 ·rw[aa,run,aa];have hr:=Sr (t.drop (i+1));rw[aB]at hr;refine(Bj (a:=Em [46] (t.drop i)&&decide (0<Ia (t.drop (i+1)))) λk34=>?_).trans ?_
  ·refine(VY t i (λb=>k34 (b&&decide (0<Ia (t.drop (i+1))))) _ [46] (λc r _=>?_)).trans rfl;rw[Ate];cases ([46]:B8).contains c;·rfl
   ·rw[ah rfl];congr 1;rw[bJ];congr 1;simp only[dS];omega
  try dsimp only
  unfold Fu;rw[aG];by_cases hc:Em [46] (t.drop i)=true/\0<Ia (t.drop (i+1));·rw[ah (by grind),ah hc,AO (n:=1+_) fG,AO fG];congr 1
  ·rw[ae (by grind),ae hc];rfl
 try dsimp only
 generalize hj:i+Fu (t.drop i)=j at *;have hjl:j<=t.length:=fG;rw[w1 _ fG];refine(Bj (a:=((j+Oc (t.drop j):Nat):Int)) λk39=>?_).trans ?_
 ·refine(Bj (a:=Em [101,69] (t.drop j)) λk43=>VY t j k43 _ [101,69] (λc r _=>by rw[Po _ _ fI,aa])).trans ?_;try dsimp only
  by_cases he:Em [101,69] (t.drop j)=true
  ·rw[ah he];have hpos:=MU he;rw[aB]at hpos;have hes:Mi (t.drop j)<=t.length-j-1:=by grind[Mi,MU,List.length_drop]
   refine(Bj (a:=((j+(1+Mi (t.drop j)):Nat):Int)) λk50=>(Bj (a:=Em [43,45] (t.drop (j+1))) λk54=>VY t (j+1) k54 _ [43,45] (λc r _=>by rw[Po _ _ fI,aa])).trans ?_).trans ?_
   ·try dsimp only
    unfold Mi;rw[aG];by_cases h:Em [43,45] (t.drop (j+1))=true;·rw[ah h,ah h,w1 _ fG]
    simp_all
   try dsimp only
   rw[ABn,aa,run,aa];have hr:=Sr (t.drop (j+(1+Mi (t.drop j))));rw[aB]at hr;have hex:Oc (t.drop j)=if 0<Ia (t.drop (j+(1+Mi (t.drop j))))then 1+Mi (t.drop j)+Ia (t.drop (j+(1+Mi (t.drop j))))else 0:=by simp_all[Oc,Ia,Mi]
   rw[hex];by_cases h:0<Ia (t.drop (j+(1+Mi (t.drop j))));·rw[ah (by grind),ah h,AO fG];grind
   simp_all
  simp_all[Oc]
 grind
end
end Go.VM
namespace Go.VM
section
variable{N:Nat}
def OM: ∀(l:B8) (c:UInt8),Go.Lib.indexByte l c=if l.contains c=true then(((l.takeWhile (· !=c)).length:Nat):Int)else-1
 |[],c=>rfl
 | x::l,c=>by
  have ih:=OM l c;rw[Go.Lib.indexByte,bh];by_cases e:x=c;·simp_all
  ·have e1:(c==x)=false:=by grind
   simp_all
def Og{α:Type} (p:α->Bool) (l:List α):l.drop (l.takeWhile p).length=l.dropWhile p:=by
 have:=bw (p:=p) (l:=l);conv=>lhs;rw[<-this]
 rw[cr,bW fH,this];simp
def Ac (c:UInt8) (l:B8):B8×B8×Bool:=if l.contains c=true then(l.takeWhile (· !=c),(l.dropWhile (· !=c)).drop 1,true)else(l,[],false)
theorem OJ{c:UInt8}: ∀ {l:B8},l.contains c=true->(l.takeWhile (· !=c)).length<l.length
 |[],h=>by cases h
 | x::l,h=>by
  rw[aN];by_cases e:x=c;·grind
  ·have e3:(x !=c)=true:=by grind
   rw[bh]at h;have e1:(c==x)=false:=by grind
   rw[e1,be]at h;rw[e3];have:=OJ h;simp_all
def Oo (c:UInt8) (l:B8) (hb:l.length<=2^60):strings_Cut N l [c]=some (Ac c l):=by
 unfold strings_Cut Hu Cr Ac;have hI:(if((([c]:B8).length:Int)==1)=true then some (Go.Lib.indexByte l (([c]:B8).headD 0))else grd (l.length<4294967281) (some (Go.Lib.index l [c])))=some (Go.Lib.indexByte l c):=ah (by rfl);rw[hI,aa,OM];by_cases h:l.contains c=true
 ·have hlt:=OJ h;simp only[h,av];generalize hn:(l.takeWhile (· !=c)).length=n at *;have w:wr .i64 ((n:Int)+(([c]:B8).length:Int))=((n+1:Nat):Int):=by grind[AO]
  rw[ah fH,show(0:Int)=((0:Nat):Int)from rfl,BA l 0 n fG fG,aa,w,BA l (n+1) l.length fG fG,aa,aa];rw[ba,bV,<-hn,J3,aP fH,<-aG,Og]
 simp_all
theorem Ib (c:UInt8) (l:B8):(Ac c l).1.length<=l.length/\(Ac c l).2.1.length<=l.length:=by grind[Ac,KM,List.dropWhile_sublist,List.length_drop]
def Yd (x c:UInt8):(AC x==AC c)=(x==c):=by
 by_cases h:x=c;·grind
 ·have: ¬x.toNat=c.toNat:=λe=>h (cn.1 e);have h2:(x==c)=false:=by grind
  rw[h2];simp only[AC,cj,dY];omega
def Qf{α:Type} (x:α) (l:List α):sub (x::l) 1 (((x::l).length:Nat):Int)=some l:=by have:=BA (x::l) 1 (x::l).length fH (aw _);simp_all
def ADe (c:UInt8) (k2:B8->Option B8): ∀(l:B8) (k:Nat),l.length<k->CQ N (AC c) k2 k l=k2 (l.dropWhile (· ==c))
 |[],k+1,_=>by rw[CQ,AA];rfl
 | x::l,k+1,h=>by
  simp only[ag]at h;rw[CQ,AA,ah (by simp<;>omega),show idx (x::l) 0=some x from rfl,aa,Yd,bI];try dsimp only
  cases x==c;·rfl
  ·rw[ah rfl,Qf,aa,ADe c k2 l k fG];rfl
def Ai7 (c:UInt8) (l:B8) (hc:c.toNat<128) (hN:l.length<N):F7 N l [c]=some (l.dropWhile (· ==c)):=by
 unfold F7;refine(Bj (a:=l==[]) λk=>?_).trans ?_;·cases l==[]<;>rfl
 try dsimp only
 by_cases h:l=[];·subst h;rfl
 ·rw[ae (by simpa using h)];have:(AC c<128):=by simp only[AC];omega
  refine(Bj (a:=true) λk=>?_).trans ?_;·rw[ah (by rfl),show idx [c] 0=some c from rfl,aa,aA this]
  try dsimp only
  rw[ah rfl,show idx [c] 0=some c from rfl,aa];unfold strings_trimLeftByte;rw[AA,ADe c _ l N hN];rfl
def Oe (p:UInt8->Bool) (l:B8):B8:=(l.reverse.dropWhile p).reverse
def WV (p:UInt8->Bool) (l:B8) (x:UInt8):Oe p (l++[x])=if p x=true then Oe p l else l++[x]:=by unfold Oe;rw[List.reverse_append,List.reverse_cons,List.reverse_nil,aT,cL,bI];split<;>simp
def ABj (p:UInt8->Bool) (l:B8):(Oe p l).length<=l.length:=by grind[Oe,List.dropWhile_sublist]
def AQb{α:Type} (l:List α) (x:α) (hb:l.length<=2^60):sub (l++[x]) 0 (wr .i64 ((((l++[x]).length:Nat):Int)-1))=some l:=by rw[AO (by grind),show(((l++[x]).length:Nat):Int)-1=(l.length:Int) by simp,show(0:Int)=((0:Nat):Int)from rfl,BA _ 0 l.length fG fH];simp
def AQH{α:Type} (l:List α) (x:α) (hb:l.length<=2^60):idx (l++[x]) (wr .i64 ((((l++[x]).length:Nat):Int)-1))=some x:=by rw[AO (by grind),show(((l++[x]).length:Nat):Int)-1=(l.length:Int) by simp,Ji];simp
def ACX (c:UInt8) (k2:B8->Option B8): ∀(n:Nat) (l:B8),l.length=n->n<=2^60->∀k:Nat,n<k->Bt N (AC c) k2 k l=k2 (Oe (· ==c) l)
 | 0,l,hl,hb,k+1,_=>by have:l=[]:=cC.1 hl;subst this;rw[Bt,AA];rfl
 | n+1,l,hl,hb,k+1,h=>by
  obtain⟨l',x,rfl⟩: ∃l' x,l=l'++[x]:=by
   have hne:l≠ []:=λe=>by subst e;simp at hl
   exact⟨l.dropLast,l.getLast hne,(du hne).symm⟩
  have hl':l'.length=n:=by simpa using hl
  rw[Bt,AA,ah (by simp<;>omega),AQH l' x fG,aa,Yd,WV];try dsimp only
  cases x==c;·rfl
  ·rw[ah rfl,ah rfl,AQb l' x fG,aa,ACX c k2 n l' hl' fG k fG]
def AfU (c:UInt8) (l:B8) (hc:c.toNat<128) (hb:l.length<=2^60) (hN:l.length<N):Js N l [c]=some (Oe (· ==c) l):=by
 unfold Js;refine(Bj (a:=l==[]) λk=>?_).trans ?_;·cases l==[]<;>rfl
 try dsimp only
 by_cases h:l=[];·subst h;rfl
 ·rw[ae (by simpa using h)];have:(AC c<128):=by simp only[AC];omega
  refine(Bj (a:=true) λk=>?_).trans ?_;·rw[ah (by rfl),show idx [c] 0=some c from rfl,aa,aA this]
  try dsimp only
  rw[ah rfl,show idx [c] 0=some c from rfl,aa];unfold strings_trimRightByte;rw[AA,ACX c _ _ l rfl hb N hN];rfl
def AGS (as:List Bool) (set:B8):Prop:=as.length=256/\ ∀c:UInt8,as[c.toNat]?=some (set.contains c)
def AOR (k2:List Bool->Option (List Bool×Bool)) (done:B8): ∀(l:B8) (done:B8) (bn:List Bool),(∀c∈l,c.toNat<128)->AGS bn done->∃as,CS N k2 l bn=k2 as/\AGS as (done++l)
 |[],done,bn,hl,hs=>⟨bn,by rw[CS],by grind⟩
 | x::l,done,bn,hl,hs=>by
  have hx:=hl x fH;have c1: ¬AC x>=128:=by grind[AC]
  obtain⟨as,h1,h2⟩:=AOR k2 done l (done++[x]) (bn.set x.toNat true) (λc hc=>hl c (by grind)) ⟨by simp[hs.1],λc=>by
   rw[dy];by_cases e:x.toNat=c.toNat;·have:x=c:=cn.1 e;subst this;rw[ah rfl,ah (by rw[hs.1];omega)];simp
   ·rw[ae e,hs.2 c];grind⟩;refine⟨as,?_,by grind⟩;rw[CS,ae (by grind),AJ (by grind[AC]),AJ (by rw[hs.1];omega)];exact h1
def APj (set:B8) (hl: ∀c∈set,c.toNat<128) (hb:set.length<=1000): ∃as,strings_makeASCIISet N set=some (as,true)/\AGS as set:=by unfold strings_makeASCIISet;rw[AA,AJ (by grind[AL])];obtain⟨as,h1,h2⟩:=AOR (N:=N) (λj1=>grd (j1.length=256) (some (j1,true))) [] set [] (AKq 256) hl ⟨YG,λc=>by have:=c.toNat_lt;rw[AKq,List.getElem?_replicate,ah fG];rfl⟩;exact⟨as,by rw[h1,AJ h2.1],h2⟩
def AAj{as:List Bool}{set:B8} (h:AGS as set) (c:UInt8):C8 N as (AC c)=some (set.contains c,as):=by have:=c.toNat_lt;unfold C8;rw[AJ (by grind[AC]),JC,Ji,h.2 c];rfl
def ACH (k2:B8×List Bool->Option (B8×List Bool)){as:List Bool}{set:B8} (hs:AGS as set): ∀(l:B8) (k:Nat),l.length<k->Br N k2 k l as=k2 (l.dropWhile set.contains,as)
 |[],k+1,_=>by rw[Br];rfl
 | x::l,k+1,h=>by
  simp only[ag]at h;rw[Br,ah (by simp<;>omega),show idx (x::l) 0=some x from rfl,aa,AAj hs,aa,bI];try dsimp only
  cases set.contains x;·rfl
  ·rw[ah rfl,Qf,aa,ACH k2 hs l k fG];rfl
def AcS (l set:B8) (h2:2<=set.length) (hs:set.length<=1000) (hl: ∀c∈set,c.toNat<128) (hN:l.length<N):F7 N l set=some (l.dropWhile set.contains):=by
 unfold F7;have hne:set≠ []:=λe=>by subst e;simp at h2
 refine(Bj (a:=l==[]) λk=>?_).trans ?_
 ·have:(set==[])=false:=by simpa using hne
  rw[this];cases l==[]<;>rfl
 try dsimp only
 by_cases h:l=[];·subst h;rfl
 ·rw[ae (by simpa using h)];refine(Bj (a:=false) λk=>?_).trans ?_;·rw[ae (by simp<;>omega)]
  try dsimp only
  obtain⟨as,e1,e2⟩:=APj (N:=N) set hl hs;rw[ae fI,e1,aa,AJ YG,AJ e2.1,ah rfl];unfold strings_trimLeftASCII;rw[AA,ACH _ e2 l N hN];rfl
def Anl (c:UInt8) (l:B8):strings_HasPrefix N l [c]=some (Em [c] l):=by unfold strings_HasPrefix Ba;cases l with |nil=>rfl| cons x l=>rw[ah (by grind),show sub (x::l) 0 ((([c]:B8).length:Nat):Int)=some [x] by rw[show(0:Int)=((0:Nat):Int)from rfl,BA _ 0 _ fG fH];rfl,aa,aa];unfold Em;by_cases h:x=c<;>simp_all
def AEa (n:Nat):Nat:=if 65<=n/\n<=90 then n+32 else n
def CX (c:UInt8):UInt8:=UInt8.ofNat (AEa c.toNat)
def AN6 (l:B8) (hb:l.length<=2^60) (k2:List Int->Option B8): ∀(t pre:B8),l=pre++t->Gf N l k2 t (pre.length:Int) (List.map AC (pre.map CX)++List.map AC t)=k2 (List.map AC (l.map CX))
 |[],pre,h=>by grind[Gf]
 | c::t,pre,h=>by
  have hlen:pre.length<l.length:=by grind
  have hc:=c.toNat_lt;rw[Gf];refine(Bj (a:=List.map AC (pre.map CX)++(AC (CX c)::List.map AC t)) λk7=>?_).trans ?_
  ·rw [AJ fG,aE];have hi:idx (List.map AC (pre.map CX)++AC c::List.map AC t) (pre.length:Int)=some (AC c):=by grind[AKT,List.map,AC,CX]
   rw[hi,aa];refine(Bj (a:=decide (65<=c.toNat/\c.toNat<=90)) λk12=>?_).trans ?_
   ·by_cases h1:65<=c.toNat
    ·have:(65:Int)<=AC c:=by grind[AC]
     rw[ah (aA this)];congr 1;simp only[AC,h1,cS];congr 1;simp only[dS];omega
    ·have: ¬(65:Int)<=AC c:=by grind[AC]
     rw[ae (by grind),aO (λh=>h1 h.1)]
   try dsimp only
   by_cases h1:65<=c.toNat/\c.toNat<=90
   ·rw[ah (aA h1),AJ (by simp<;>omega)];have e:CX c=UInt8.ofNat (c.toNat+32):=by simp_all[CX,AEa]
    have e2:AC (CX c)=wr .u8 (AC c+32):=by grind[AGM,AC,toNat_ofNat]
    simp_all
   ·rw[ae (by grind)];have e:CX c=c:=by unfold CX AEa;rw[ae h1];simp
    rw[e]
  ·try dsimp only
   have:=AN6 l hb k2 t (pre++[c]) (by grind);simp_all
def lower_eq (l:B8) (hb:l.length<=2^60):IP N l=some (l.map CX):=by unfold IP;rw[AA,AJ (by grind[AL])];have:=AN6 (N:=N) l hb (λj1=>grd (l.length<=j1.length/\AL l.length) (some (List.map Ha (List.take l.length j1)))) l [] rfl;simp only[bU,aT,ap]at this;rw[show(0:Int)=((0:Nat):Int)from rfl,this,AJ (by grind[AL]),aP fH];congr 1;induction l with |nil=>rfl|cons c l ih=>simp[JW]
end
end Go.VM
namespace Go.VM
section
variable{N:Nat}
def AAa: ∀l:B8,List.map Ha (List.map AC l)=l |[]=>rfl|c::l=>by rw[aE,aE,JW,AAa l]
def AB4:Nat->Nat->B8->B8 |0,_,acc=>acc|k+1,n,acc=>if n / 10=0 then UInt8.ofNat (48+n % 10)::acc else AB4 k (n / 10) (UInt8.ofNat (48+n % 10)::acc)
def fmtS (n:Nat):B8:=AB4 20 n []
theorem APG: ∀(k n:Nat) (acc:B8),(AB4 k n acc).length<=acc.length+k
 |0,n,acc=>by simp[AB4]
 | k+1,n,acc=>by
  rw[AB4];split;·simp<;>omega
  ·have:=APG k (n / 10) (UInt8.ofNat (48+n % 10)::acc);grind
theorem PM (n:Nat):(fmtS n).length<=20:=by grind[APG,fmtS]
def Arl (n:Nat):wr .u64 ((n:Int).tdiv 10)=if n<2^64 then((n / 10:Nat):Int)else wr .u64 ((n:Int).tdiv 10):=by grind[Int.tdiv_eq_ediv_of_nonneg,IC]
def Aoq{n:Nat} (h:n<2^64):wr .u64 ((n:Int).tdiv 10)=((n / 10:Nat):Int):=by rw[Arl,ah h]
def AoQ{n:Nat}:wr .u64 (48+(n:Int).tmod 10)=((48+n % 10:Nat):Int):=by grind[Int.tmod_eq_emod_of_nonneg,IC]
theorem XW: ∀(k n:Nat) (acc:B8),n<10^k->n<2^64->acc.length+k<=1000->∀m,k<=m->0<k->Eu N m (n:Int) acc=some (AB4 k n acc)
 |0,n,acc,h,h2,ha,m,hm,hk=>by omega
 | k+1,n,acc,h,h2,ha,m+1,hm,hk=>by
  rw[Eu,Aoq h2,AoQ,AB4];rw[AJ (by grind[AL])];have e:(List.map Ha [wr .u8 ((48+n % 10:Nat):Int)]++acc)=UInt8.ofNat (48+n % 10)::acc:=by rw[Pn,bo (show 48+n % 10<256 by omega)];rfl
  rw[e];by_cases c:n / 10=0;·rw[ah (by grind),ah c]
  ·have c': ¬((((n / 10:Nat):Int))==0)=true:=by grind
   rw[ae c',ae c];have hk2:0<k:=by grind
   exact XW k (n / 10) _ fG fG (by grind) m fG hk2
def TJ (n:Nat) (h:n<2^64) (hN:20<=N):H7 N (n:Int)=some (fmtS n):=by grind[H7,fmtS,XW]
def AR2 (a:Nat) (x:Int) (acc:List Int):(List.replicate (a+1) 0++acc).set a x=List.replicate a 0++x::acc:=by rw[List.replicate_succ',aF];simp
def YB (k2:Int×Int×List Int->Option B8) (R:B8->Option B8) (hk: ∀(n a:Nat) (acc:B8),n<10->a<=19->acc.length+a=19->k2 ((n:Int),(a:Int),List.replicate (a+1) 0++acc.map AC)=R (UInt8.ofNat (48+n)::acc)):∀(j n a:Nat) (acc:B8),n<10^(j+1)->n<2^64->j<=a->a<=19->acc.length+a=19->∀m,j<m->F6 N k2 m (n:Int) (a:Int) (List.replicate (a+1) 0++acc.map AC)=R (AB4 (j+1) n acc)
 |j,n,a,acc,h,h2,hj,ha,hl,0,hm=>by omega
 | j,n,a,acc,h,h2,hj,ha,hl,m+1,hm=>by
  rw[F6,AB4];by_cases c:n / 10=0;·have c': ¬(n:Int)>=10:=fG;rw[ae (by grind),ah c,bo fG];grind
  ·have c':(n:Int)>=10:=fG;rw[ah (aA c'),ae c];obtain⟨j,rfl⟩: ∃i,j=i+1:=⟨j-1,by grind⟩;obtain⟨a,rfl⟩: ∃i,a=i+1:=⟨a-1,fG⟩;rw[AJ fG,AJ (by simp<;>omega),Aoq h2,AoQ,Pn,bo (show 48+n % 10<256 by omega),AO fG];rw[show((a+1:Nat):Int)-1=(a:Int) by simp,bc,AR2];have e:List.replicate (a+1) 0++((48+n % 10:Nat):Int)::List.map AC acc=List.replicate (a+1) 0++List.map AC (UInt8.ofNat (48+n % 10)::acc):=by rw[aE,JC,toNat_ofNat fG]
   rw[e];exact YB k2 R hk j (n / 10) a _ fG fG fG fG (by grind) m fG
def TC (n:Nat) (h:n<2^64) (hN:20<=N):GL N (n:Int)=some (fmtS n):=by
 unfold GL fmtS;rw[AA];refine YB (N:=N) _ some (λn a acc hn ha hl=>?_) 19 n 19 [] fG h fG fG rfl N fG;have w:wr .u8 (wr .u64 (48+(n:Int)))=((48+n:Nat):Int):=by rw[IC fG,show(48:Int)+(n:Int)=((48+n:Nat):Int) by simp,Pn,bo fG]
 simp only[bc,w];rw[AR2];rw[AJ fG,AJ (by simp<;>omega),AJ fG,AJ (by grind[AL])];congr 1;rw[cr,bW fH,dw,dF,ba,aT,aP (by grind),aE,AAa];rfl
end
end Go.VM
namespace Go.VM
structure NumP (s sg W F FR P EX:B8):Prop where
  eq:s=sg++(W++(FR++EX))
  sg:sg=[]\/sg=[45]
  Wd:W.all DC=true
  Wn:W≠ []
  fr:(FR=[]/\F=[])\/FR=46::F
  Fd:F.all DC=true
  ex:(EX=[]/\P=[])\/EX=101::P\/EX=69::P
  pw:P=[]\/ ∃sn D,P=sn++D/\(sn=[]\/sn=[43]\/sn=[45])/\D≠ []/\D.all DC=true
theorem ABX (t:B8):(t.take (Ia t)).all DC=true:=by unfold Ia;rw[J3];simp
def ADM{k:UInt8}{t:B8} (h:Em [k] t=true): ∃r,t=k::r:=by cases t with |nil=>cases h| cons c r=>grind[Em]
theorem ARY{a b:UInt8}{t:B8} (h:Em [a,b] t=true): ∃r,t=a::r\/t=b::r:=by
 cases t with
 |nil=>cases h
 | cons c r=>
  have:c=a\/c=b:=by grind[Em]
  rcases this with rfl|rfl;·exact⟨r,.inl rfl⟩
  ·exact⟨r,.inr rfl⟩
def AcY (t:B8):t.take (Aa t)=[]\/t.take (Aa t)=[45]:=by
 unfold Aa;by_cases h:Em [45] t=true;·rw[ah h];obtain⟨r,rfl⟩:=ADM h;simp
 simp_all
def Ai2 (t:B8) (h:Dm t≠0):(t.take (Dm t)).all DC=true/\t.take (Dm t)≠ []:=by
 have hle:=ABO t;refine⟨?_,λe=>?_⟩
 ·unfold Dm;by_cases h:Em [48] t=true;·rw[ah h];obtain⟨r,rfl⟩:=ADM h;rfl
  ·rw[ae h];exact ABX t
 simp_all
def AbM (t:B8): ∃F,((t.take (Fu t)=[]/\F=[])\/t.take (Fu t)=46::F)/\F.all DC=true:=by
 unfold Fu;by_cases h:Em [46] t=true/\0<Ia (t.drop 1);·rw[ah h];obtain⟨r,rfl⟩:=ADM h.1;grind[Ia,ABX,Nat.add_comm]
 simp_all
theorem AfI (t:B8): ∃P,((t.take (Oc t)=[]/\P=[])\/t.take (Oc t)=101::P\/t.take (Oc t)=69::P)/\(P=[]\/∃sn D,P=sn++D/\(sn=[]\/sn=[43]\/sn=[45])/\D≠ []/\D.all DC=true):=by
 unfold Oc;by_cases h:Em [101,69] t=true/\0<Ia (t.drop (1+Mi t))
 ·rw [ah h];have key: ∀(c:UInt8) (r:B8),t=c::r->∃P,t.take (1+Mi t+Ia (t.drop (1+Mi t)))=c::P/\(P=[]\/∃sn D,P=sn++D/\(sn=[]\/sn=[43]\/sn=[45])/\D≠ []/\D.all DC=true):=by
   rintro c r rfl;have hr:=h.2;have hes:Mi (c::r)=if Em [43,45] r=true then 1 else 0:=rfl;by_cases k:Em [43,45] r=true
   ·rw[ah k]at hes;rw[hes]at hr⊢;obtain⟨d,q,rfl,hd⟩: ∃d q,r=d::q/\(d=43\/d=45):=by
     obtain⟨q,e|e⟩:=ARY k;·exact⟨_,q,e,.inl rfl⟩
     ·exact⟨_,q,e,.inr rfl⟩
    have e:(c::d::q).drop (1+1)=q:=rfl;rw[e]at hr⊢;refine⟨d::q.take (Ia q),?_,.inr ⟨[d],q.take (Ia q),rfl,?_,λe=>?_,ABX q⟩⟩;·grind
    ·simp_all
    ·have:=bg List.length e;grind[Sr,List.length_take,List.length_nil]
   ·rw[ae k]at hes;rw[hes]at hr⊢;have e:(c::r).drop (1+0)=r:=rfl;rw[e]at hr⊢;refine⟨r.take (Ia r),?_,.inr ⟨[],r.take (Ia r),rfl,.inl rfl,λe=>?_,ABX r⟩⟩;·grind
    ·have:=bg List.length e;grind[Sr,List.length_take,List.length_nil]
  grind[ARY]
 simp_all
def AqL (s:B8) (a b c:Nat):s=s.take a++((s.drop a).take b++((s.drop (a+b)).take c++s.drop (a+b+c))):=by grind[List.drop_drop,List.take_append_drop]
def Ac7{s:B8} (h0:s≠ []) (h:Fz s=s.length): ∃sg W F FR P EX,NumP s sg W F FR P EX:=by
 have hpos:s.length≠0:=λe=>h0 (cC.1 e);have hz:Dm (s.drop (Aa s))≠0:=by intro hz;simp_all[Fz]
 have hnum:Fz s=Aa s+Dm (s.drop (Aa s))+Fu (s.drop (Aa s+Dm (s.drop (Aa s))))+Oc (s.drop (Aa s+Dm (s.drop (Aa s))+Fu (s.drop (Aa s+Dm (s.drop (Aa s)))))):=by simp_all[Fz]
 obtain⟨w1,w2⟩:=Ai2 _ hz;obtain⟨F,f1,f2⟩:=AbM (s.drop (Aa s+Dm (s.drop (Aa s))));obtain⟨P,e1,e2⟩:=AfI (s.drop (Aa s+Dm (s.drop (Aa s))+Fu (s.drop (Aa s+Dm (s.drop (Aa s))))));refine⟨_,_,F,_,P,_,⟨?_,AcY s,w1,w2,f1,f2,e1,e2⟩⟩;rw[aP (l:=s.drop (Aa s+Dm (s.drop (Aa s))+Fu (s.drop (Aa s+Dm (s.drop (Aa s)))))) (by grind)];exact AqL _ _ _ _
def ABU{k:UInt8} (hk:DC k=false): ∀ {l:B8},l.all DC=true->l.contains k=false |[],_=>rfl| c::l,h=>by simp only[aK,az]at h;rw[bh,ABU hk h.2,cx];grind
end Go.VM
namespace Go.VM
section
variable{N:Nat}
def JR:Nat->B8->Nat |n,[]=>n|n,c::l=>JR (n * 10+Ev c.toNat) l
theorem Uu: ∀(l:B8) (n:Nat),n<=JR n l |[],n=>by simp_all[JR]| c::l,n=>by have:=Uu l (n * 10+Ev c.toNat);grind[JR]
theorem RD{c:UInt8} (h:DC c=true):48<=c.toNat/\c.toNat<=57:=by grind[DC]
def VA{c:UInt8} (h:DC c=true):KC c=true/\Ev c.toNat=c.toNat-48:=by have:=RD h;simp_all[KC,U3,Ev]
def AoW (k2:Unit->Option (Int×Int)): ∀l:B8,BH N k2 l=if l.all DC=true then k2 ()else some (0,1) |[]=>by grind[BH]| c::l=>by rw[BH,RV,aa,AoW k2 l];cases h:DC c<;>simp[h]
def Aop{m:Nat} (hm:m<=18446744073709551615) (k9:Int->Option (Int×Int)): ∀(l:B8) (n:Nat),l.all DC=true->n<=m->BG N 10 (m:Int) k9 l (n:Int)=if JR n l<=m then k9 ((JR n l:Nat):Int)else some (0,4)
 |[],n,_,hn=>by simp_all[BG,JR]
 | c::l,n,h,hn=>by
  simp only[aK,az]at h;have hd:Ev c.toNat<=9:=by have:=RD h.1;rw[(VA h.1).2];omega
  obtain⟨hx,hv⟩:=VA h.1;have hge:=Uu l (n * 10+Ev c.toNat);rw[BG,AWt c hx,aa,AA,AJ fI];have w3:wr .u64 (18446744073709551615-((Ev c.toNat:Nat):Int))=18446744073709551615-((Ev c.toNat:Nat):Int):=IC fG;rw[w3,cc fG,IC (n:=(18446744073709551615-((Ev c.toNat:Nat):Int)) / 10) fG,JR];by_cases c1:(n:Int)>(18446744073709551615-((Ev c.toNat:Nat):Int)) / 10;·rw[ah (aA c1),ae fG];rfl
  have w1:wr .u64 ((n:Int) * 10)=((n * 10:Nat):Int):=by grind[IC]
  have w2:wr .u64 (((n * 10:Nat):Int)+((Ev c.toNat:Nat):Int))=((n * 10+Ev c.toNat:Nat):Int):=by grind[IC]
  rw[ae (by grind),w1,w2];by_cases c2:n * 10+Ev c.toNat<=m;·have c3: ¬(((n * 10+Ev c.toNat:Nat):Int)>(m:Int)):=fG;rw[aO c3];simp only[aj,aq];exact Aop hm k9 l _ h.2 c2
  ·have c3:(((n * 10+Ev c.toNat:Nat):Int)>(m:Int)):=fG;rw[aA c3,ae fG];rfl
def ZU{m:Nat} (hm:m<=18446744073709551615) (l:B8) (hb:l.length<=2^60):Kv N l (m:Int)=some (if l=[]then(0,3)else if l.all DC=true then(if JR 0 l<=m then(((JR 0 l:Nat):Int),0)else(0,4))else(0,1)):=by
 unfold Kv GD;by_cases h:l=[];·grind
 ·rw[ae (by grind),ae h,AA,AJ (by grind[AL]),AoW];by_cases h1:l.all DC=true;·rw[ah h1,ah h1,AA,AJ (by grind[AL]),show(0:Int)=((0:Nat):Int)from rfl,Aop hm _ l 0 h1 fG];split<;>rfl
  ·rw[ae h1,ae h1];rfl
def RB (B:Nat) (P:B8):Int:=if Em [45] P=true then-((min (JR 0 (P.dropWhile ([43,45]:B8).contains)) B:Nat):Int)else((min (JR 0 (P.dropWhile ([43,45]:B8).contains)) B:Nat):Int)
def AYI (P:B8):Prop:=P=[]\/ ∃sn D,P=sn++D/\(sn=[]\/sn=[43]\/sn=[45])/\D≠ []/\D.all DC=true
theorem AX9{c:UInt8} (h:DC c=true):([43,45]:B8).contains c=false:=by have:=BJ (f:=λn=>if(decide (48<=n)&&decide (n<=57))=true then([43,45]:B8).contains (UInt8.ofNat n)else false) (g:=λ_=>false) (by kernel_rfl) c;simp only[bv,show(decide (48<=c.toNat)&&decide (c.toNat<=57))=true from h,av]at this;omega
def Yn{D:B8} (h:D.all DC=true):D.dropWhile ([43,45]:B8).contains=D:=by cases D with |nil=>rfl| cons c D=>simp only[aK,az]at h;grind[List.dropWhile_cons,AX9]
def AFy{P:B8} (h:AYI P):(P.dropWhile ([43,45]:B8).contains).all DC=true/\(P.dropWhile ([43,45]:B8).contains=[]->P=[]):=by
 rcases h with rfl|⟨sn,D,rfl,hs,hD,hd⟩;·simp
 ·have:(sn++D).dropWhile ([43,45]:B8).contains=D:=by
   rcases hs with rfl|rfl|rfl;·exact Yn hd
   ·show(43::D).dropWhile _=D;rw[bI,show([43,45]:B8).contains 43=true from rfl,ah rfl];exact Yn hd
   ·show(45::D).dropWhile _=D;rw[bI,show([43,45]:B8).contains 45=true from rfl,ah rfl];exact Yn hd
  grind
def Ak5{P:B8} (h:AYI P) (hb:P.length<=2^60) (hN:P.length<N):Lm N P=some (RB (2^40) P):=by
 obtain⟨h1,h2⟩:=AFy h;unfold Lm;rw[AcS P [43,45] fH fH fI hN,aa];have hl:=(bR ([43,45]:B8).contains (l:=P)).length_le;unfold RB;generalize hD:P.dropWhile ([43,45]:B8).contains=D at *;rw[show(1099511627776:Int)=((2^40:Nat):Int)from rfl,ZU fI D fG,aa];by_cases he:D=[];·rw[ah he];have hP:=h2 he;subst hP;subst he;rfl
 ·rw[ae he,ah h1];have key: ∀v:Nat,v<=2^40->((strings_HasPrefix N P [45]).bind λy9=>if y9=true then some (wr .i64 (0-wr .i64 (v:Int)))else some (wr .i64 (v:Int)))=some (if Em [45] P=true then-(v:Int)else(v:Int)):=by intro v hv;rw[Anl,aa,AO (n:=(v:Int)) fG,AO (n:=0-(v:Int)) fG];split<;>simp
  rw[AA];by_cases hv:JR 0 D<=2^40;·rw[ah hv,cR hv];exact key _ hv
  ·rw[ae hv,eX fG];exact key _ (aw _)
def ZJ (k19:Int->Option Int): ∀(l:B8) (n:Nat),l.all DC=true->n<=2^30->Cm N k19 l (n:Int)=k19 ((min (JR n l) (2^30):Nat):Int)
 |[],n,_,hn=>by grind[Cm,JR]
 | c::l,n,h,hn=>by
  simp only[aK,az]at h;have hd:=RD h.1;rw[Cm,JR];have w0:wr .u8 (AC c-48)=((Ev c.toNat:Nat):Int):=by rw[AGM (by grind[AC])];rw[(VA h.1).2];grind[AC]
  have hd9:Ev c.toNat<=9:=by rw[(VA h.1).2];omega
  rw[w0,AO (n:=(n:Int) * 10) fG,AO (n:=((Ev c.toNat:Nat):Int)) fG,AO fG];have e:(n:Int) * 10+((Ev c.toNat:Nat):Int)=((n * 10+Ev c.toNat:Nat):Int):=fH;rw[e];have hge:=Uu l (n * 10+Ev c.toNat);by_cases c1:(1073741824:Int)<((n * 10+Ev c.toNat:Nat):Int);·rw[ah c1,show(1073741824:Int)=((2^30:Nat):Int)from rfl,ZJ k19 l (2^30) h.2 (aw _)];grind[Uu,Nat.min_eq_right]
  ·rw[ae c1,ZJ k19 l _ h.2 fG]
def AlY{P:B8} (h:AYI P) (hb:P.length<=2^60):JF N P=some (RB (2^30) P):=by
 obtain⟨h1,h2⟩:=AFy h;unfold JF;refine(Bj (a:=Em [45] P) λk2=>?_).trans ?_;·cases P with |nil=>rfl|cons c P=>rw[ae fH,show idx (c::P) 0=some c from rfl,aa,AdB];rfl
 try dsimp only
 refine(Bj (a:=P.dropWhile ([43,45]:B8).contains) λk7=>(Bj (a:=Em [43,45] P) λk11=>?_).trans ?_).trans ?_;·cases P with |nil=>rfl| cons c P=>show(if(c::P==([]:B8))=true then k11 false else (idx (c::P) 0).bind λx14=>(FU N (AC x14) [43,45]).bind λy15=>k11 y15)=_;rw[ae fH,show idx (c::P) 0=some c from rfl,aa,Po _ _ fI,aa];rfl
 ·try dsimp only
  rcases h with rfl|⟨sn,D,rfl,hs,hD,hd⟩;·rfl
  ·have hdd:=Yn hd;rcases hs with rfl|rfl|rfl;·cases D with |nil=>grind| cons c D=>simp only[aK,az]at hd;rw[aT,hdd,ae (by show¬([43,45]:B8).contains c=true;grind[AX9])]
   ·have e:([43]++D).dropWhile ([43,45]:B8).contains=D:=by simp_all
    rw[e,ah (by rfl)];exact(bg (λx=>Option.bind x k7) (Qf 43 D)).trans rfl
   ·have e:([45]++D).dropWhile ([43,45]:B8).contains=D:=by simp_all
    rw[e,ah (by rfl)];exact(bg (λx=>Option.bind x k7) (Qf 45 D)).trans rfl
 try dsimp only
 have hl:=(bR ([43,45]:B8).contains (l:=P)).length_le;unfold RB;generalize hD:P.dropWhile ([43,45]:B8).contains=D at *;rw[AA,AJ (by grind[AL]),show(0:Int)=((0:Nat):Int)from rfl,ZJ _ D 0 h1 fG];have:min (JR 0 D) (2^30)<=2^30:=ed _ _;rw[AO fG];split<;>simp
def ApD (y:Int):B8:=if y<0 then [101,45]++fmtS (-y).toNat else if y>0 then [101]++fmtS y.toNat else []
def QT (sg m:B8) (x:Int):B8×Int:=
  let m1:=m.dropWhile (· ==48)
  let sh:=Oe (· ==48) m1
  if sh=[]then([48],0)
  else if sh.length>40\/x+m1.length-sh.length< -400\/x+m1.length-sh.length>400 then([],144)
  else(sg++sh++ApD (x+m1.length-sh.length),0)
def ABb{y:Int} (h:0<=y) (h2:y<=2^60):wr .u64 y=((y.toNat:Nat):Int):=by grind[IC]
def AKj{l:B8} (h:l.all DC=true):l.map CX=l:=by induction l with |nil=>rfl| cons c l ih=>simp only[aK,az]at h;have:=RD h.1;rw[aE,ih h.2];congr 1;unfold CX AEa;rw[ae fG];simp
def AMF{c:UInt8}{a b:B8} (h:a.contains c=false):Ac c (a++c::b)=(a,b,true):=by
 have h1: ∀a:B8,a.contains c=false->(a++c::b).takeWhile (· !=c)=a/\(a++c::b).dropWhile (· !=c)=c::b:=by
  intro a;induction a with
  |nil=>simp
  | cons x a ih=>
   intro h;rw[bh,dD]at h;have hx:(x !=c)=true:=by grind
   simp_all
 simp_all[Ac]
def AXF{c:UInt8}{a:B8} (h:a.contains c=false):Ac c a=(a,[],false):=by simp_all[Ac]
def ALc{c:UInt8}{a b:B8}:(a++b).contains c=(a.contains c||b.contains c):=by simp
def AXs{P:B8} (h:AYI P):P.map CX=P:=by
 rcases h with rfl|⟨sn,D,rfl,hs,hD,hd⟩;·rfl
 ·rw[cf,AKj hd];rcases hs with rfl|rfl|rfl<;>rfl
section
variable{s sg W F FR P EX:B8}
def NumP.len (h:NumP s sg W F FR P EX):s.length=sg.length+(W.length+(FR.length+EX.length))/\F.length<=FR.length/\P.length<=EX.length:=by
 refine⟨by rw[h.eq];simp,?_,?_⟩;·rcases h.fr with⟨e1,e2⟩|e<;>grind
 ·rcases h.ex with⟨e1,e2⟩|e|e<;>grind
def NumP.not_e (h:NumP s sg W F FR P EX) (k:UInt8) (hk:DC k=false) (h46:k≠46):(W++FR).contains k=false:=by
 rw[ALc,ABU hk h.Wd,be];rcases h.fr with⟨e1,e2⟩|e;·grind
 ·rw[e,bh,ABU hk h.Fd,cx];grind
def Akj (h:NumP s sg W F FR P EX) (hn:Fz s=s.length) (hb:s.length<=2^48) (hN:s.length+30<N):EE N s=some (QT sg (W++F) (RB (2^40) P-F.length)):=by
 obtain⟨l1,l2,l3⟩:=h.len;have hne:s≠ []:=by rw[h.eq];have:=h.Wn;intro e;have:=dq.1 e;have:=dq.1 this.2;exact h.Wn this.1
 have hpos:s.length≠0:=λe=>hne (cC.1 e);unfold EE;have hp:=ADG (N:=N) (l:=s) (t:=s) (i:=0) fH fG fG;rw[ae (by rw[hn];exact hpos)]at hp;have hp':Df N (TokenReader.mk s 0)=some (s.take (Fz s),true,(⟨s,((0+Fz s:Nat):Int)⟩:TokenReader)):=hp;rw[hp',aa];refine(Bj (a:=false) λk4=>?_).trans ?_;·rw[ah rfl,hn,aP (aw _)];simp
 try dsimp only
 rw[ae fI];have hhead: ∀k7:B8×B8->Option (B8×Int),((idx s 0).bind λx11=>if(AC x11==45)=true then (sub s 1 (s.length:Int)).bind λx12=>k7 ([45],x12)else k7 ([],s))=k7 (sg,W++(FR++EX)):=by
  intro k7;rcases h.sg with e|e
  ·have hs:s=W++(FR++EX):=by rw[h.eq,e];rfl
   cases hW:W with
   |nil=>exact absurd hW h.Wn
   | cons c W'=>
    have hc:DC c=true:=by have:=h.Wd;rw[hW,aK,az]at this;exact this.1
    have hs2:s=c::(W'++(FR++EX)):=by rw[hs,hW];rfl
    rw[hs2,show idx (c::(W'++(FR++EX))) 0=some c from rfl,aa,AdB,We];have:=RD hc;have: ¬c.toNat=(45:UInt8).toNat:=by show¬c.toNat=45;omega
    rw[ae (by simpa using this),e];rfl
  ·have hs2:s=45::(W++(FR++EX)):=by rw[h.eq,e];rfl
   rw[hs2,show idx (45::(W++(FR++EX))) 0=some 45 from rfl,aa,ah (by rfl),Qf,aa,e]
 refine(Bj (a:=(sg,W++(FR++EX))) λk8=>hhead k8).trans ?_;try dsimp only
 rw[lower_eq _ fJ,aa];have hWF:(W++FR).map CX=W++FR:=by
  rw[cf,AKj h.Wd];rcases h.fr with⟨e1,e2⟩|e;·rw[e1];rfl
  ·rw[e,aE,AKj h.Fd];rfl
 have hlow:Ac 101 ((W++(FR++EX)).map CX)=(W++FR,P,(Ac 101 ((W++(FR++EX)).map CX)).2.2):=by
  rw[<-aF,cf,hWF];have hc:=h.not_e 101 fI fI;rcases h.ex with⟨e1,e2⟩|e|e;·rw[e1,e2,bU,bQ,AXF hc]
  ·rw[e,aE,AXs h.pw,show CX 101=101 from rfl,AMF hc]
  ·rw[e,aE,AXs h.pw,show CX 69=101 from rfl,AMF hc]
 rw[Oo 101 _ fJ,aa,hlow];try dsimp only
 have hcut2:Ac 46 (W++FR)=(W,F,(Ac 46 (W++FR)).2.2):=by
  have hc:=ABU (k:=46) fI h.Wd;rcases h.fr with⟨e1,e2⟩|e;·rw[e1,e2,bQ,AXF hc]
  ·rw[e,AMF hc]
 rw[Oo 46 _ fJ,aa,hcut2];try dsimp only
 rw[AJ (by unfold AL;omega),Ai7 48 (W++F) fI fJ,aa];have hml:=(bR (λx:UInt8=>x==48) (l:=W++F)).length_le;rw[an]at hml;have htl:=ABj (λx:UInt8=>x==48) ((W++F).dropWhile (λx:UInt8=>x==48));rw[AfU 48 _ fI fG fG,aa];unfold QT;dsimp only;generalize hm1:(W++F).dropWhile (λx:UInt8=>x==48)=m1 at *;generalize hsh:Oe (λx:UInt8=>x==48) m1=sh at *;try dsimp only
 by_cases hz:sh=[];·rw[ah (by simpa using hz),ah hz]
 rw[ae (by simpa using hz),ae hz,Ak5 h.pw fG fG,aa];have hev: -(2^40:Int)<=RB (2^40) P/\RB (2^40) P<=(2^40:Int):=by unfold RB;have:min (JR 0 (P.dropWhile ([43,45]:B8).contains)) (2^40)<=2^40:=ed _ _;split<;>omega
 generalize RB (2^40) P=x at *;have hw:wr .i64 (wr .i64 (wr .i64 (x-(F.length:Int))+(m1.length:Int))-(sh.length:Int))=x-(F.length:Int)+(m1.length:Int)-(sh.length:Int):=by rw[AO (n:=x-(F.length:Int)) fG,AO (n:=x-(F.length:Int)+(m1.length:Int)) fG,AO fG]
 rw[hw];generalize hy:x-(F.length:Int)+(m1.length:Int)-(sh.length:Int)=y at *;have hsg:sg.length<=1:=by rcases h.sg with e|e<;>rw[e]<;>simp
 refine(Bj (a:=decide (sh.length>40\/y< -400\/y>400)) λk26=>?_).trans ?_
 ·by_cases c1:(sh.length:Int)>40;·rw[ah (aA c1),aA (.inl fG)]
  ·rw[ae (by simpa using c1)];by_cases c2:y< -400;·rw[ah (aA c2),aA (.inr (.inl c2))]
   ·rw[ae (by simpa using c2)];congr 1;simp only[dS,dc];omega
 try dsimp only
 by_cases hc:sh.length>40\/y< -400\/y>400;·rw[ah (aA hc),ah hc]
 rw[ae (by simpa using hc),ae hc];have hc': ¬(sh.length>40)/\¬y< -400/\¬y>400:=⟨λh=>hc (.inl h),λh=>hc (.inr (.inl h)),λh=>hc (.inr (.inr h))⟩;have hf:=PM;unfold ApD;by_cases c1:y<0;·rw[ah (aA c1),ah c1,AJ (by unfold AL;omega),AJ (by unfold AL;simp;omega),AO fG,ABb fG fG,TC _ fG fG,aa];have:=hf (0-y).toNat;have:=hf (-y).toNat;rw[AJ (by unfold AL;simp;omega),show(0-y).toNat=(-y).toNat by omega];simp
 ·rw[ae (by simpa using c1),ae c1];by_cases c2:y>0;·have:=hf y.toNat;rw[ah (aA c2),ah c2,AJ (by unfold AL;omega),AJ (by unfold AL;simp;omega),ABb fG fG,TC _ fG fG,aa,AJ (by unfold AL;simp;omega)];simp
  ·rw[ae (by simpa using c2),ae c2,AJ (by unfold AL;omega)];simp
end
end
end Go.VM
namespace Go.VM
section
variable{N:Nat}
def ADO (k2:Unit->Option Bool): ∀l:B8,BL N k2 l=if l.all DC=true then k2 ()else some false |[]=>by grind[BL]| c::l=>by rw[BL,RV,aa,ADO k2 l];cases h:DC c<;>simp[h]
def Tx (l:B8) (hb:l.length<=2^60):ML N l=some (!l.isEmpty&&l.all DC):=by unfold ML GV;cases l with |nil=>rfl| cons c l=>rw[ae fH,AA,BV fG,ADO];cases h:(c::l).all DC<;>simp
def Xt (k2:Unit->Option Bool): ∀l:B8,FW N k2 l=if l.all DC=true then k2 ()else some false |[]=>by grind[FW]| c::l=>by rw[FW,O1,aa,Xt k2 l];cases h:DC c<;>simp[h]
def ATa (l:B8) (hb:l.length<=2^60):OD N l=some (!l.isEmpty&&l.all DC):=by unfold OD;rw[AA,BV fG,Xt];cases l with |nil=>rfl|cons c l=>cases h:(c::l).all DC<;>simp
def Aog (k2:Unit->Option (Int×Int)): ∀l:B8,Co N 10 k2 l=if l.all DC=true then k2 ()else some (0,1) |[]=>by grind[Co]| c::l=>by rw[Co,AA,show((10:Int)==10)=true from rfl,show((10:Int)==16)=false from rfl,ah rfl,O1,aa,Aog k2 l];cases h:DC c<;>simp[h]
def Aor{m:Nat} (hm:m<=18446744073709551615) (hm9:9<=m) (k9:Int->Option (Int×Int)): ∀(l:B8) (n:Nat),l.all DC=true->n<=m->Bh N 10 (m:Int) k9 l (n:Int)=if JR n l<=m then k9 ((JR n l:Nat):Int)else some (0,4)
 |[],n,_,hn=>by simp_all[Bh,JR]
 | c::l,n,h,hn=>by
  simp only[aK,az]at h;have hr:=RD h.1;have hd:Ev c.toNat<=9:=by rw[(VA h.1).2];omega
  obtain⟨hx,hv⟩:=VA h.1;have c57: ¬(AC c>57):=by grind[JC]
  have hdv:wr .u64 (wr .u8 (AC c-48))=((Ev c.toNat:Nat):Int):=by grind[JC,AGM,IC]
  rw[Bh];dsimp only[AA];rw[ae (by grind),hdv,AJ fI,cc fG];have w3:wr .u64 ((m:Int)-((Ev c.toNat:Nat):Int))=(m:Int)-((Ev c.toNat:Nat):Int):=IC fG;have w4:wr .u64 ((m:Int) / 10)=(m:Int) / 10:=IC fG;rw[w3,w4,JR];have hge:=Uu l (n * 10+Ev c.toNat);by_cases c1:(n:Int)>(m:Int) / 10;·rw[ah (aA c1),ah rfl,ae fG]
  ·have w1:wr .u64 ((n:Int) * 10)=((n * 10:Nat):Int):=by grind[IC]
   rw[ae (by grind),w1];by_cases c2:((n * 10:Nat):Int)>(m:Int)-((Ev c.toNat:Nat):Int);·rw[ah (aA c2),ah rfl,ae fG]
   ·have w2:wr .u64 (((n * 10:Nat):Int)+((Ev c.toNat:Nat):Int))=((n * 10+Ev c.toNat:Nat):Int):=by grind[IC]
    rw[ae (by grind),ae (by grind),w2];exact Aor hm hm9 k9 l _ h.2 fG
def AM9 (m:Nat) (l:B8):Int×Int:=if l=[]then(0,3)else if l.all DC=true then(if JR 0 l<=m then(((JR 0 l:Nat):Int),0)else(0,4))else(0,1)
def ARe{m:Nat} (hm:m<=18446744073709551615) (hm9:9<=m) (l:B8) (hb:l.length<=2^60):Ju N l 10 (m:Int)=some (AM9 m l):=by
 unfold Ju AM9;by_cases h:l=[];·grind
 ·rw[ae (by grind),ae h,AA,BV fG,Aog];by_cases h1:l.all DC=true;·rw[ah h1,ah h1,AA,BV fG,show(0:Int)=((0:Nat):Int)from rfl,Aor hm hm9 _ l 0 h1 fG];split<;>rfl
  ·rw[ae h1,ae h1]
def Gh (m:Nat) (l:B8):Int×Int:=if l=[]then(0,3)else if l.all DC=true then(if 1<l.length/\l.head?=some 48 then(0,6)else if JR 0 l<=m then(((JR 0 l:Nat):Int),0)else(0,4))else(0,1)
def b48 (c:UInt8):(AC c==48)=decide (c=48):=by have:=BJ (f:=λn=>((n:Int)==48)) (g:=λn=>decide (UInt8.ofNat n=48)) (by kernel_rfl) c;simp only[bv]at this;exact this
def ACk (c:UInt8) (l:B8) (e:Int×Int):(if decide (((c::l).length:Int)>1)=true then (idx (c::l) 0).bind λx=>if(AC x==48)=true then(some (0,6):Option (Int×Int))else some (e.1,e.2)else if false=true then some (0,6)else some (e.1,e.2))=some (if 1<(c::l).length/\(c::l).head?=some 48 then(0,6)else e):=by
 by_cases hl:1<(c::l).length
 ·rw[ah (by simp only[au];omega),show idx (c::l) 0=some c from rfl,aa,b48];by_cases hc:c=48;·rw[aA hc,ah rfl,ah ⟨hl,by simp[hc]⟩]
  ·rw[aO hc,ae fI,ae (by simp[hc])]
 simp_all
def ADs{m:Nat} (hm:m<=18446744073709551615) (l:B8) (hb:l.length<=2^60):LZ N l (m:Int)=some (Gh m l):=by
 unfold LZ Gh;dsimp only[AA];rw[Tx l hb,aa,ZU hm l hb,aa];cases l with
 |nil=>rfl
 | cons c l=>
  simp only[reduceCtorEq,aq];obtain⟨b,h⟩: ∃b,(c::l).all DC=b:=⟨_,rfl⟩;rw[h];cases b;·simp
  ·rw[ah (by rfl),ah rfl,ah rfl];have hd: ∀e:Int×Int,(if decide (((c::l).length:Int)>1)=true then (idx (c::l) 0).bind λx=>if(AC x==48)=true then(some (0,6):Option (Int×Int))else some (e.1,e.2)else if false=true then some (0,6)else some (e.1,e.2))=some (if 1<(c::l).length/\(c::l).head?=some 48 then(0,6)else e):=ACk c l;simp_all
def ACZ{m:Nat} (hm:m<=18446744073709551615) (hm9:9<=m) (l:B8) (hb:l.length<=2^60):MP N l (m:Int)=some (Gh m l):=by
 have hp:=ARe (N:=N) hm hm9 l hb;unfold AM9 at hp;unfold MP Gh;rw[hp,aa];dsimp only[AA];cases l with
 |nil=>rfl
 | cons c l=>
  simp only[reduceCtorEq,aq];obtain⟨b,h⟩: ∃b,(c::l).all DC=b:=⟨_,rfl⟩;rw[h];cases b;·rfl
  ·simp only[av];have hd:=ACk c l;by_cases hv:JR 0 (c::l)<=m;·simp_all
   ·rw[ae hv,ae fH,ah (by rfl)];grind
end
end Go.VM
namespace Go.VM
section
variable{N:Nat}
def AIH (c:UInt8):Bool:=BS c||(DC c||decide (c=45))
def b45 (c:UInt8):(AC c==45)=decide (c=45):=by have:=BJ (f:=λn=>((n:Int)==45)) (g:=λn=>decide (UInt8.ofNat n=45)) (by kernel_rfl) c;simp only[bv]at this;exact this
def AE8 (k8:Unit->Option Bool): ∀l:B8,Hw N k8 l=if l.all AIH=true then k8 ()else some false |[]=>by grind[Hw]| c::l=>by rw[Hw,AA,Oi,aa,RV,aa,bne,b45,AE8 k8 l,aK];unfold AIH;cases BS c<;>cases DC c<;>cases decide (c=45)<;>simp
def AFU (k2:Unit->Option Bool): ∀l:B8,Gi N k2 l=if l.all AIH=true then k2 ()else some false |[]=>by grind[Gi]| c::l=>by rw[Gi,AA,QI,aa,O1,aa,bne,b45,AFU k2 l,aK];unfold AIH;cases BS c<;>cases DC c<;>cases decide (c=45)<;>simp
def Qt (l:B8):Bool:=!l.isEmpty&&(decide (l.length<=63)&&(decide (l.head?≠some 45)&&(decide (l.getLast?≠some 45)&&l.all AIH)))
def AFx{c:UInt8}{l:B8} (hb:(c::l).length<=2^60): ∃d,(c::l).getLast?=some d/\idx (c::l) (wr .i64 (((c::l).length:Int)-1))=some d:=by have hne:(c::l)≠ []:=fH;refine⟨(c::l).getLast hne,ck hne,?_⟩;rw[show wr .i64 (((c::l).length:Int)-1)=(((c::l).length-1:Nat):Int) by simp only[ag]at hb⊢;rw[AO fG];omega,Ji,<-dI,ck hne]
def Aa5 (l:B8) (hb:l.length<=2^60):Qm N l=some (Qt l):=by
 unfold Qm Qt;dsimp only[AA];cases l with
 |nil=>rfl
 | cons c l=>
  obtain⟨d,h1,h2⟩:=AFx hb;rw[ae fH,h2,h1,show idx (c::l) 0=some c from rfl,aa,aa,b45,b45,BV fG,AE8];by_cases hl:(c::l).length<=63
  ·rw [ae (by simp only[au];omega),aA hl];by_cases hc:c=45;·simp_all
   ·rw[aO hc,ae fI];by_cases hd:d=45;·simp_all
    ·rw[aO hd,ae fI];obtain⟨b,hb2⟩: ∃b,(c::l).all AIH=b:=⟨_,rfl⟩;rw[hb2];cases b<;>simp[hc,hd]
  ·rw[ah (by simp only[au];omega),ah rfl,aO hl];simp
def Ab9 (l:B8) (hb:l.length<=2^60):PT N l=some (Qt l):=by
 unfold PT Qt;dsimp only[AA];rw[BV fG,AFU];cases l with
 |nil=>rfl
 | cons c l=>
  obtain⟨d,h1,h2⟩:=AFx hb;obtain⟨b,hb2⟩: ∃b,(c::l).all AIH=b:=⟨_,rfl⟩;rw[ae (c:=((c::l==[])=true)) fH,h2,h1,show idx (c::l) 0=some c from rfl,aa,aa,bne,bne,b45,b45,hb2];cases b;·simp
  ·rw[ah rfl];by_cases hl:(c::l).length<=63;·rw[ah (by simp only[au];omega),aA hl];by_cases hc:c=45<;>simp_all
   ·rw[ae (by simp only[au];omega),aO hl];simp
end
end Go.VM
