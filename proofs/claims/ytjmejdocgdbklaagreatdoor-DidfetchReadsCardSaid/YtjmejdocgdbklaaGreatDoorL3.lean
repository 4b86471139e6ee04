import Derived.Test.YtjmejdocgdbklaaGreatDoorL2
set_option linter.defProp false
set_option linter.unusedVariables false
set_option linter.unusedSimpArgs false
namespace Go.VM
section
variable{N:Nat}
def Av{α β:Type}{K:α->Option β}{body:(α->Option β)->Option β}{a:α}{d:JD α} (h: ∀k:α->Option β,body k=k a):AB K body d=K a:=h K
def AEC (l:B8) (k2:Int->Option Int) (hb:l.length<=2^50): ∀(t:B8) (i k:Nat),l.drop i=t->i<=l.length->t.length<k->FY N l k2 k (i:Int)=k2 ((i+IC t:Nat):Int)
 | [],i,k+1,ht,hi,_=>by have hl:=BM ht hi;simp only[ap]at hl;have c: ¬(i:Int)<(l.length:Int):=fy;rw[FY,AA,ae (by grind)];dsimp only;rw[ae fB];rfl
 | c::t,i,k+1,ht,hi,hk=>by
  have hl:=BM ht hi;simp only[ag]at hl hk;have c0:(i:Int)<(l.length:Int):=fy;rw[FY,AA,ah (aA c0),head_drop ht,aa,OP,aa];unfold IC;rw[aJ];cases DI c;·simp
  ·dsimp only;rw[ah rfl,ah rfl,AO fy,show(i:Int)+1=((i+1:Nat):Int) by simp,AEC l k2 hb t (i+1) k (by rw[<-aF,ht];rfl) fy fy];grind[IC]
def AiE (t:B8) (hb:t.length<=2^50) (hN:t.length<N):J4 N t=some ((IC t:Nat):Int):=by unfold J4;rw[AA];have:=AEC (N:=N) t (λj=>some j) hb t 0 N fA fy hN;grind
def ABQ (t:B8) (i:Nat):KS N t (i:Int)=some (t.drop i):=by
 unfold KS;by_cases h:(i:Int)>=(t.length:Int);·simp_all
 ·rw[ae (by grind),BB t i t.length fy fy,aa,aM fA]
def Um{β:Type} (t:B8) (i:Nat) (k:Bool->Option β) (f:UInt8->Option β) (set:B8) (hf: ∀c r,t.drop i=c::r->f c=k (set.contains c)):(if decide ((i:Int)<(t.length:Int))=true then Option.bind (idx t (i:Int)) f else k false)=k (Ed set (t.drop i)):=by
 by_cases hi:i<=t.length;·obtain⟨u,hu⟩: ∃u,t.drop i=u:=⟨_,rfl⟩;have hl:=BM hu hi;rw[hu];cases u with | nil=>simp only[ap]at hl;have c: ¬(i:Int)<(t.length:Int):=fy;rw[ae (by grind)];rfl| cons c r=>simp only[ag]at hl;have c0:(i:Int)<(t.length:Int):=fy;rw[ah (aA c0),head_drop hu,aa,hf c r hu];rfl
 ·have c: ¬(i:Int)<(t.length:Int):=fy;rw[ae (by grind),bQ fy];rfl
theorem Vv (c:UInt8) (k:UInt8):([k]:B8).contains c=decide (c.toNat=k.toNat):=by grind[UInt8.toNat_inj]
def AYt (c:UInt8):(AC c==45)=([45]:B8).contains c:=by rw[Vv];exact AAk (k:=45)
def Aqv (c:UInt8):(AC c==46)=([46]:B8).contains c:=by rw[Vv];exact AAk (k:=46)
def Aq8 (c:UInt8):(AC c==48)=([48]:B8).contains c:=by rw[Vv];exact AAk (k:=48)
theorem ANt{t:B8}:Di t=0<->(t=[]\/∃c r,t=c::r/\DI c=false):=by
 cases t with
 |nil=>exact⟨λ_=>.inl rfl,λ_=>rfl⟩
 | cons c r=>
  constructor;·intro h;refine .inr ⟨c,r,rfl,?_⟩;grind[Di,IC,List.takeWhile_cons,DI]
  ·rintro(h|⟨c',r',h,hd⟩);·cases h
   ·cases h;have h48:Ed [48] (c::r)=false:=by show([48]:B8).contains c=false;grind[Vv,DI]
    simp_all[Di,IC]
def Y8 (t:B8) (hb:t.length<=2^50) (hN:t.length<N):IY N t=some ((Fh t:Nat):Int):=by
 have h1:=ACR t;have h2:=AAW (t.drop (Aa t));have h3:=ACX (t.drop (Aa t+Di (t.drop (Aa t))));have h4:=AGh (t.drop (Aa t+Di (t.drop (Aa t))+Ff (t.drop (Aa t+Di (t.drop (Aa t))))));simp only[aB]at h2 h3 h4;have run: ∀n:Nat,J4 N (t.drop n)=some ((IC (t.drop n):Nat):Int):=λn=>AiE _ (by grind) (by grind);have wn: ∀n:Nat,n<=2^51->wr .i64 (n:Int)=(n:Int):=λn h=>Nl fy;have w1: ∀n:Nat,n<=2^51->wr .i64 ((n:Int)+1)=((n+1:Nat):Int):=λn h=>by grind[AO]
 have hsub:sub t (Aa t:Int) (t.length:Int)=some (t.drop (Aa t)):=by rw[BB t (Aa t) t.length h1 (aw _),aM fA]
 have hs2:Aa t<=1:=by unfold Aa;split<;>omega
 unfold IY;refine(Av (a:=((Aa t:Nat):Int)) λk2=>(Av (a:=Ed [45] t) λk6=>?_).trans ?_).trans ?_;·have key:=Um t 0 k6 (λx9=>k6 (AC x9==45)) [45] (λc r _=>by rw[AYt]);grind
 ·unfold Aa;cases Ed [45] t<;>rfl
 try dsimp only
 refine(Av (a:=decide (Di (t.drop (Aa t))=0)) λk11=>?_).trans ?_
 ·obtain⟨u,hu⟩: ∃u,t.drop (Aa t)=u:=⟨_,rfl⟩;have hl:=BM hu h1;rw[hu];cases u with
  | nil=>simp_all
  | cons c r=>
   simp only[ag]at hl;rw[ae (by grind),head_drop hu,aa,OP,aa];congr 1;cases hd:DI c;·rw[aA (ANt.2 (.inr ⟨c,r,rfl,hd⟩))];rfl
   grind[Di,ANt,decide_eq_false]
 try dsimp only
 by_cases hz:Di (t.drop (Aa t))=0;·simp_all[Fh]
 rw[ae (by grind)];have hnum:Fh t=Aa t+Di (t.drop (Aa t))+Ff (t.drop (Aa t+Di (t.drop (Aa t))))+Nt (t.drop (Aa t+Di (t.drop (Aa t))+Ff (t.drop (Aa t+Di (t.drop (Aa t)))))):=by simp_all[Fh]
 refine(Av (a:=((Aa t+Di (t.drop (Aa t)):Nat):Int)) λk18=>?_).trans ?_
 ·obtain⟨u,hu⟩: ∃u,t.drop (Aa t)=u:=⟨_,rfl⟩;cases u with
  |nil=>simp_all
  | cons c r=>
   rw[head_drop hu,aa,Aq8,hsub,aa,run];rw[hu]at h2⊢;rw[show([48]:B8).contains c=Ed [48] (c::r)from rfl];unfold Di at h2⊢;by_cases h0:Ed [48] (c::r)=true;·rw[ah h0]at h2;rw[ah h0,ah h0,w1 _ fy]
   ·rw[ae h0]at h2;rw[ae h0,ae h0,aa,AO fy];congr 1
 try dsimp only
 rw[w1 _ fy,ABQ];generalize hi':Aa t+Di (t.drop (Aa t))=i at *;have hil:i<=t.length:=fy;refine(Av (a:=((i+Ff (t.drop i):Nat):Int)) λk26=>?_).trans ?_
 ·rw[aa,run,aa];have hr:=SB (t.drop (i+1));rw[aB]at hr;refine(Av (a:=Ed [46] (t.drop i)&&decide (0<IC (t.drop (i+1)))) λk34=>?_).trans ?_
  ·refine(Um t i (λb=>k34 (b&&decide (0<IC (t.drop (i+1))))) _ [46] (λc r _=>?_)).trans rfl;rw[Aqv];cases ([46]:B8).contains c;·rfl
   ·rw[ah rfl];congr 1;rw[bF];congr 1;simp only[dO];omega
  try dsimp only
  unfold Ff;rw[aF];by_cases hc:Ed [46] (t.drop i)=true/\0<IC (t.drop (i+1));·rw[ah (by grind),ah hc,AO (n:=1+_) fy,AO fy];congr 1
  ·rw[ae (by grind),ae hc];rfl
 try dsimp only
 generalize hj:i+Ff (t.drop i)=j at *;have hjl:j<=t.length:=fy;rw[w1 _ fy];refine(Av (a:=((j+Nt (t.drop j):Nat):Int)) λk39=>?_).trans ?_
 ·refine(Av (a:=Ed [101,69] (t.drop j)) λk43=>Um t j k43 _ [101,69] (λc r _=>by rw[N7 _ _ fB,aa])).trans ?_;try dsimp only
  by_cases he:Ed [101,69] (t.drop j)=true
  ·rw[ah he];have hpos:=Lg he;rw[aB]at hpos;have hes:Lx (t.drop j)<=t.length-j-1:=by grind[Lx,Lg,List.length_drop]
   refine(Av (a:=((j+(1+Lx (t.drop j)):Nat):Int)) λk50=>(Av (a:=Ed [43,45] (t.drop (j+1))) λk54=>Um t (j+1) k54 _ [43,45] (λc r _=>by rw[N7 _ _ fB,aa])).trans ?_).trans ?_
   ·try dsimp only
    unfold Lx;rw[aF];by_cases h:Ed [43,45] (t.drop (j+1))=true;·rw[ah h,ah h,w1 _ fy]
    simp_all
   try dsimp only
   rw[ABQ,aa,run,aa];have hr:=SB (t.drop (j+(1+Lx (t.drop j))));rw[aB]at hr;have hex:Nt (t.drop j)=if 0<IC (t.drop (j+(1+Lx (t.drop j))))then 1+Lx (t.drop j)+IC (t.drop (j+(1+Lx (t.drop j))))else 0:=by simp_all[Nt,IC,Lx]
   rw[hex];by_cases h:0<IC (t.drop (j+(1+Lx (t.drop j))));·rw[ah (by grind),ah h,AO fy];grind
   simp_all
  simp_all[Nt]
 grind
end
end Go.VM
namespace Go.VM
section
variable{N:Nat}
def ML: ∀(l:B8) (c:UInt8),Go.Lib.indexByte l c=if l.contains c=true then(((l.takeWhile (· !=c)).length:Nat):Int)else-1
 |[],c=>rfl
 | x::l,c=>by
  have ih:=ML l c;rw[Go.Lib.indexByte,bb];by_cases e:x=c;·simp_all
  ·have e1:(c==x)=false:=by grind
   simp_all
def LM{α:Type} (p:α->Bool) (l:List α):l.drop (l.takeWhile p).length=l.dropWhile p:=by
 have:=aU (p:=p) (l:=l);conv=>lhs;rw[<-this]
 rw[ck,bQ fA,this];simp
def AR (c:UInt8) (l:B8):B8×B8×Bool:=if l.contains c=true then(l.takeWhile (· !=c),(l.dropWhile (· !=c)).drop 1,true)else(l,[],false)
theorem Mf{c:UInt8}: ∀ {l:B8},l.contains c=true->(l.takeWhile (· !=c)).length<l.length
 |[],h=>by cases h
 | x::l,h=>by
  rw[aJ];by_cases e:x=c;·grind
  ·have e3:(x !=c)=true:=by grind
   rw[bb]at h;have e1:(c==x)=false:=by grind
   rw[e1,be]at h;rw[e3];have:=Mf h;simp_all
def Ml (c:UInt8) (l:B8) (hb:l.length<=2^60):strings_Cut N l [c]=some (AR c l):=by
 unfold strings_Cut Hd Cr AR;have hI:(if((([c]:B8).length:Int)==1)=true then some (Go.Lib.indexByte l (([c]:B8).headD 0))else grd (l.length<4294967281) (some (Go.Lib.index l [c])))=some (Go.Lib.indexByte l c):=ah (by rfl);rw[hI,aa,ML];by_cases h:l.contains c=true
 ·have hlt:=Mf h;simp only[h,av];generalize hn:(l.takeWhile (· !=c)).length=n at *;have w:wr .i64 ((n:Int)+(([c]:B8).length:Int))=((n+1:Nat):Int):=by grind[AO]
  rw[ah fA,show(0:Int)=((0:Nat):Int)from rfl,BB l 0 n fy fy,aa,w,BB l (n+1) l.length fy fy,aa,aa];rw[aY,bP,<-hn,IB,aM fA,<-aF,LM]
 simp_all
theorem FP (c:UInt8) (l:B8):(AR c l).1.length<=l.length/\(AR c l).2.1.length<=l.length:=by grind[AR,KC,List.dropWhile_sublist,List.length_drop]
def Xp (x c:UInt8):(AC x==AC c)=(x==c):=by
 by_cases h:x=c;·grind
 ·have: ¬x.toNat=c.toNat:=λe=>h (ch.1 e);have h2:(x==c)=false:=by grind
  rw[h2];simp only[AC,cd,dU];omega
def QL{α:Type} (x:α) (l:List α):sub (x::l) 1 (((x::l).length:Nat):Int)=some l:=by have:=BB (x::l) 1 (x::l).length fA (aw _);simp_all
def AAz (c:UInt8) (k2:B8->Option B8): ∀(l:B8) (k:Nat),l.length<k->CJ N (AC c) k2 k l=k2 (l.dropWhile (· ==c))
 |[],k+1,_=>by rw[CJ,AA];rfl
 | x::l,k+1,h=>by
  simp only[ag]at h;rw[CJ,AA,ah (by simp<;>omega),show idx (x::l) 0=some x from rfl,aa,Xp,bz];try dsimp only
  cases x==c;·rfl
  ·rw[ah rfl,QL,aa,AAz c k2 l k fy];rfl
def Ach (c:UInt8) (l:B8) (hc:c.toNat<128) (hN:l.length<N):Fv N l [c]=some (l.dropWhile (· ==c)):=by
 unfold Fv;refine(Av (a:=l==[]) λk=>?_).trans ?_;·cases l==[]<;>rfl
 try dsimp only
 by_cases h:l=[];·subst h;rfl
 ·rw[ae (by simpa using h)];have:(AC c<128):=by simp only[AC];omega
  refine(Av (a:=true) λk=>?_).trans ?_;·rw[ah (by rfl),show idx [c] 0=some c from rfl,aa,aA this]
  try dsimp only
  rw[ah rfl,show idx [c] 0=some c from rfl,aa];unfold strings_trimLeftByte;rw[AA,AAz c _ l N hN];rfl
def Nv (p:UInt8->Bool) (l:B8):B8:=(l.reverse.dropWhile p).reverse
def WC (p:UInt8->Bool) (l:B8) (x:UInt8):Nv p (l++[x])=if p x=true then Nv p l else l++[x]:=by unfold Nv;rw[List.reverse_append,List.reverse_cons,List.reverse_nil,bc,List.singleton_append,bz];split<;>simp
def ACE (p:UInt8->Bool) (l:B8):(Nv p l).length<=l.length:=by grind[Nv,List.dropWhile_sublist]
def AQv{α:Type} (l:List α) (x:α) (hb:l.length<=2^60):sub (l++[x]) 0 (wr .i64 ((((l++[x]).length:Nat):Int)-1))=some l:=by rw[AO (by grind),show(((l++[x]).length:Nat):Int)-1=(l.length:Int) by simp,show(0:Int)=((0:Nat):Int)from rfl,BB _ 0 l.length fy fA];simp
def AOX{α:Type} (l:List α) (x:α) (hb:l.length<=2^60):idx (l++[x]) (wr .i64 ((((l++[x]).length:Nat):Int)-1))=some x:=by rw[AO (by grind),show(((l++[x]).length:Nat):Int)-1=(l.length:Int) by simp,Jt];simp
def ABX (c:UInt8) (k2:B8->Option B8): ∀(n:Nat) (l:B8),l.length=n->n<=2^60->∀k:Nat,n<k->Bj N (AC c) k2 k l=k2 (Nv (· ==c) l)
 | 0,l,hl,hb,k+1,_=>by have:l=[]:=cv.1 hl;subst this;rw[Bj,AA];rfl
 | n+1,l,hl,hb,k+1,h=>by
  obtain⟨l',x,rfl⟩: ∃l' x,l=l'++[x]:=by
   have hne:l≠ []:=λe=>by subst e;simp at hl
   exact⟨l.dropLast,l.getLast hne,(dg hne).symm⟩
  have hl':l'.length=n:=by simpa using hl
  rw[Bj,AA,ah (by simp<;>omega),AOX l' x fy,aa,Xp,WC];try dsimp only
  cases x==c;·rfl
  ·rw[ah rfl,ah rfl,AQv l' x fy,aa,ABX c k2 n l' hl' fy k fy]
def Ac4 (c:UInt8) (l:B8) (hc:c.toNat<128) (hb:l.length<=2^60) (hN:l.length<N):Ja N l [c]=some (Nv (· ==c) l):=by
 unfold Ja;refine(Av (a:=l==[]) λk=>?_).trans ?_;·cases l==[]<;>rfl
 try dsimp only
 by_cases h:l=[];·subst h;rfl
 ·rw[ae (by simpa using h)];have:(AC c<128):=by simp only[AC];omega
  refine(Av (a:=true) λk=>?_).trans ?_;·rw[ah (by rfl),show idx [c] 0=some c from rfl,aa,aA this]
  try dsimp only
  rw[ah rfl,show idx [c] 0=some c from rfl,aa];unfold strings_trimRightByte;rw[AA,ABX c _ _ l rfl hb N hN];rfl
def AD9 (as:List Bool) (set:B8):Prop:=as.length=256/\ ∀c:UInt8,as[c.toNat]?=some (set.contains c)
def AMG (k2:List Bool->Option (List Bool×Bool)) (done:B8): ∀(l:B8) (done:B8) (bn:List Bool),(∀c∈l,c.toNat<128)->AD9 bn done->∃as,CE N k2 l bn=k2 as/\AD9 as (done++l)
 |[],done,bn,hl,hs=>⟨bn,by rw[CE],by grind⟩
 | x::l,done,bn,hl,hs=>by
  have hx:=hl x fA;have c1: ¬AC x>=128:=by grind[AC]
  obtain⟨as,h1,h2⟩:=AMG k2 done l (done++[x]) (bn.set x.toNat true) (λc hc=>hl c (by grind)) ⟨by simp[hs.1],λc=>by
   rw[dm];by_cases e:x.toNat=c.toNat;·have:x=c:=ch.1 e;subst this;rw[ah rfl,ah (by rw[hs.1];omega)];simp
   ·rw[ae e,hs.2 c];grind⟩;refine⟨as,?_,by grind⟩;rw[CE,ae (by grind),AJ (by grind[AC]),AJ (by rw[hs.1];omega)];exact h1
def APX (set:B8) (hl: ∀c∈set,c.toNat<128) (hb:set.length<=1000): ∃as,strings_makeASCIISet N set=some (as,true)/\AD9 as set:=by unfold strings_makeASCIISet;rw[AA,AJ (by grind[AL])];obtain⟨as,h1,h2⟩:=AMG (N:=N) (λj1=>grd (j1.length=256) (some (j1,true))) [] set [] (AFF 256) hl ⟨Xw,λc=>by have:=c.toNat_lt;rw[AFF,List.getElem?_replicate,ah fy];rfl⟩;exact⟨as,by rw[h1,AJ h2.1],h2⟩
def ZG{as:List Bool}{set:B8} (h:AD9 as set) (c:UInt8):Cw N as (AC c)=some (set.contains c,as):=by have:=c.toNat_lt;unfold Cw;rw[AJ (by grind[AC]),I6,Jt,h.2 c];rfl
def AAh (k2:B8×List Bool->Option (B8×List Bool)){as:List Bool}{set:B8} (hs:AD9 as set): ∀(l:B8) (k:Nat),l.length<k->Bi N k2 k l as=k2 (l.dropWhile set.contains,as)
 |[],k+1,_=>by rw[Bi];rfl
 | x::l,k+1,h=>by
  simp only[ag]at h;rw[Bi,ah (by simp<;>omega),show idx (x::l) 0=some x from rfl,aa,ZG hs,aa,bz];try dsimp only
  cases set.contains x;·rfl
  ·rw[ah rfl,QL,aa,AAh k2 hs l k fy];rfl
def AX9 (l set:B8) (h2:2<=set.length) (hs:set.length<=1000) (hl: ∀c∈set,c.toNat<128) (hN:l.length<N):Fv N l set=some (l.dropWhile set.contains):=by
 unfold Fv;have hne:set≠ []:=λe=>by subst e;simp at h2
 refine(Av (a:=l==[]) λk=>?_).trans ?_
 ·have:(set==[])=false:=by simpa using hne
  rw[this];cases l==[]<;>rfl
 try dsimp only
 by_cases h:l=[];·subst h;rfl
 ·rw[ae (by simpa using h)];refine(Av (a:=false) λk=>?_).trans ?_;·rw[ae (by simp<;>omega)]
  try dsimp only
  obtain⟨as,e1,e2⟩:=APX (N:=N) set hl hs;rw[ae fB,e1,aa,AJ Xw,AJ e2.1,ah rfl];unfold strings_trimLeftASCII;rw[AA,AAh _ e2 l N hN];rfl
def AlG (c:UInt8) (l:B8):strings_HasPrefix N l [c]=some (Ed [c] l):=by unfold strings_HasPrefix BZ;cases l with |nil=>rfl| cons x l=>rw[ah (by grind),show sub (x::l) 0 ((([c]:B8).length:Nat):Int)=some [x] by rw[show(0:Int)=((0:Nat):Int)from rfl,BB _ 0 _ fy fA];rfl,aa,aa];unfold Ed;by_cases h:x=c<;>simp_all
def ADW (n:Nat):Nat:=if 65<=n/\n<=90 then n+32 else n
def Cn (c:UInt8):UInt8:=UInt8.ofNat (ADW c.toNat)
def ANz (l:B8) (hb:l.length<=2^60) (k2:List Int->Option B8): ∀(t pre:B8),l=pre++t->Gd N l k2 t (pre.length:Int) (List.map AC (pre.map Cn)++List.map AC t)=k2 (List.map AC (l.map Cn))
 |[],pre,h=>by grind[Gd]
 | c::t,pre,h=>by
  have hlen:pre.length<l.length:=by grind
  have hc:=c.toNat_lt;rw[Gd];refine(Av (a:=List.map AC (pre.map Cn)++(AC (Cn c)::List.map AC t)) λk7=>?_).trans ?_
  ·rw [AJ fy,aE];have hi:idx (List.map AC (pre.map Cn)++AC c::List.map AC t) (pre.length:Int)=some (AC c):=by grind[AIB,List.map,AC,Cn]
   rw[hi,aa];refine(Av (a:=decide (65<=c.toNat/\c.toNat<=90)) λk12=>?_).trans ?_
   ·by_cases h1:65<=c.toNat
    ·have:(65:Int)<=AC c:=by grind[AC]
     rw[ah (aA this)];congr 1;simp only[AC,h1,cM];congr 1;simp only[dO];omega
    ·have: ¬(65:Int)<=AC c:=by grind[AC]
     rw[ae (by grind),aO (λh=>h1 h.1)]
   try dsimp only
   by_cases h1:65<=c.toNat/\c.toNat<=90
   ·rw[ah (aA h1),AJ (by simp<;>omega)];have e:Cn c=UInt8.ofNat (c.toNat+32):=by simp_all[Cn,ADW]
    have e2:AC (Cn c)=wr .u8 (AC c+32):=by grind[ADs,AC,toNat_ofNat]
    simp_all
   ·rw[ae (by grind)];have e:Cn c=c:=by unfold Cn ADW;rw[ae h1];simp
    rw[e]
  ·try dsimp only
   have:=ANz l hb k2 t (pre++[c]) (by grind);simp_all
def lower_eq (l:B8) (hb:l.length<=2^60):IX N l=some (l.map Cn):=by unfold IX;rw[AA,AJ (by grind[AL])];have:=ANz (N:=N) l hb (λj1=>grd (l.length<=j1.length/\AL l.length) (some (List.map Gu (List.take l.length j1)))) l [] rfl;simp only[bM,bc,ap]at this;rw[show(0:Int)=((0:Nat):Int)from rfl,this,AJ (by grind[AL]),aM fA];congr 1;induction l with |nil=>rfl|cons c l ih=>simp[JF]
end
end Go.VM
namespace Go.VM
section
variable{N:Nat}
def ZN: ∀l:B8,List.map Gu (List.map AC l)=l |[]=>rfl|c::l=>by rw[aE,aE,JF,ZN l]
def AAs:Nat->Nat->B8->B8 |0,_,acc=>acc|k+1,n,acc=>if n / 10=0 then UInt8.ofNat (48+n % 10)::acc else AAs k (n / 10) (UInt8.ofNat (48+n % 10)::acc)
def fmtS (n:Nat):B8:=AAs 20 n []
theorem AMb: ∀(k n:Nat) (acc:B8),(AAs k n acc).length<=acc.length+k
 |0,n,acc=>by simp[AAs]
 | k+1,n,acc=>by
  rw[AAs];split;·simp<;>omega
  ·have:=AMb k (n / 10) (UInt8.ofNat (48+n % 10)::acc);grind
theorem O3 (n:Nat):(fmtS n).length<=20:=by grind[AMb,fmtS]
def AnT (n:Nat):wr .u64 ((n:Int).tdiv 10)=if n<2^64 then((n / 10:Nat):Int)else wr .u64 ((n:Int).tdiv 10):=by grind[Int.tdiv_eq_ediv_of_nonneg,IV]
def Ale{n:Nat} (h:n<2^64):wr .u64 ((n:Int).tdiv 10)=((n / 10:Nat):Int):=by rw[AnT,ah h]
def Alb{n:Nat}:wr .u64 (48+(n:Int).tmod 10)=((48+n % 10:Nat):Int):=by grind[Int.tmod_eq_emod_of_nonneg,IV]
theorem Ww: ∀(k n:Nat) (acc:B8),n<10^k->n<2^64->acc.length+k<=1000->∀m,k<=m->0<k->Ei N m (n:Int) acc=some (AAs k n acc)
 |0,n,acc,h,h2,ha,m,hm,hk=>by omega
 | k+1,n,acc,h,h2,ha,m+1,hm,hk=>by
  rw[Ei,Ale h2,Alb,AAs];rw[AJ (by grind[AL])];have e:(List.map Gu [wr .u8 ((48+n % 10:Nat):Int)]++acc)=UInt8.ofNat (48+n % 10)::acc:=by rw[O9,bk (show 48+n % 10<256 by omega)];rfl
  rw[e];by_cases c:n / 10=0;·rw[ah (by grind),ah c]
  ·have c': ¬((((n / 10:Nat):Int))==0)=true:=by grind
   rw[ae c',ae c];have hk2:0<k:=by grind
   exact Ww k (n / 10) _ fy fy (by grind) m fy hk2
def Rp (n:Nat) (h:n<2^64) (hN:20<=N):HZ N (n:Int)=some (fmtS n):=by grind[HZ,fmtS,Ww]
def AMH (a:Nat) (x:Int) (acc:List Int):(List.replicate (a+1) 0++acc).set a x=List.replicate a 0++x::acc:=by rw[List.replicate_succ',aP];simp
def XI (k2:Int×Int×List Int->Option B8) (R:B8->Option B8) (hk: ∀(n a:Nat) (acc:B8),n<10->a<=19->acc.length+a=19->k2 ((n:Int),(a:Int),List.replicate (a+1) 0++acc.map AC)=R (UInt8.ofNat (48+n)::acc)):∀(j n a:Nat) (acc:B8),n<10^(j+1)->n<2^64->j<=a->a<=19->acc.length+a=19->∀m,j<m->Fx N k2 m (n:Int) (a:Int) (List.replicate (a+1) 0++acc.map AC)=R (AAs (j+1) n acc)
 |j,n,a,acc,h,h2,hj,ha,hl,0,hm=>by omega
 | j,n,a,acc,h,h2,hj,ha,hl,m+1,hm=>by
  rw[Fx,AAs];by_cases c:n / 10=0;·have c': ¬(n:Int)>=10:=fy;rw[ae (by grind),ah c,bk fy];grind
  ·have c':(n:Int)>=10:=fy;rw[ah (aA c'),ae c];obtain⟨j,rfl⟩: ∃i,j=i+1:=⟨j-1,by grind⟩;obtain⟨a,rfl⟩: ∃i,a=i+1:=⟨a-1,fy⟩;rw[AJ fy,AJ (by simp<;>omega),Ale h2,Alb,O9,bk (show 48+n % 10<256 by omega),AO fy];rw[show((a+1:Nat):Int)-1=(a:Int) by simp,a7,AMH];have e:List.replicate (a+1) 0++((48+n % 10:Nat):Int)::List.map AC acc=List.replicate (a+1) 0++List.map AC (UInt8.ofNat (48+n % 10)::acc):=by rw[aE,I6,toNat_ofNat fy]
   rw[e];exact XI k2 R hk j (n / 10) a _ fy fy fy fy (by grind) m fy
def Rw (n:Nat) (h:n<2^64) (hN:20<=N):F7 N (n:Int)=some (fmtS n):=by
 unfold F7 fmtS;rw[AA];refine XI (N:=N) _ some (λn a acc hn ha hl=>?_) 19 n 19 [] fy h fy fy rfl N fy;have w:wr .u8 (wr .u64 (48+(n:Int)))=((48+n:Nat):Int):=by rw[IV fy,show(48:Int)+(n:Int)=((48+n:Nat):Int) by simp,O9,bk fy]
 simp only[a7,w];rw[AMH];rw[AJ fy,AJ (by simp<;>omega),AJ fy,AJ (by grind[AL])];congr 1;rw[ck,bQ fA,dj,dx,aY,bc,aM (by grind),aE,ZN];rfl
end
end Go.VM
namespace Go.VM
structure NumP (s sg W F FR P EX:B8):Prop where
  eq:s=sg++(W++(FR++EX))
  sg:sg=[]\/sg=[45]
  Wd:W.all DI=true
  Wn:W≠ []
  fr:(FR=[]/\F=[])\/FR=46::F
  Fd:F.all DI=true
  ex:(EX=[]/\P=[])\/EX=101::P\/EX=69::P
  pw:P=[]\/ ∃sn D,P=sn++D/\(sn=[]\/sn=[43]\/sn=[45])/\D≠ []/\D.all DI=true
theorem AAO (t:B8):(t.take (IC t)).all DI=true:=by unfold IC;rw[IB];simp
def ACB{k:UInt8}{t:B8} (h:Ed [k] t=true): ∃r,t=k::r:=by cases t with |nil=>cases h| cons c r=>grind[Ed]
theorem AQB{a b:UInt8}{t:B8} (h:Ed [a,b] t=true): ∃r,t=a::r\/t=b::r:=by
 cases t with
 |nil=>cases h
 | cons c r=>
  have:c=a\/c=b:=by grind[Ed]
  rcases this with rfl|rfl;·exact⟨r,.inl rfl⟩
  ·exact⟨r,.inr rfl⟩
def AZA (t:B8):t.take (Aa t)=[]\/t.take (Aa t)=[45]:=by
 unfold Aa;by_cases h:Ed [45] t=true;·rw[ah h];obtain⟨r,rfl⟩:=ACB h;simp
 simp_all
def AgK (t:B8) (h:Di t≠0):(t.take (Di t)).all DI=true/\t.take (Di t)≠ []:=by
 have hle:=AAW t;refine⟨?_,λe=>?_⟩
 ·unfold Di;by_cases h:Ed [48] t=true;·rw[ah h];obtain⟨r,rfl⟩:=ACB h;rfl
  ·rw[ae h];exact AAO t
 simp_all
def AXV (t:B8): ∃F,((t.take (Ff t)=[]/\F=[])\/t.take (Ff t)=46::F)/\F.all DI=true:=by
 unfold Ff;by_cases h:Ed [46] t=true/\0<IC (t.drop 1);·rw[ah h];obtain⟨r,rfl⟩:=ACB h.1;grind[IC,AAO,Nat.add_comm]
 simp_all
theorem AcS (t:B8): ∃P,((t.take (Nt t)=[]/\P=[])\/t.take (Nt t)=101::P\/t.take (Nt t)=69::P)/\(P=[]\/∃sn D,P=sn++D/\(sn=[]\/sn=[43]\/sn=[45])/\D≠ []/\D.all DI=true):=by
 unfold Nt;by_cases h:Ed [101,69] t=true/\0<IC (t.drop (1+Lx t))
 ·rw [ah h];have key: ∀(c:UInt8) (r:B8),t=c::r->∃P,t.take (1+Lx t+IC (t.drop (1+Lx t)))=c::P/\(P=[]\/∃sn D,P=sn++D/\(sn=[]\/sn=[43]\/sn=[45])/\D≠ []/\D.all DI=true):=by
   rintro c r rfl;have hr:=h.2;have hes:Lx (c::r)=if Ed [43,45] r=true then 1 else 0:=rfl;by_cases k:Ed [43,45] r=true
   ·rw[ah k]at hes;rw[hes]at hr⊢;obtain⟨d,q,rfl,hd⟩: ∃d q,r=d::q/\(d=43\/d=45):=by
     obtain⟨q,e|e⟩:=AQB k;·exact⟨_,q,e,.inl rfl⟩
     ·exact⟨_,q,e,.inr rfl⟩
    have e:(c::d::q).drop (1+1)=q:=rfl;rw[e]at hr⊢;refine⟨d::q.take (IC q),?_,.inr ⟨[d],q.take (IC q),rfl,?_,λe=>?_,AAO q⟩⟩;·grind
    ·simp_all
    ·have:=a8 List.length e;grind[SB,List.length_take,List.length_nil]
   ·rw[ae k]at hes;rw[hes]at hr⊢;have e:(c::r).drop (1+0)=r:=rfl;rw[e]at hr⊢;refine⟨r.take (IC r),?_,.inr ⟨[],r.take (IC r),rfl,.inl rfl,λe=>?_,AAO r⟩⟩;·grind
    ·have:=a8 List.length e;grind[SB,List.length_take,List.length_nil]
  grind[AQB]
 simp_all
def An2 (s:B8) (a b c:Nat):s=s.take a++((s.drop a).take b++((s.drop (a+b)).take c++s.drop (a+b+c))):=by grind[List.drop_drop,List.take_append_drop]
def AZo{s:B8} (h0:s≠ []) (h:Fh s=s.length): ∃sg W F FR P EX,NumP s sg W F FR P EX:=by
 have hpos:s.length≠0:=λe=>h0 (cv.1 e);have hz:Di (s.drop (Aa s))≠0:=by intro hz;simp_all[Fh]
 have hnum:Fh s=Aa s+Di (s.drop (Aa s))+Ff (s.drop (Aa s+Di (s.drop (Aa s))))+Nt (s.drop (Aa s+Di (s.drop (Aa s))+Ff (s.drop (Aa s+Di (s.drop (Aa s)))))):=by simp_all[Fh]
 obtain⟨w1,w2⟩:=AgK _ hz;obtain⟨F,f1,f2⟩:=AXV (s.drop (Aa s+Di (s.drop (Aa s))));obtain⟨P,e1,e2⟩:=AcS (s.drop (Aa s+Di (s.drop (Aa s))+Ff (s.drop (Aa s+Di (s.drop (Aa s))))));refine⟨_,_,F,_,P,_,⟨?_,AZA s,w1,w2,f1,f2,e1,e2⟩⟩;rw[aM (l:=s.drop (Aa s+Di (s.drop (Aa s))+Ff (s.drop (Aa s+Di (s.drop (Aa s)))))) (by grind)];exact An2 _ _ _ _
def AAG{k:UInt8} (hk:DI k=false): ∀ {l:B8},l.all DI=true->l.contains k=false |[],_=>rfl| c::l,h=>by simp only[aI,az]at h;rw[bb,AAG hk h.2,cA];grind
end Go.VM
namespace Go.VM
section
variable{N:Nat}
def JJ:Nat->B8->Nat |n,[]=>n|n,c::l=>JJ (n * 10+Ep c.toNat) l
theorem Tg: ∀(l:B8) (n:Nat),n<=JJ n l |[],n=>by simp_all[JJ]| c::l,n=>by have:=Tg l (n * 10+Ep c.toNat);grind[JJ]
theorem Qf{c:UInt8} (h:DI c=true):48<=c.toNat/\c.toNat<=57:=by grind[DI]
def Uq{c:UInt8} (h:DI c=true):Jr c=true/\Ep c.toNat=c.toNat-48:=by have:=Qf h;simp_all[Jr,Td,Ep]
def AlY (k2:Unit->Option (Int×Int)): ∀l:B8,BG N k2 l=if l.all DI=true then k2 ()else some (0,1) |[]=>by grind[BG]| c::l=>by rw[BG,QY,aa,AlY k2 l];cases h:DI c<;>simp[h]
def Alk{m:Nat} (hm:m<=18446744073709551615) (k9:Int->Option (Int×Int)): ∀(l:B8) (n:Nat),l.all DI=true->n<=m->BF N 10 (m:Int) k9 l (n:Int)=if JJ n l<=m then k9 ((JJ n l:Nat):Int)else some (0,4)
 |[],n,_,hn=>by simp_all[BF,JJ]
 | c::l,n,h,hn=>by
  simp only[aI,az]at h;have hd:Ep c.toNat<=9:=by have:=Qf h.1;rw[(Uq h.1).2];omega
  obtain⟨hx,hv⟩:=Uq h.1;have hge:=Tg l (n * 10+Ep c.toNat);rw[BF,AVy c hx,aa,AA,AJ fB];have w3:wr .u64 (18446744073709551615-((Ep c.toNat:Nat):Int))=18446744073709551615-((Ep c.toNat:Nat):Int):=IV fy;rw[w3,bW fy,IV (n:=(18446744073709551615-((Ep c.toNat:Nat):Int)) / 10) fy,JJ];by_cases c1:(n:Int)>(18446744073709551615-((Ep c.toNat:Nat):Int)) / 10;·rw[ah (aA c1),ae fy];rfl
  have w1:wr .u64 ((n:Int) * 10)=((n * 10:Nat):Int):=by grind[IV]
  have w2:wr .u64 (((n * 10:Nat):Int)+((Ep c.toNat:Nat):Int))=((n * 10+Ep c.toNat:Nat):Int):=by grind[IV]
  rw[ae (by grind),w1,w2];by_cases c2:n * 10+Ep c.toNat<=m;·have c3: ¬(((n * 10+Ep c.toNat:Nat):Int)>(m:Int)):=fy;rw[aO c3];simp only[al,au];exact Alk hm k9 l _ h.2 c2
  ·have c3:(((n * 10+Ep c.toNat:Nat):Int)>(m:Int)):=fy;rw[aA c3,ae fy];rfl
def AEI{m:Nat} (hm:m<=18446744073709551615) (l:B8) (hb:l.length<=2^60):La N l (m:Int)=some (if l=[]then(0,3)else if l.all DI=true then(if JJ 0 l<=m then(((JJ 0 l:Nat):Int),0)else(0,4))else(0,1)):=by
 unfold La F3;by_cases h:l=[];·grind
 ·rw[ae (by grind),ae h,AA,AJ (by grind[AL]),AlY];by_cases h1:l.all DI=true;·rw[ah h1,ah h1,AA,AJ (by grind[AL]),show(0:Int)=((0:Nat):Int)from rfl,Alk hm _ l 0 h1 fy];split<;>rfl
  ·rw[ae h1,ae h1];rfl
def QR (B:Nat) (P:B8):Int:=if Ed [45] P=true then-((min (JJ 0 (P.dropWhile ([43,45]:B8).contains)) B:Nat):Int)else((min (JJ 0 (P.dropWhile ([43,45]:B8).contains)) B:Nat):Int)
def AUg (P:B8):Prop:=P=[]\/ ∃sn D,P=sn++D/\(sn=[]\/sn=[43]\/sn=[45])/\D≠ []/\D.all DI=true
theorem AU0{c:UInt8} (h:DI c=true):([43,45]:B8).contains c=false:=by have:=BH (f:=λn=>if(decide (48<=n)&&decide (n<=57))=true then([43,45]:B8).contains (UInt8.ofNat n)else false) (g:=λ_=>false) (by kernel_rfl) c;simp only[bo,show(decide (48<=c.toNat)&&decide (c.toNat<=57))=true from h,av]at this;omega
def WO{D:B8} (h:D.all DI=true):D.dropWhile ([43,45]:B8).contains=D:=by cases D with |nil=>rfl| cons c D=>simp only[aI,az]at h;grind[List.dropWhile_cons,AU0]
def AEY{P:B8} (h:AUg P):(P.dropWhile ([43,45]:B8).contains).all DI=true/\(P.dropWhile ([43,45]:B8).contains=[]->P=[]):=by
 rcases h with rfl|⟨sn,D,rfl,hs,hD,hd⟩;·simp
 ·have:(sn++D).dropWhile ([43,45]:B8).contains=D:=by
   rcases hs with rfl|rfl|rfl;·exact WO hd
   ·show(43::D).dropWhile _=D;rw[bz,show([43,45]:B8).contains 43=true from rfl,ah rfl];exact WO hd
   ·show(45::D).dropWhile _=D;rw[bz,show([43,45]:B8).contains 45=true from rfl,ah rfl];exact WO hd
  grind
def Ajy{P:B8} (h:AUg P) (hb:P.length<=2^60) (hN:P.length<N):LB N P=some (QR (2^40) P):=by
 obtain⟨h1,h2⟩:=AEY h;unfold LB;rw[AX9 P [43,45] fA fA fB hN,aa];have hl:=(bN ([43,45]:B8).contains (l:=P)).length_le;unfold QR;generalize hD:P.dropWhile ([43,45]:B8).contains=D at *;rw[show(1099511627776:Int)=((2^40:Nat):Int)from rfl,AEI fB D fy,aa];by_cases he:D=[];·rw[ah he];have hP:=h2 he;subst hP;subst he;rfl
 ·rw[ae he,ah h1];have key: ∀v:Nat,v<=2^40->((strings_HasPrefix N P [45]).bind λy9=>if y9=true then some (wr .i64 (0-wr .i64 (v:Int)))else some (wr .i64 (v:Int)))=some (if Ed [45] P=true then-(v:Int)else(v:Int)):=by intro v hv;rw[AlG,aa,AO (n:=(v:Int)) fy,AO (n:=0-(v:Int)) fy];split<;>simp
  rw[AA];by_cases hv:JJ 0 D<=2^40;·rw[ah hv,cL hv];exact key _ hv
  ·rw[ae hv,eP fy];exact key _ (aw _)
def Yk (k19:Int->Option Int): ∀(l:B8) (n:Nat),l.all DI=true->n<=2^30->Cj N k19 l (n:Int)=k19 ((min (JJ n l) (2^30):Nat):Int)
 |[],n,_,hn=>by grind[Cj,JJ]
 | c::l,n,h,hn=>by
  simp only[aI,az]at h;have hd:=Qf h.1;rw[Cj,JJ];have w0:wr .u8 (AC c-48)=((Ep c.toNat:Nat):Int):=by rw[ADs (by grind[AC])];rw[(Uq h.1).2];grind[AC]
  have hd9:Ep c.toNat<=9:=by rw[(Uq h.1).2];omega
  rw[w0,AO (n:=(n:Int) * 10) fy,AO (n:=((Ep c.toNat:Nat):Int)) fy,AO fy];have e:(n:Int) * 10+((Ep c.toNat:Nat):Int)=((n * 10+Ep c.toNat:Nat):Int):=fA;rw[e];have hge:=Tg l (n * 10+Ep c.toNat);by_cases c1:(1073741824:Int)<((n * 10+Ep c.toNat:Nat):Int);·rw[ah c1,show(1073741824:Int)=((2^30:Nat):Int)from rfl,Yk k19 l (2^30) h.2 (aw _)];grind[Tg,Nat.min_eq_right]
  ·rw[ae c1,Yk k19 l _ h.2 fy]
def AkZ{P:B8} (h:AUg P) (hb:P.length<=2^60):Iz N P=some (QR (2^30) P):=by
 obtain⟨h1,h2⟩:=AEY h;unfold Iz;refine(Av (a:=Ed [45] P) λk2=>?_).trans ?_;·cases P with |nil=>rfl|cons c P=>rw[ae fA,show idx (c::P) 0=some c from rfl,aa,AYt];rfl
 try dsimp only
 refine(Av (a:=P.dropWhile ([43,45]:B8).contains) λk7=>(Av (a:=Ed [43,45] P) λk11=>?_).trans ?_).trans ?_;·cases P with |nil=>rfl| cons c P=>show(if(c::P==([]:B8))=true then k11 false else (idx (c::P) 0).bind λx14=>(E8 N (AC x14) [43,45]).bind λy15=>k11 y15)=_;rw[ae fA,show idx (c::P) 0=some c from rfl,aa,N7 _ _ fB,aa];rfl
 ·try dsimp only
  rcases h with rfl|⟨sn,D,rfl,hs,hD,hd⟩;·rfl
  ·have hdd:=WO hd;rcases hs with rfl|rfl|rfl;·cases D with |nil=>grind| cons c D=>simp only[aI,az]at hd;rw[bc,hdd,ae (by show¬([43,45]:B8).contains c=true;grind[AU0])]
   ·have e:([43]++D).dropWhile ([43,45]:B8).contains=D:=by simp_all
    rw[e,ah (by rfl)];exact(a8 (λx=>Option.bind x k7) (QL 43 D)).trans rfl
   ·have e:([45]++D).dropWhile ([43,45]:B8).contains=D:=by simp_all
    rw[e,ah (by rfl)];exact(a8 (λx=>Option.bind x k7) (QL 45 D)).trans rfl
 try dsimp only
 have hl:=(bN ([43,45]:B8).contains (l:=P)).length_le;unfold QR;generalize hD:P.dropWhile ([43,45]:B8).contains=D at *;rw[AA,AJ (by grind[AL]),show(0:Int)=((0:Nat):Int)from rfl,Yk _ D 0 h1 fy];have:min (JJ 0 D) (2^30)<=2^30:=eQ _ _;rw[AO fy];split<;>simp
def AnD (y:Int):B8:=if y<0 then [101,45]++fmtS (-y).toNat else if y>0 then [101]++fmtS y.toNat else []
def Pw (sg m:B8) (x:Int):B8×Int:=
  let m1:=m.dropWhile (· ==48)
  let sh:=Nv (· ==48) m1
  if sh=[]then([48],0)
  else if sh.length>40\/x+m1.length-sh.length< -400\/x+m1.length-sh.length>400 then([],144)
  else(sg++sh++AnD (x+m1.length-sh.length),0)
def AAC{y:Int} (h:0<=y) (h2:y<=2^60):wr .u64 y=((y.toNat:Nat):Int):=by grind[IV]
def AJ3{l:B8} (h:l.all DI=true):l.map Cn=l:=by induction l with |nil=>rfl| cons c l ih=>simp only[aI,az]at h;have:=Qf h.1;rw[aE,ih h.2];congr 1;unfold Cn ADW;rw[ae fy];simp
def AHK{c:UInt8}{a b:B8} (h:a.contains c=false):AR c (a++c::b)=(a,b,true):=by
 have h1: ∀a:B8,a.contains c=false->(a++c::b).takeWhile (· !=c)=a/\(a++c::b).dropWhile (· !=c)=c::b:=by
  intro a;induction a with
  |nil=>simp
  | cons x a ih=>
   intro h;rw[bb,du]at h;have hx:(x !=c)=true:=by grind
   simp_all
 simp_all[AR]
def AUi{c:UInt8}{a:B8} (h:a.contains c=false):AR c a=(a,[],false):=by simp_all[AR]
def AIb{c:UInt8}{a b:B8}:(a++b).contains c=(a.contains c||b.contains c):=by simp
def AVu{P:B8} (h:AUg P):P.map Cn=P:=by
 rcases h with rfl|⟨sn,D,rfl,hs,hD,hd⟩;·rfl
 ·rw[bZ,AJ3 hd];rcases hs with rfl|rfl|rfl<;>rfl
section
variable{s sg W F FR P EX:B8}
def NumP.len (h:NumP s sg W F FR P EX):s.length=sg.length+(W.length+(FR.length+EX.length))/\F.length<=FR.length/\P.length<=EX.length:=by
 refine⟨by rw[h.eq];simp,?_,?_⟩;·rcases h.fr with⟨e1,e2⟩|e<;>grind
 ·rcases h.ex with⟨e1,e2⟩|e|e<;>grind
def NumP.not_e (h:NumP s sg W F FR P EX) (k:UInt8) (hk:DI k=false) (h46:k≠46):(W++FR).contains k=false:=by
 rw[AIb,AAG hk h.Wd,be];rcases h.fr with⟨e1,e2⟩|e;·grind
 ·rw[e,bb,AAG hk h.Fd,cA];grind
def AlB (h:NumP s sg W F FR P EX) (hn:Fh s=s.length) (hb:s.length<=2^48) (hN:s.length+30<N):Dz N s=some (Pw sg (W++F) (QR (2^40) P-F.length)):=by
 obtain⟨l1,l2,l3⟩:=h.len;have hne:s≠ []:=by rw[h.eq];have:=h.Wn;intro e;have:=db.1 e;have:=db.1 this.2;exact h.Wn this.1
 have hpos:s.length≠0:=λe=>hne (cv.1 e);unfold Dz;have hp:=ABo (N:=N) (l:=s) (t:=s) (i:=0) fA fy fy;rw[ae (by rw[hn];exact hpos)]at hp;have hp':Dc N (TokenReader.mk s 0)=some (s.take (Fh s),true,(⟨s,((0+Fh s:Nat):Int)⟩:TokenReader)):=hp;rw[hp',aa];refine(Av (a:=false) λk4=>?_).trans ?_;·rw[ah rfl,hn,aM (aw _)];simp
 try dsimp only
 rw[ae fB];have hhead: ∀k7:B8×B8->Option (B8×Int),((idx s 0).bind λx11=>if(AC x11==45)=true then (sub s 1 (s.length:Int)).bind λx12=>k7 ([45],x12)else k7 ([],s))=k7 (sg,W++(FR++EX)):=by
  intro k7;rcases h.sg with e|e
  ·have hs:s=W++(FR++EX):=by rw[h.eq,e];rfl
   cases hW:W with
   |nil=>exact absurd hW h.Wn
   | cons c W'=>
    have hc:DI c=true:=by have:=h.Wd;rw[hW,aI,az]at this;exact this.1
    have hs2:s=c::(W'++(FR++EX)):=by rw[hs,hW];rfl
    rw[hs2,show idx (c::(W'++(FR++EX))) 0=some c from rfl,aa,AYt,Vv];have:=Qf hc;have: ¬c.toNat=(45:UInt8).toNat:=by show¬c.toNat=45;omega
    rw[ae (by simpa using this),e];rfl
  ·have hs2:s=45::(W++(FR++EX)):=by rw[h.eq,e];rfl
   rw[hs2,show idx (45::(W++(FR++EX))) 0=some 45 from rfl,aa,ah (by rfl),QL,aa,e]
 refine(Av (a:=(sg,W++(FR++EX))) λk8=>hhead k8).trans ?_;try dsimp only
 rw[lower_eq _ fC,aa];have hWF:(W++FR).map Cn=W++FR:=by
  rw[bZ,AJ3 h.Wd];rcases h.fr with⟨e1,e2⟩|e;·rw[e1];rfl
  ·rw[e,aE,AJ3 h.Fd];rfl
 have hlow:AR 101 ((W++(FR++EX)).map Cn)=(W++FR,P,(AR 101 ((W++(FR++EX)).map Cn)).2.2):=by
  rw[<-aP,bZ,hWF];have hc:=h.not_e 101 fB fB;rcases h.ex with⟨e1,e2⟩|e|e;·rw[e1,e2,bM,bm,AUi hc]
  ·rw[e,aE,AVu h.pw,show Cn 101=101 from rfl,AHK hc]
  ·rw[e,aE,AVu h.pw,show Cn 69=101 from rfl,AHK hc]
 rw[Ml 101 _ fC,aa,hlow];try dsimp only
 have hcut2:AR 46 (W++FR)=(W,F,(AR 46 (W++FR)).2.2):=by
  have hc:=AAG (k:=46) fB h.Wd;rcases h.fr with⟨e1,e2⟩|e;·rw[e1,e2,bm,AUi hc]
  ·rw[e,AHK hc]
 rw[Ml 46 _ fC,aa,hcut2];try dsimp only
 rw[AJ (by unfold AL;omega),Ach 48 (W++F) fB fC,aa];have hml:=(bN (λx:UInt8=>x==48) (l:=W++F)).length_le;rw[an]at hml;have htl:=ACE (λx:UInt8=>x==48) ((W++F).dropWhile (λx:UInt8=>x==48));rw[Ac4 48 _ fB fy fy,aa];unfold Pw;dsimp only;generalize hm1:(W++F).dropWhile (λx:UInt8=>x==48)=m1 at *;generalize hsh:Nv (λx:UInt8=>x==48) m1=sh at *;try dsimp only
 by_cases hz:sh=[];·rw[ah (by simpa using hz),ah hz]
 rw[ae (by simpa using hz),ae hz,Ajy h.pw fy fy,aa];have hev: -(2^40:Int)<=QR (2^40) P/\QR (2^40) P<=(2^40:Int):=by unfold QR;have:min (JJ 0 (P.dropWhile ([43,45]:B8).contains)) (2^40)<=2^40:=eQ _ _;split<;>omega
 generalize QR (2^40) P=x at *;have hw:wr .i64 (wr .i64 (wr .i64 (x-(F.length:Int))+(m1.length:Int))-(sh.length:Int))=x-(F.length:Int)+(m1.length:Int)-(sh.length:Int):=by rw[AO (n:=x-(F.length:Int)) fy,AO (n:=x-(F.length:Int)+(m1.length:Int)) fy,AO fy]
 rw[hw];generalize hy:x-(F.length:Int)+(m1.length:Int)-(sh.length:Int)=y at *;have hsg:sg.length<=1:=by rcases h.sg with e|e<;>rw[e]<;>simp
 refine(Av (a:=decide (sh.length>40\/y< -400\/y>400)) λk26=>?_).trans ?_
 ·by_cases c1:(sh.length:Int)>40;·rw[ah (aA c1),aA (.inl fy)]
  ·rw[ae (by simpa using c1)];by_cases c2:y< -400;·rw[ah (aA c2),aA (.inr (.inl c2))]
   ·rw[ae (by simpa using c2)];congr 1;simp only[dO,decide_eq_decide];omega
 try dsimp only
 by_cases hc:sh.length>40\/y< -400\/y>400;·rw[ah (aA hc),ah hc]
 rw[ae (by simpa using hc),ae hc];have hc': ¬(sh.length>40)/\¬y< -400/\¬y>400:=⟨λh=>hc (.inl h),λh=>hc (.inr (.inl h)),λh=>hc (.inr (.inr h))⟩;have hf:=O3;unfold AnD;by_cases c1:y<0;·rw[ah (aA c1),ah c1,AJ (by unfold AL;omega),AJ (by unfold AL;simp;omega),AO fy,AAC fy fy,Rw _ fy fy,aa];have:=hf (0-y).toNat;have:=hf (-y).toNat;rw[AJ (by unfold AL;simp;omega),show(0-y).toNat=(-y).toNat by omega];simp
 ·rw[ae (by simpa using c1),ae c1];by_cases c2:y>0;·have:=hf y.toNat;rw[ah (aA c2),ah c2,AJ (by unfold AL;omega),AJ (by unfold AL;simp;omega),AAC fy fy,Rw _ fy fy,aa,AJ (by unfold AL;simp;omega)];simp
  ·rw[ae (by simpa using c2),ae c2,AJ (by unfold AL;omega)];simp
end
end
end Go.VM
namespace Go.VM
section
variable{N:Nat}
def ABx (k2:Unit->Option Bool): ∀l:B8,BK N k2 l=if l.all DI=true then k2 ()else some false |[]=>by grind[BK]| c::l=>by rw[BK,QY,aa,ABx k2 l];cases h:DI c<;>simp[h]
def TU (l:B8) (hb:l.length<=2^60):Lh N l=some (!l.isEmpty&&l.all DI):=by unfold Lh GR;cases l with |nil=>rfl| cons c l=>rw[ae fA,AA,BS fy,ABx];cases h:(c::l).all DI<;>simp
def Wh (k2:Unit->Option Bool): ∀l:B8,FZ N k2 l=if l.all DI=true then k2 ()else some false |[]=>by grind[FZ]| c::l=>by rw[FZ,OP,aa,Wh k2 l];cases h:DI c<;>simp[h]
def AR7 (l:B8) (hb:l.length<=2^60):NU N l=some (!l.isEmpty&&l.all DI):=by unfold NU;rw[AA,BS fy,Wh];cases l with |nil=>rfl|cons c l=>cases h:(c::l).all DI<;>simp
def Al7 (k2:Unit->Option (Int×Int)): ∀l:B8,Co N 10 k2 l=if l.all DI=true then k2 ()else some (0,1) |[]=>by grind[Co]| c::l=>by rw[Co,AA,show((10:Int)==10)=true from rfl,show((10:Int)==16)=false from rfl,ah rfl,OP,aa,Al7 k2 l];cases h:DI c<;>simp[h]
def AmG{m:Nat} (hm:m<=18446744073709551615) (hm9:9<=m) (k9:Int->Option (Int×Int)): ∀(l:B8) (n:Nat),l.all DI=true->n<=m->Bd N 10 (m:Int) k9 l (n:Int)=if JJ n l<=m then k9 ((JJ n l:Nat):Int)else some (0,4)
 |[],n,_,hn=>by simp_all[Bd,JJ]
 | c::l,n,h,hn=>by
  simp only[aI,az]at h;have hr:=Qf h.1;have hd:Ep c.toNat<=9:=by rw[(Uq h.1).2];omega
  obtain⟨hx,hv⟩:=Uq h.1;have c57: ¬(AC c>57):=by grind[I6]
  have hdv:wr .u64 (wr .u8 (AC c-48))=((Ep c.toNat:Nat):Int):=by grind[I6,ADs,IV]
  rw[Bd];dsimp only[AA];rw[ae (by grind),hdv,AJ fB,bW fy];have w3:wr .u64 ((m:Int)-((Ep c.toNat:Nat):Int))=(m:Int)-((Ep c.toNat:Nat):Int):=IV fy;have w4:wr .u64 ((m:Int) / 10)=(m:Int) / 10:=IV fy;rw[w3,w4,JJ];have hge:=Tg l (n * 10+Ep c.toNat);by_cases c1:(n:Int)>(m:Int) / 10;·rw[ah (aA c1),ah rfl,ae fy]
  ·have w1:wr .u64 ((n:Int) * 10)=((n * 10:Nat):Int):=by grind[IV]
   rw[ae (by grind),w1];by_cases c2:((n * 10:Nat):Int)>(m:Int)-((Ep c.toNat:Nat):Int);·rw[ah (aA c2),ah rfl,ae fy]
   ·have w2:wr .u64 (((n * 10:Nat):Int)+((Ep c.toNat:Nat):Int))=((n * 10+Ep c.toNat:Nat):Int):=by grind[IV]
    rw[ae (by grind),ae (by grind),w2];exact AmG hm hm9 k9 l _ h.2 fy
def Anq (m:Nat) (l:B8):Int×Int:=if l=[]then(0,3)else if l.all DI=true then(if JJ 0 l<=m then(((JJ 0 l:Nat):Int),0)else(0,4))else(0,1)
def Ad9{m:Nat} (hm:m<=18446744073709551615) (hm9:9<=m) (l:B8) (hb:l.length<=2^60):KJ N l 10 (m:Int)=some (Anq m l):=by
 unfold KJ Anq;by_cases h:l=[];·grind
 ·rw[ae (by grind),ae h,AA,BS fy,Al7];by_cases h1:l.all DI=true;·rw[ah h1,ah h1,AA,BS fy,show(0:Int)=((0:Nat):Int)from rfl,AmG hm hm9 _ l 0 h1 fy];split<;>rfl
  ·rw[ae h1,ae h1]
def GY (m:Nat) (l:B8):Int×Int:=if l=[]then(0,3)else if l.all DI=true then(if 1<l.length/\l.head?=some 48 then(0,6)else if JJ 0 l<=m then(((JJ 0 l:Nat):Int),0)else(0,4))else(0,1)
def b48 (c:UInt8):(AC c==48)=decide (c=48):=by have:=BH (f:=λn=>((n:Int)==48)) (g:=λn=>decide (UInt8.ofNat n=48)) (by kernel_rfl) c;simp only[bo]at this;exact this
def AA6 (c:UInt8) (l:B8) (e:Int×Int):(if decide (((c::l).length:Int)>1)=true then (idx (c::l) 0).bind λx=>if(AC x==48)=true then(some (0,6):Option (Int×Int))else some (e.1,e.2)else if false=true then some (0,6)else some (e.1,e.2))=some (if 1<(c::l).length/\(c::l).head?=some 48 then(0,6)else e):=by
 by_cases hl:1<(c::l).length
 ·rw[ah (by simp only[aq];omega),show idx (c::l) 0=some c from rfl,aa,b48];by_cases hc:c=48;·rw[aA hc,ah rfl,ah ⟨hl,by simp[hc]⟩]
  ·rw[aO hc,ae fB,ae (by simp[hc])]
 simp_all
def ACi{m:Nat} (hm:m<=18446744073709551615) (l:B8) (hb:l.length<=2^60):Ko N l (m:Int)=some (GY m l):=by
 unfold Ko GY;dsimp only[AA];rw[TU l hb,aa,AEI hm l hb,aa];cases l with
 |nil=>rfl
 | cons c l=>
  simp only[reduceCtorEq,au];obtain⟨b,h⟩: ∃b,(c::l).all DI=b:=⟨_,rfl⟩;rw[h];cases b;·simp
  ·rw[ah (by rfl),ah rfl,ah rfl];have hd: ∀e:Int×Int,(if decide (((c::l).length:Int)>1)=true then (idx (c::l) 0).bind λx=>if(AC x==48)=true then(some (0,6):Option (Int×Int))else some (e.1,e.2)else if false=true then some (0,6)else some (e.1,e.2))=some (if 1<(c::l).length/\(c::l).head?=some 48 then(0,6)else e):=AA6 c l;simp_all
def ABU{m:Nat} (hm:m<=18446744073709551615) (hm9:9<=m) (l:B8) (hb:l.length<=2^60):Ll N l (m:Int)=some (GY m l):=by
 have hp:=Ad9 (N:=N) hm hm9 l hb;unfold Anq at hp;unfold Ll GY;rw[hp,aa];dsimp only[AA];cases l with
 |nil=>rfl
 | cons c l=>
  simp only[reduceCtorEq,au];obtain⟨b,h⟩: ∃b,(c::l).all DI=b:=⟨_,rfl⟩;rw[h];cases b;·rfl
  ·simp only[av];have hd:=AA6 c l;by_cases hv:JJ 0 (c::l)<=m;·simp_all
   ·rw[ae hv,ae fA,ah (by rfl)];grind
end
end Go.VM
namespace Go.VM
section
variable{N:Nat}
def AJy (c:UInt8):Bool:=BU c||(DI c||decide (c=45))
def b45 (c:UInt8):(AC c==45)=decide (c=45):=by have:=BH (f:=λn=>((n:Int)==45)) (g:=λn=>decide (UInt8.ofNat n=45)) (by kernel_rfl) c;simp only[bo]at this;exact this
def AE5 (k8:Unit->Option Bool): ∀l:B8,He N k8 l=if l.all AJy=true then k8 ()else some false |[]=>by grind[He]| c::l=>by rw[He,AA,N9,aa,QY,aa,bne,b45,AE5 k8 l,aI];unfold AJy;cases BU c<;>cases DI c<;>cases decide (c=45)<;>simp
def AD8 (k2:Unit->Option Bool): ∀l:B8,GK N k2 l=if l.all AJy=true then k2 ()else some false |[]=>by grind[GK]| c::l=>by rw[GK,AA,PX,aa,OP,aa,bne,b45,AD8 k2 l,aI];unfold AJy;cases BU c<;>cases DI c<;>cases decide (c=45)<;>simp
def Pv (l:B8):Bool:=!l.isEmpty&&(decide (l.length<=63)&&(decide (l.head?≠some 45)&&(decide (l.getLast?≠some 45)&&l.all AJy)))
def ADv{c:UInt8}{l:B8} (hb:(c::l).length<=2^60): ∃d,(c::l).getLast?=some d/\idx (c::l) (wr .i64 (((c::l).length:Int)-1))=some d:=by have hne:(c::l)≠ []:=fA;refine⟨(c::l).getLast hne,ce hne,?_⟩;rw[show wr .i64 (((c::l).length:Int)-1)=(((c::l).length-1:Nat):Int) by simp only[ag]at hb⊢;rw[AO fy];omega,Jt,<-dA,ce hne]
def AWs (l:B8) (hb:l.length<=2^60):Pn N l=some (Pv l):=by
 unfold Pn Pv;dsimp only[AA];cases l with
 |nil=>rfl
 | cons c l=>
  obtain⟨d,h1,h2⟩:=ADv hb;rw[ae fA,h2,h1,show idx (c::l) 0=some c from rfl,aa,aa,b45,b45,BS fy,AE5];by_cases hl:(c::l).length<=63
  ·rw [ae (by simp only[aq];omega),aA hl];by_cases hc:c=45;·simp_all
   ·rw[aO hc,ae fB];by_cases hd:d=45;·simp_all
    ·rw[aO hd,ae fB];obtain⟨b,hb2⟩: ∃b,(c::l).all AJy=b:=⟨_,rfl⟩;rw[hb2];cases b<;>simp[hc,hd]
  ·rw[ah (by simp only[aq];omega),ah rfl,aO hl];simp
def AZw (l:B8) (hb:l.length<=2^60):Oc N l=some (Pv l):=by
 unfold Oc Pv;dsimp only[AA];rw[BS fy,AD8];cases l with
 |nil=>rfl
 | cons c l=>
  obtain⟨d,h1,h2⟩:=ADv hb;obtain⟨b,hb2⟩: ∃b,(c::l).all AJy=b:=⟨_,rfl⟩;rw[ae (c:=((c::l==[])=true)) fA,h2,h1,show idx (c::l) 0=some c from rfl,aa,aa,bne,bne,b45,b45,hb2];cases b;·simp
  ·rw[ah rfl];by_cases hl:(c::l).length<=63;·rw[ah (by simp only[aq];omega),aA hl];by_cases hc:c=45<;>simp_all
   ·rw[ae (by simp only[aq];omega),aO hl];simp
end
end Go.VM
